/- Part 4 of the base that the seat's proofs share: words, walks and plain laws. -/
import Derived.ArgAppend
import Derived.Below
import Derived.BigQuiet
import Derived.ChangeOld
import Derived.ChangeSlices
import Derived.Deep.AppendLies
import Derived.Deep.CutBlock
import Derived.Deep.DeepCutAuto
import Derived.Deep.Draws
import Derived.Deep.LoopGhost
import Derived.Deep.OwnRows
import Derived.Deep.QuietTactic
import Derived.Deep.RegionHeld3
import Derived.Deep.Slices
import Derived.KernelRfl
import Derived.Laws.BitsLemmas
import Derived.Laws.BytesArg
import Derived.Laws.IdiomCopy
import Derived.Laws.MakeOwn
import Derived.Laws.OwnMore
import Derived.Laws.Rows
import Derived.Laws.Slices
import Derived.Laws.StructEq
import Derived.Lib.AppendStr
import Derived.Lib.ConvBytes
import Derived.LoopIn
import Derived.LoopNIn
import Derived.Maps.AppendAt
import Derived.Maps.Own
import Derived.OpenShut
import Derived.OrdersHeld
import Derived.OwnWalk
import Derived.OwnWalkIn
import Derived.ProofKit
import Derived.RangeFuncBound
import Derived.RangeFuncCalls
import Derived.RangeFuncLeaves
import Derived.RangeFuncNested
import Derived.RowKit
import Derived.RowKit3
import Derived.ShutString
import Derived.SizedLaws
import Derived.Sort.CutIn
import Derived.Stop.RegionWithIn
import Derived.Tactics
import Derived.TacticsInMore
import Derived.Test.YthjjabcbngffoaaProg
import Derived.WalkKit
import Derived.WideLaws
import Derived.Test.YthjjabcbngffoaaCUc
set_option linter.unusedVariables false
set_option linter.unusedSimpArgs false
section
namespace Go.Proofs.Ythjjabcbngffoaa.P
open Go.RowKit Go.Proofs.YthjjabcbngffoaaW.PrintWords Go.Proofs.YthjjabcbngffoaaW.PrintLast Go.Proofs.YthjjabcbngffoaaW.PrintMore
attribute [local go_sem] max2_int min2_int max_two min_two max_three min_three max_four min_four
set_option linter.unusedVariables false
set_option linter.unusedSimpArgs false
set_option maxHeartbeats 8000000
set_option maxRecDepth 100000
section
attribute [local go_sem high] eqA40
def cohousingtop_w17Pipes.f  : Option (Bool) := (some (([(⟨1, 0, 2⟩ : S63), (⟨2, 1, 0⟩ : S63), (⟨3, 1, 0⟩ : S63)] : List (S63)) : List (S63))).bind fun y514 => ((charges_Network.f 100 y514 (([(⟨10, 10⟩ : S38), (⟨3, 5⟩ : S38), (⟨0, 100⟩ : S38)] : List (S38))) (([4, 7] : List Int))).bind fun bt523 => ((charges_Network.f 100 y514 (([(⟨10, 10⟩ : S38), (⟨5, 5⟩ : S38), (⟨0, 100⟩ : S38)] : List (S38))) (([4, 7] : List Int))).bind fun bt534 => ((settle_Settle.f bt523.1 bt534.1 bt523.2.1 bt534.2.1).bind fun bt539 => (if bt523.2.2 = 0 then (if bt534.2.2 = 0 then (if bt539.2.2 = 0 then (if bt523.2.1 = 10 then (if bt534.2.1 = 10 then (if bt539.2.1 = 0 then (if (bt539.1.length : Int) = 2 then (if 0 < (bt539.1.length : Int) then (if (((rd_T40 bt539.1 0).f0) == 4 && (((rd_T40 bt539.1 0).f1) == 10 && ((((rd_T40 bt539.1 0).f2.f0) == 10 && (((rd_T40 bt539.1 0).f2.f1) == 10)) && (((rd_T40 bt539.1 0).f3))))) = true then (if 1 < (bt539.1.length : Int) then (some (((rd_T40 bt539.1 1).f0) == 7 && (((rd_T40 bt539.1 1).f1) == (-10) && ((((rd_T40 bt539.1 1).f2.f0) == (-20) && (((rd_T40 bt539.1 1).f2.f1) == 0)) && (!((rd_T40 bt539.1 1).f3)))))) else (none)) else (some false)) else (none)) else (some false)) else (some false)) else (some false)) else (some false)) else (some false)) else (some false)) else (some false)))))
theorem cohousingtop_w17Pipes.yes : ∀ r, cohousingtop_w17Pipes.f = some r → r = true := fun r h => by
 rw [show cohousingtop_w17Pipes.f = some true by kernel_rfl] at h
 exact (Option.some.inj h).symm
theorem cohousingtop_w17Pipes.calls  (r : Bool) (w : World) (h : cohousingtop_w17Pipes.f  = some r) :
  Calls Try.prog 27 #[] w fun e w' => e = .returned (.bool r) ∧ Below w.heap.size w w' := by
 have hr_ := cohousingtop_w17Pipes.yes r h
 subst hr_
 have hu63 := Try.underlying63
 have hu38 := Try.underlying38
 have hu40 := Try.underlying40
 have HB := Aside0.mk (Below.refl w.heap.size w)
 have H : ((some (([(⟨1, 0, 2⟩ : S63), (⟨2, 1, 0⟩ : S63), (⟨3, 1, 0⟩ : S63)] : List (S63)) : List (S63))).bind fun y514 => ((charges_Network.f 100 y514 (([(⟨10, 10⟩ : S38), (⟨3, 5⟩ : S38), (⟨0, 100⟩ : S38)] : List (S38))) (([4, 7] : List Int))).bind fun bt523 => ((charges_Network.f 100 y514 (([(⟨10, 10⟩ : S38), (⟨5, 5⟩ : S38), (⟨0, 100⟩ : S38)] : List (S38))) (([4, 7] : List Int))).bind fun bt534 => ((settle_Settle.f bt523.1 bt534.1 bt523.2.1 bt534.2.1).bind fun bt539 => (if bt523.2.2 = 0 then (if bt534.2.2 = 0 then (if bt539.2.2 = 0 then (if bt523.2.1 = 10 then (if bt534.2.1 = 10 then (if bt539.2.1 = 0 then (if (bt539.1.length : Int) = 2 then (if 0 < (bt539.1.length : Int) then (if (((rd_T40 bt539.1 0).f0) == 4 && (((rd_T40 bt539.1 0).f1) == 10 && ((((rd_T40 bt539.1 0).f2.f0) == 10 && (((rd_T40 bt539.1 0).f2.f1) == 10)) && (((rd_T40 bt539.1 0).f3))))) = true then (if 1 < (bt539.1.length : Int) then (some (((rd_T40 bt539.1 1).f0) == 7 && (((rd_T40 bt539.1 1).f1) == (-10) && ((((rd_T40 bt539.1 1).f2.f0) == (-20) && (((rd_T40 bt539.1 1).f2.f1) == 0)) && (!((rd_T40 bt539.1 1).f3)))))) else (none)) else (some false)) else (none)) else (some false)) else (some false)) else (some false)) else (some false)) else (some false)) else (some false)) else (some false)))))) = some true := h
 clear h
 obtain ⟨y514, hy514⟩ : ∃ y_ : List (S63), y_ = (([(⟨1, 0, 2⟩ : S63), (⟨2, 1, 0⟩ : S63), (⟨3, 1, 0⟩ : S63)] : List (S63))) := ⟨_, rfl⟩
 replace H : ((charges_Network.f 100 y514 (([(⟨10, 10⟩ : S38), (⟨3, 5⟩ : S38), (⟨0, 100⟩ : S38)] : List (S38))) (([4, 7] : List Int))).bind fun bt523 => ((charges_Network.f 100 y514 (([(⟨10, 10⟩ : S38), (⟨5, 5⟩ : S38), (⟨0, 100⟩ : S38)] : List (S38))) (([4, 7] : List Int))).bind fun bt534 => ((settle_Settle.f bt523.1 bt534.1 bt523.2.1 bt534.2.1).bind fun bt539 => (if bt523.2.2 = 0 then (if bt534.2.2 = 0 then (if bt539.2.2 = 0 then (if bt523.2.1 = 10 then (if bt534.2.1 = 10 then (if bt539.2.1 = 0 then (if (bt539.1.length : Int) = 2 then (if 0 < (bt539.1.length : Int) then (if (((rd_T40 bt539.1 0).f0) == 4 && (((rd_T40 bt539.1 0).f1) == 10 && ((((rd_T40 bt539.1 0).f2.f0) == 10 && (((rd_T40 bt539.1 0).f2.f1) == 10)) && (((rd_T40 bt539.1 0).f3))))) = true then (if 1 < (bt539.1.length : Int) then (some (((rd_T40 bt539.1 1).f0) == 7 && (((rd_T40 bt539.1 1).f1) == (-10) && ((((rd_T40 bt539.1 1).f2.f0) == (-20) && (((rd_T40 bt539.1 1).f2.f1) == 0)) && (!((rd_T40 bt539.1 1).f3)))))) else (none)) else (some false)) else (none)) else (some false)) else (some false)) else (some false)) else (some false)) else (some false)) else (some false)) else (some false))))) = some true := by first | (rw [hy514]; with_reducible exact H) | (have H2_ := (Option.bind_some _ _).symm.trans H; rw [hy514]; with_reducible exact H2_) | (have H2_ := (Option.bind_some _ _).symm.trans H; with_reducible exact H2_) | with_reducible exact H | (rw [hy514]; exact H) | exact H
 have Ny514 := Aside0.mk hy514
 clear hy514
 obtain ⟨y517, hy517⟩ : ∃ y_ : List (S38), y_ = (([(⟨10, 10⟩ : S38), (⟨3, 5⟩ : S38), (⟨0, 100⟩ : S38)] : List (S38))) := ⟨_, rfl⟩
 replace H : ((charges_Network.f 100 y514 y517 (([4, 7] : List Int))).bind fun bt523 => ((charges_Network.f 100 y514 (([(⟨10, 10⟩ : S38), (⟨5, 5⟩ : S38), (⟨0, 100⟩ : S38)] : List (S38))) (([4, 7] : List Int))).bind fun bt534 => ((settle_Settle.f bt523.1 bt534.1 bt523.2.1 bt534.2.1).bind fun bt539 => (if bt523.2.2 = 0 then (if bt534.2.2 = 0 then (if bt539.2.2 = 0 then (if bt523.2.1 = 10 then (if bt534.2.1 = 10 then (if bt539.2.1 = 0 then (if (bt539.1.length : Int) = 2 then (if 0 < (bt539.1.length : Int) then (if (((rd_T40 bt539.1 0).f0) == 4 && (((rd_T40 bt539.1 0).f1) == 10 && ((((rd_T40 bt539.1 0).f2.f0) == 10 && (((rd_T40 bt539.1 0).f2.f1) == 10)) && (((rd_T40 bt539.1 0).f3))))) = true then (if 1 < (bt539.1.length : Int) then (some (((rd_T40 bt539.1 1).f0) == 7 && (((rd_T40 bt539.1 1).f1) == (-10) && ((((rd_T40 bt539.1 1).f2.f0) == (-20) && (((rd_T40 bt539.1 1).f2.f1) == 0)) && (!((rd_T40 bt539.1 1).f3)))))) else (none)) else (some false)) else (none)) else (some false)) else (some false)) else (some false)) else (some false)) else (some false)) else (some false)) else (some false))))) = some true := by first | (rw [hy517]; with_reducible exact H) | (have H2_ := (Option.bind_some _ _).symm.trans H; rw [hy517]; with_reducible exact H2_) | (have H2_ := (Option.bind_some _ _).symm.trans H; with_reducible exact H2_) | with_reducible exact H | (rw [hy517]; exact H) | exact H
 have Ny517 := Aside0.mk hy517
 clear hy517
 obtain ⟨y520, hy520⟩ : ∃ y_ : List Int, y_ = (([4, 7] : List Int)) := ⟨_, rfl⟩
 replace H : ((charges_Network.f 100 y514 y517 y520).bind fun bt523 => ((charges_Network.f 100 y514 (([(⟨10, 10⟩ : S38), (⟨5, 5⟩ : S38), (⟨0, 100⟩ : S38)] : List (S38))) (([4, 7] : List Int))).bind fun bt534 => ((settle_Settle.f bt523.1 bt534.1 bt523.2.1 bt534.2.1).bind fun bt539 => (if bt523.2.2 = 0 then (if bt534.2.2 = 0 then (if bt539.2.2 = 0 then (if bt523.2.1 = 10 then (if bt534.2.1 = 10 then (if bt539.2.1 = 0 then (if (bt539.1.length : Int) = 2 then (if 0 < (bt539.1.length : Int) then (if (((rd_T40 bt539.1 0).f0) == 4 && (((rd_T40 bt539.1 0).f1) == 10 && ((((rd_T40 bt539.1 0).f2.f0) == 10 && (((rd_T40 bt539.1 0).f2.f1) == 10)) && (((rd_T40 bt539.1 0).f3))))) = true then (if 1 < (bt539.1.length : Int) then (some (((rd_T40 bt539.1 1).f0) == 7 && (((rd_T40 bt539.1 1).f1) == (-10) && ((((rd_T40 bt539.1 1).f2.f0) == (-20) && (((rd_T40 bt539.1 1).f2.f1) == 0)) && (!((rd_T40 bt539.1 1).f3)))))) else (none)) else (some false)) else (none)) else (some false)) else (some false)) else (some false)) else (some false)) else (some false)) else (some false)) else (some false))))) = some true := by first | (rw [hy520]; with_reducible exact H) | (have H2_ := (Option.bind_some _ _).symm.trans H; rw [hy520]; with_reducible exact H2_) | (have H2_ := (Option.bind_some _ _).symm.trans H; with_reducible exact H2_) | with_reducible exact H | (rw [hy520]; exact H) | exact H
 have Ny520 := Aside0.mk hy520
 clear hy520
 replace H := Option.bind_eq_some_iff.mp H
 obtain ⟨⟨t523, t524, t525⟩, A10, H⟩ := H
 replace H : ((charges_Network.f 100 y514 (([(⟨10, 10⟩ : S38), (⟨5, 5⟩ : S38), (⟨0, 100⟩ : S38)] : List (S38))) (([4, 7] : List Int))).bind fun bt534 => ((settle_Settle.f t523 bt534.1 t524 bt534.2.1).bind fun bt539 => (if t525 = 0 then (if bt534.2.2 = 0 then (if bt539.2.2 = 0 then (if t524 = 10 then (if bt534.2.1 = 10 then (if bt539.2.1 = 0 then (if (bt539.1.length : Int) = 2 then (if 0 < (bt539.1.length : Int) then (if (((rd_T40 bt539.1 0).f0) == 4 && (((rd_T40 bt539.1 0).f1) == 10 && ((((rd_T40 bt539.1 0).f2.f0) == 10 && (((rd_T40 bt539.1 0).f2.f1) == 10)) && (((rd_T40 bt539.1 0).f3))))) = true then (if 1 < (bt539.1.length : Int) then (some (((rd_T40 bt539.1 1).f0) == 7 && (((rd_T40 bt539.1 1).f1) == (-10) && ((((rd_T40 bt539.1 1).f2.f0) == (-20) && (((rd_T40 bt539.1 1).f2.f1) == 0)) && (!((rd_T40 bt539.1 1).f3)))))) else (none)) else (some false)) else (none)) else (some false)) else (some false)) else (some false)) else (some false)) else (some false)) else (some false)) else (some false)))) = some true := H
 have A1 := Aside0.mk A10
 clear A10
 obtain ⟨y528, hy528⟩ : ∃ y_ : List (S38), y_ = (([(⟨10, 10⟩ : S38), (⟨5, 5⟩ : S38), (⟨0, 100⟩ : S38)] : List (S38))) := ⟨_, rfl⟩
 replace H : ((charges_Network.f 100 y514 y528 (([4, 7] : List Int))).bind fun bt534 => ((settle_Settle.f t523 bt534.1 t524 bt534.2.1).bind fun bt539 => (if t525 = 0 then (if bt534.2.2 = 0 then (if bt539.2.2 = 0 then (if t524 = 10 then (if bt534.2.1 = 10 then (if bt539.2.1 = 0 then (if (bt539.1.length : Int) = 2 then (if 0 < (bt539.1.length : Int) then (if (((rd_T40 bt539.1 0).f0) == 4 && (((rd_T40 bt539.1 0).f1) == 10 && ((((rd_T40 bt539.1 0).f2.f0) == 10 && (((rd_T40 bt539.1 0).f2.f1) == 10)) && (((rd_T40 bt539.1 0).f3))))) = true then (if 1 < (bt539.1.length : Int) then (some (((rd_T40 bt539.1 1).f0) == 7 && (((rd_T40 bt539.1 1).f1) == (-10) && ((((rd_T40 bt539.1 1).f2.f0) == (-20) && (((rd_T40 bt539.1 1).f2.f1) == 0)) && (!((rd_T40 bt539.1 1).f3)))))) else (none)) else (some false)) else (none)) else (some false)) else (some false)) else (some false)) else (some false)) else (some false)) else (some false)) else (some false)))) = some true := by first | (rw [hy528]; with_reducible exact H) | (have H2_ := (Option.bind_some _ _).symm.trans H; rw [hy528]; with_reducible exact H2_) | (have H2_ := (Option.bind_some _ _).symm.trans H; with_reducible exact H2_) | with_reducible exact H | (rw [hy528]; exact H) | exact H
 have Ny528 := Aside0.mk hy528
 clear hy528
 obtain ⟨y531, hy531⟩ : ∃ y_ : List Int, y_ = (([4, 7] : List Int)) := ⟨_, rfl⟩
 replace H : ((charges_Network.f 100 y514 y528 y531).bind fun bt534 => ((settle_Settle.f t523 bt534.1 t524 bt534.2.1).bind fun bt539 => (if t525 = 0 then (if bt534.2.2 = 0 then (if bt539.2.2 = 0 then (if t524 = 10 then (if bt534.2.1 = 10 then (if bt539.2.1 = 0 then (if (bt539.1.length : Int) = 2 then (if 0 < (bt539.1.length : Int) then (if (((rd_T40 bt539.1 0).f0) == 4 && (((rd_T40 bt539.1 0).f1) == 10 && ((((rd_T40 bt539.1 0).f2.f0) == 10 && (((rd_T40 bt539.1 0).f2.f1) == 10)) && (((rd_T40 bt539.1 0).f3))))) = true then (if 1 < (bt539.1.length : Int) then (some (((rd_T40 bt539.1 1).f0) == 7 && (((rd_T40 bt539.1 1).f1) == (-10) && ((((rd_T40 bt539.1 1).f2.f0) == (-20) && (((rd_T40 bt539.1 1).f2.f1) == 0)) && (!((rd_T40 bt539.1 1).f3)))))) else (none)) else (some false)) else (none)) else (some false)) else (some false)) else (some false)) else (some false)) else (some false)) else (some false)) else (some false)))) = some true := by first | (rw [hy531]; with_reducible exact H) | (have H2_ := (Option.bind_some _ _).symm.trans H; rw [hy531]; with_reducible exact H2_) | (have H2_ := (Option.bind_some _ _).symm.trans H; with_reducible exact H2_) | with_reducible exact H | (rw [hy531]; exact H) | exact H
 have Ny531 := Aside0.mk hy531
 clear hy531
 replace H := Option.bind_eq_some_iff.mp H
 obtain ⟨⟨t534, t535, t536⟩, A20, H⟩ := H
 replace H : ((settle_Settle.f t523 t534 t524 t535).bind fun bt539 => (if t525 = 0 then (if t536 = 0 then (if bt539.2.2 = 0 then (if t524 = 10 then (if t535 = 10 then (if bt539.2.1 = 0 then (if (bt539.1.length : Int) = 2 then (if 0 < (bt539.1.length : Int) then (if (((rd_T40 bt539.1 0).f0) == 4 && (((rd_T40 bt539.1 0).f1) == 10 && ((((rd_T40 bt539.1 0).f2.f0) == 10 && (((rd_T40 bt539.1 0).f2.f1) == 10)) && (((rd_T40 bt539.1 0).f3))))) = true then (if 1 < (bt539.1.length : Int) then (some (((rd_T40 bt539.1 1).f0) == 7 && (((rd_T40 bt539.1 1).f1) == (-10) && ((((rd_T40 bt539.1 1).f2.f0) == (-20) && (((rd_T40 bt539.1 1).f2.f1) == 0)) && (!((rd_T40 bt539.1 1).f3)))))) else (none)) else (some false)) else (none)) else (some false)) else (some false)) else (some false)) else (some false)) else (some false)) else (some false)) else (some false))) = some true := H
 have A2 := Aside0.mk A20
 clear A20
 replace H := Option.bind_eq_some_iff.mp H
 obtain ⟨⟨t539, t540, t541⟩, A30, H⟩ := H
 replace H : (if t525 = 0 then (if t536 = 0 then (if t541 = 0 then (if t524 = 10 then (if t535 = 10 then (if t540 = 0 then (if (t539.length : Int) = 2 then (if 0 < (t539.length : Int) then (if (((rd_T40 t539 0).f0) == 4 && (((rd_T40 t539 0).f1) == 10 && ((((rd_T40 t539 0).f2.f0) == 10 && (((rd_T40 t539 0).f2.f1) == 10)) && (((rd_T40 t539 0).f3))))) = true then (if 1 < (t539.length : Int) then (some (((rd_T40 t539 1).f0) == 7 && (((rd_T40 t539 1).f1) == (-10) && ((((rd_T40 t539 1).f2.f0) == (-20) && (((rd_T40 t539 1).f2.f1) == 0)) && (!((rd_T40 t539 1).f3)))))) else (none)) else (some false)) else (none)) else (some false)) else (some false)) else (some false)) else (some false)) else (some false)) else (some false)) else (some false)) = some true := H
 have A3 := Aside0.mk A30
 clear A30
 by_cases c4 : t525 = 0
 ·rw [if_pos c4] at H
  have c4b0 : (t525 == 0) = true := beq_iff_eq.mpr c4
  have c4b1 : (t525 != 0) = false := bne_eq_false_iff_eq.mpr c4
  clear c4
  by_cases c5 : t536 = 0
  ·rw [if_pos c5] at H
   have c5b0 : (t536 == 0) = true := beq_iff_eq.mpr c5
   have c5b1 : (t536 != 0) = false := bne_eq_false_iff_eq.mpr c5
   clear c5
   by_cases c6 : t541 = 0
   ·rw [if_pos c6] at H
    have c6b0 : (t541 == 0) = true := beq_iff_eq.mpr c6
    have c6b1 : (t541 != 0) = false := bne_eq_false_iff_eq.mpr c6
    clear c6
    by_cases c7 : t524 = 10
    ·rw [if_pos c7] at H
     have c7b0 : (t524 == 10) = true := beq_iff_eq.mpr c7
     have c7b1 : (t524 != 10) = false := bne_eq_false_iff_eq.mpr c7
     clear c7
     by_cases c8 : t535 = 10
     ·rw [if_pos c8] at H
      have c8b0 : (t535 == 10) = true := beq_iff_eq.mpr c8
      have c8b1 : (t535 != 10) = false := bne_eq_false_iff_eq.mpr c8
      clear c8
      by_cases c9 : t540 = 0
      ·rw [if_pos c9] at H
       have c9b0 : (t540 == 0) = true := beq_iff_eq.mpr c9
       have c9b1 : (t540 != 0) = false := bne_eq_false_iff_eq.mpr c9
       clear c9
       by_cases c10 : (t539.length : Int) = 2
       ·rw [if_pos c10] at H
        have c10b0 : ((t539.length : Int) == 2) = true := beq_iff_eq.mpr c10
        have c10b1 : ((t539.length : Int) != 2) = false := bne_eq_false_iff_eq.mpr c10
        clear c10
        by_cases c11 : 0 < (t539.length : Int)
        ·rw [if_pos c11] at H
         have c11b0 : decide (0 < (t539.length : Int)) = true := decide_eq_true c11
         have c11b1 : decide (0 < t539.length) = true := decide_eq_true (by omega)
         clear c11
         by_cases c12 : (((rd_T40 t539 0).f0) == 4 && (((rd_T40 t539 0).f1) == 10 && ((((rd_T40 t539 0).f2.f0) == 10 && (((rd_T40 t539 0).f2.f1) == 10)) && (((rd_T40 t539 0).f3))))) = true
         ·rw [if_pos c12] at H
          have c12b0 : (((rd_T40 t539 0).f0) == 4 && (((rd_T40 t539 0).f1) == 10 && ((((rd_T40 t539 0).f2.f0) == 10 && (((rd_T40 t539 0).f2.f1) == 10)) && (((rd_T40 t539 0).f3))))) = true := c12
          (try (have c12b1 : decide (((rd_T40 t539 0).f0) = 4 && (((rd_T40 t539 0).f1) == 10 && ((((rd_T40 t539 0).f2.f0) == 10 && (((rd_T40 t539 0).f2.f1) == 10)) && (((rd_T40 t539 0).f3))))) = true := by simpa using c12))
          (try (have c12b2 : (((rd_T40 t539 0).f0) == 4 && (((rd_T40 t539 0).f1) == 10 && ((((rd_T40 t539 0).f2.f0) == 10 && (((rd_T40 t539 0).f2.f1) == 10)) && (((rd_T40 t539 0).f3))))) = true := by simpa using c12))
          clear c12
          by_cases c13 : 1 < (t539.length : Int)
          ·rw [if_pos c13] at H
           have c13b0 : decide (1 < (t539.length : Int)) = true := decide_eq_true c13
           have c13b1 : decide (1 < t539.length) = true := decide_eq_true (by omega)
           clear c13
           have hfin_ := Option.some.inj H
           go_enter Try.func27, Try.ntmps27
           go_wp2_with (first | ((with_reducible refine gate_dst (N := 14) rfl ?_); (try (refine gate_guard (by rfl) ?_; dsimp only)); refine Kd.R_lit k63 _ 63 ?hg (N := 14) ?hd (xs := ([(⟨1, 0, 2⟩ : S63), (⟨2, 1, 0⟩ : S63), (⟨3, 1, 0⟩ : S63)] : List (S63))) (inner := [.int .i64 1, .int .i64 0, .int .i64 2, .int .i64 2, .int .i64 1, .int .i64 0, .int .i64 3, .int .i64 1, .int .i64 0]) (ok := fun _ => True) (okp := fun _ => True) ?hr ?hp (fun _ hk => hk) trivial (Below.refl _ _) (Nat.le_refl _) (by simp) ?_; (case hd => rfl); (case hg => rfl); (case hr => first | (go_simp; done) | (go_simp; rfl)); (case hp => exact (Reps.c3 (show Kd.M k63 _ _ _ (⟨1, 0, 2⟩ : S63) [.int .i64 1, .int .i64 0, .int .i64 2] from (k63_mkM _ _ _ (⟨1, 0, 2⟩ : S63) )) (Reps.c3 (show Kd.M k63 _ _ _ (⟨2, 1, 0⟩ : S63) [.int .i64 2, .int .i64 1, .int .i64 0] from (k63_mkM _ _ _ (⟨2, 1, 0⟩ : S63) )) (Reps.c3 (show Kd.M k63 _ _ _ (⟨3, 1, 0⟩ : S63) [.int .i64 3, .int .i64 1, .int .i64 0] from (k63_mkM _ _ _ (⟨3, 1, 0⟩ : S63) )) (Reps.none _ _))))); intro v515 w14 ho15 hb hg_ hnew_; clear hg_ hnew_; (first | rw [← Ny514.out] at ho15 | (simp only [Int.reduceToNat] at ho15; rw [← Ny514.out] at ho15)); have n0_ := Aside0.mk (Kd.R_lower ho15 (below_size (bb_ HB))); have n1_ := Aside0.mk (below_step (bb_ HB) hb); clear HB; have HO516 := n0_; have HB := n1_; clear n0_ n1_; clear hb ho15) | ((with_reducible refine gate_dst (N := 20) rfl ?_); (try (refine gate_guard (by rfl) ?_; dsimp only)); refine Kd.R_lit k38 _ 38 ?hg (N := 20) ?hd (xs := ([(⟨10, 10⟩ : S38), (⟨3, 5⟩ : S38), (⟨0, 100⟩ : S38)] : List (S38))) (inner := [.int .i64 10, .int .i64 10, .int .i64 3, .int .i64 5, .int .i64 0, .int .i64 100]) (ok := fun _ => True) (okp := fun _ => True) ?hr ?hp (fun _ hk => hk) trivial (Below.refl _ _) (Nat.le_refl _) (by simp) ?_; (case hd => rfl); (case hg => rfl); (case hr => first | (go_simp; done) | (go_simp; rfl)); (case hp => exact (Reps.c2 (show Kd.M k38 _ _ _ (⟨10, 10⟩ : S38) [.int .i64 10, .int .i64 10] from (k38_mkM _ _ _ (⟨10, 10⟩ : S38) )) (Reps.c2 (show Kd.M k38 _ _ _ (⟨3, 5⟩ : S38) [.int .i64 3, .int .i64 5] from (k38_mkM _ _ _ (⟨3, 5⟩ : S38) )) (Reps.c2 (show Kd.M k38 _ _ _ (⟨0, 100⟩ : S38) [.int .i64 0, .int .i64 100] from (k38_mkM _ _ _ (⟨0, 100⟩ : S38) )) (Reps.none _ _))))); intro v518 w16 ho17 hb hg_ hnew_; clear hg_ hnew_; (first | rw [← Ny517.out] at ho17 | (simp only [Int.reduceToNat] at ho17; rw [← Ny517.out] at ho17)); have n0_ := Aside0.mk (Kd.R_below (rr_ HO516) hb); have n1_ := Aside0.mk (Kd.R_lower ho17 (below_size (bb_ HB))); have n2_ := Aside0.mk (below_step (bb_ HB) hb); clear HO516; clear HB; have HO516 := n0_; have HO519 := n1_; have HB := n2_; clear n0_ n1_ n2_; clear hb ho17) | ((with_reducible refine gate_dst (N := 21) rfl ?_); (try (refine gate_guard (by rfl) ?_; dsimp only)); refine Kd.R_lit (Kd.int .i64) _ 3 ?hg (N := 21) ?hd (xs := ([4, 7] : List Int)) (inner := [.int .i64 4, .int .i64 7]) (ok := fun _ => True) (okp := fun _ => True) ?hr ?hp (fun _ hk => hk) trivial (Below.refl _ _) (Nat.le_refl _) (by simp) ?_; (case hd => rfl); (case hg => rfl); (case hr => first | (go_simp; done) | (go_simp; rfl)); (case hp => exact (Reps.one (show Kd.M (Kd.int .i64) _ _ _ 4 [.int .i64 4] from rfl) (Reps.one (show Kd.M (Kd.int .i64) _ _ _ 7 [.int .i64 7] from rfl) (Reps.none _ _)))); intro v521 w18 ho19 hb hg_ hnew_; clear hg_ hnew_; (first | rw [← Ny520.out] at ho19 | (simp only [Int.reduceToNat] at ho19; rw [← Ny520.out] at ho19)); have n0_ := Aside0.mk (Kd.R_below (rr_ HO516) hb); have n1_ := Aside0.mk (Kd.R_below (rr_ HO519) hb); have n2_ := Aside0.mk (Kd.R_lower ho19 (below_size (bb_ HB))); have n3_ := Aside0.mk (below_step (bb_ HB) hb); clear HO516; clear HO519; clear HB; have HO516 := n0_; have HO519 := n1_; have HO522 := n2_; have HB := n3_; clear n0_ n1_ n2_ n3_; clear hb ho19; obtain ⟨Ao20, co20, eo20⟩ := Kd.R_slice HO516.out; subst eo20; obtain ⟨Ao21, co21, eo21⟩ := Kd.R_slice HO519.out; subst eo21; obtain ⟨Ao22, co22, eo22⟩ := Kd.R_slice HO522.out; subst eo22) | ((with_reducible refine gate_callee (f := 19) rfl ?_); refine gl_ (some 22) Try.func19 #[.int .i64 100, .slice Ao20 y514.length co20, .slice Ao21 y517.length co21, .slice Ao22 y520.length co22] ?_; (with_reducible refine (charges_Network.calls 100 _ _ y514 _ _ y517 _ _ y520 t523 t524 t525 _ ?side1 ?side2 ?side3 ?side4 ?side5 ?side6 A1.out).mono ?_); (case side1 => exact cc_ ((Kd.R_reads' HO516.out).2.2)); (case side2 => exact (Kd.R_reads' HO516.out).2.1); (case side3 => exact cc_ ((Kd.R_reads' HO519.out).2.2)); (case side4 => exact (Kd.R_reads' HO519.out).2.1); (case side5 => exact cc_ ((Kd.R_reads' HO522.out).2.2)); (case side6 => exact (Kd.R_reads' HO522.out).2.1); rintro e w23 ⟨v526, rfl, ho0, hb⟩; refine ⟨_, rfl, ?_⟩; have n0_ := Aside0.mk (Kd.R_below (rr_ HO516) hb); have n1_ := Aside0.mk (Kd.R_below (rr_ HO519) hb); have n2_ := Aside0.mk (Kd.R_below (rr_ HO522) hb); have n3_ := Aside0.mk (Kd.R_lower ho0 (below_size (bb_ HB))); have n4_ := Aside0.mk (below_step (bb_ HB) hb); clear HO516; clear HO519; clear HO522; clear HB; have HO516 := n0_; have HO519 := n1_; have HO522 := n2_; have HO527 := n3_; have HB := n4_; clear n0_ n1_ n2_ n3_ n4_; (try clear hb); (try clear hb2); (try clear hk); (try clear hi); (try clear ho0)) | ((with_reducible refine gate_dst (N := 31) rfl ?_); (try (refine gate_guard (by rfl) ?_; dsimp only)); refine Kd.R_lit k38 _ 38 ?hg (N := 31) ?hd (xs := ([(⟨10, 10⟩ : S38), (⟨5, 5⟩ : S38), (⟨0, 100⟩ : S38)] : List (S38))) (inner := [.int .i64 10, .int .i64 10, .int .i64 5, .int .i64 5, .int .i64 0, .int .i64 100]) (ok := fun _ => True) (okp := fun _ => True) ?hr ?hp (fun _ hk => hk) trivial (Below.refl _ _) (Nat.le_refl _) (by simp) ?_; (case hd => rfl); (case hg => rfl); (case hr => first | (go_simp; done) | (go_simp; rfl)); (case hp => exact (Reps.c2 (show Kd.M k38 _ _ _ (⟨10, 10⟩ : S38) [.int .i64 10, .int .i64 10] from (k38_mkM _ _ _ (⟨10, 10⟩ : S38) )) (Reps.c2 (show Kd.M k38 _ _ _ (⟨5, 5⟩ : S38) [.int .i64 5, .int .i64 5] from (k38_mkM _ _ _ (⟨5, 5⟩ : S38) )) (Reps.c2 (show Kd.M k38 _ _ _ (⟨0, 100⟩ : S38) [.int .i64 0, .int .i64 100] from (k38_mkM _ _ _ (⟨0, 100⟩ : S38) )) (Reps.none _ _))))); intro v529 w24 ho25 hb hg_ hnew_; clear hg_ hnew_; (first | rw [← Ny528.out] at ho25 | (simp only [Int.reduceToNat] at ho25; rw [← Ny528.out] at ho25)); have n0_ := Aside0.mk (Kd.R_below (rr_ HO516) hb); have n1_ := Aside0.mk (Kd.R_elder' (rr_ HO519) (Kd.R_base ho25) hb); have n2_ := Aside0.mk (Kd.R_below (rr_ HO522) hb); have n3_ := Aside0.mk (Kd.R_below (rr_ HO527) hb); have n4_ := Aside0.mk (Kd.R_lower (Kd.R_new' ho25 (Kd.R_lt (rr_ HO519))) (below_size (bb_ HB))); have n5_ := Aside0.mk (below_step (bb_ HB) hb); clear HO516; clear HO519; clear HO522; clear HO527; clear HB; have HO516 := n0_; have HO519 := n1_; have HO522 := n2_; have HO527 := n3_; have HO530 := n4_; have HB := n5_; clear n0_ n1_ n2_ n3_ n4_ n5_; clear hb ho25) | ((with_reducible refine gate_dst (N := 32) rfl ?_); (try (refine gate_guard (by rfl) ?_; dsimp only)); refine Kd.R_lit (Kd.int .i64) _ 3 ?hg (N := 32) ?hd (xs := ([4, 7] : List Int)) (inner := [.int .i64 4, .int .i64 7]) (ok := fun _ => True) (okp := fun _ => True) ?hr ?hp (fun _ hk => hk) trivial (Below.refl _ _) (Nat.le_refl _) (by simp) ?_; (case hd => rfl); (case hg => rfl); (case hr => first | (go_simp; done) | (go_simp; rfl)); (case hp => exact (Reps.one (show Kd.M (Kd.int .i64) _ _ _ 4 [.int .i64 4] from rfl) (Reps.one (show Kd.M (Kd.int .i64) _ _ _ 7 [.int .i64 7] from rfl) (Reps.none _ _)))); intro v532 w26 ho27 hb hg_ hnew_; clear hg_ hnew_; (first | rw [← Ny531.out] at ho27 | (simp only [Int.reduceToNat] at ho27; rw [← Ny531.out] at ho27)); have n0_ := Aside0.mk (Kd.R_below (rr_ HO516) hb); have n1_ := Aside0.mk (Kd.R_below (rr_ HO519) hb); have n2_ := Aside0.mk (Kd.R_elder' (rr_ HO522) (Kd.R_base ho27) hb); have n3_ := Aside0.mk (Kd.R_below (rr_ HO527) hb); have n4_ := Aside0.mk (Kd.R_below (rr_ HO530) hb); have n5_ := Aside0.mk (Kd.R_lower (Kd.R_new' ho27 (Kd.R_lt (rr_ HO522))) (below_size (bb_ HB))); have n6_ := Aside0.mk (below_step (bb_ HB) hb); clear HO516; clear HO519; clear HO522; clear HO527; clear HO530; clear HB; have HO516 := n0_; have HO519 := n1_; have HO522 := n2_; have HO527 := n3_; have HO530 := n4_; have HO533 := n5_; have HB := n6_; clear n0_ n1_ n2_ n3_ n4_ n5_ n6_; clear hb ho27; obtain ⟨Ao28, co28, eo28⟩ := Kd.R_slice HO530.out; subst eo28; obtain ⟨Ao29, co29, eo29⟩ := Kd.R_slice HO533.out; subst eo29) | ((with_reducible refine gate_callee (f := 19) rfl ?_); refine gl_ (some 33) Try.func19 #[.int .i64 100, .slice Ao20 y514.length co20, .slice Ao28 y528.length co28, .slice Ao29 y531.length co29] ?_; (with_reducible refine (charges_Network.calls 100 _ _ y514 _ _ y528 _ _ y531 t534 t535 t536 _ ?side1 ?side2 ?side3 ?side4 ?side5 ?side6 A2.out).mono ?_); (case side1 => exact cc_ ((Kd.R_reads' HO516.out).2.2)); (case side2 => exact (Kd.R_reads' HO516.out).2.1); (case side3 => exact cc_ ((Kd.R_reads' HO530.out).2.2)); (case side4 => exact (Kd.R_reads' HO530.out).2.1); (case side5 => exact cc_ ((Kd.R_reads' HO533.out).2.2)); (case side6 => exact (Kd.R_reads' HO533.out).2.1); rintro e w30 ⟨v537, rfl, ho0, hb⟩; refine ⟨_, rfl, ?_⟩; have n0_ := Aside0.mk (Kd.R_below (rr_ HO516) hb); have n1_ := Aside0.mk (Kd.R_below (rr_ HO519) hb); have n2_ := Aside0.mk (Kd.R_below (rr_ HO522) hb); have n3_ := Aside0.mk (Kd.R_elder' (rr_ HO527) (Kd.R_base ho0) hb); have n4_ := Aside0.mk (Kd.R_below (rr_ HO530) hb); have n5_ := Aside0.mk (Kd.R_below (rr_ HO533) hb); have n6_ := Aside0.mk (Kd.R_lower (Kd.R_new' ho0 (Kd.R_lt (rr_ HO527))) (below_size (bb_ HB))); have n7_ := Aside0.mk (below_step (bb_ HB) hb); clear HO516; clear HO519; clear HO522; clear HO527; clear HO530; clear HO533; clear HB; have HO516 := n0_; have HO519 := n1_; have HO522 := n2_; have HO527 := n3_; have HO530 := n4_; have HO533 := n5_; have HO538 := n6_; have HB := n7_; clear n0_ n1_ n2_ n3_ n4_ n5_ n6_ n7_; (try clear hb); (try clear hb2); (try clear hk); (try clear hi); (try clear ho0); obtain ⟨Ao31, co31, eo31⟩ := Kd.R_slice HO527.out; subst eo31; obtain ⟨Ao32, co32, eo32⟩ := Kd.R_slice HO538.out; subst eo32) | ((with_reducible refine gate_callee (f := 52) rfl ?_); refine gl_ (some 42) Try.func52 #[.slice Ao31 t523.length co31, .slice Ao32 t534.length co32, .int .i64 t524, .int .i64 t535] ?_; (with_reducible refine (settle_Settle.calls _ _ t523 _ _ t534 t524 t535 t539 t540 t541 _ ?side1 ?side2 ?side3 ?side4 A3.out).mono ?_); (case side1 => exact cc_ ((Kd.R_reads' HO527.out).2.2)); (case side2 => exact (Kd.R_reads' HO527.out).2.1); (case side3 => exact cc_ ((Kd.R_reads' HO538.out).2.2)); (case side4 => exact (Kd.R_reads' HO538.out).2.1); rintro e w33 ⟨v542, rfl, ho0, hb⟩; refine ⟨_, rfl, ?_⟩; have n0_ := Aside0.mk (Kd.R_below (rr_ HO516) hb); have n1_ := Aside0.mk (Kd.R_below (rr_ HO519) hb); have n2_ := Aside0.mk (Kd.R_below (rr_ HO522) hb); have n3_ := Aside0.mk (Kd.R_elder' (rr_ HO527) (Kd.R_base ho0) hb); have n4_ := Aside0.mk (Kd.R_below (rr_ HO530) hb); have n5_ := Aside0.mk (Kd.R_below (rr_ HO533) hb); have n6_ := Aside0.mk (Kd.R_elder' (rr_ HO538) (Kd.R_base ho0) hb); have n7_ := Aside0.mk (Kd.R_lower (Kd.R_new' (Kd.R_new' ho0 (Kd.R_lt (rr_ HO527))) (Kd.R_lt (rr_ HO538))) (below_size (bb_ HB))); have n8_ := Aside0.mk (below_step (bb_ HB) hb); clear HO516; clear HO519; clear HO522; clear HO527; clear HO530; clear HO533; clear HO538; clear HB; have HO516 := n0_; have HO519 := n1_; have HO522 := n2_; have HO527 := n3_; have HO530 := n4_; have HO533 := n5_; have HO538 := n6_; have HO543 := n7_; have HB := n8_; clear n0_ n1_ n2_ n3_ n4_ n5_ n6_ n7_ n8_; (try clear hb); (try clear hb2); (try clear hk); (try clear hi); (try clear ho0); obtain ⟨Ao34, co34, eo34⟩ := Kd.R_slice HO543.out; subst eo34; have p544 : 0 ≤ (0 : Int) := (by omega); have q544 : 0 < (t539.length : Int) := od_; obtain ⟨ad544, e544, hx544_0, hx544_1, hx544_2, hx544_3, hx544_4⟩ := at_T40 (Kd.R_reads' HO543.out).2.2 0 p544 q544; cases e544; have qi544 : (0 < t539.length) = True := eq_true (by omega); (try rw [show ((0 : Int)).toNat = 0 from rfl] at hx544_0); (try rw [show 0 * 5 = 0 from rfl] at hx544_0); (try rw [Addr.add_zero'] at hx544_0); (try rw [show ((0 : Int)).toNat = 0 from rfl] at hx544_1); (try rw [show 0 * 5 = 0 from rfl] at hx544_1); (try rw [Addr.add_zero'] at hx544_1); (try rw [show ((0 : Int)).toNat = 0 from rfl] at hx544_2); (try rw [show 0 * 5 = 0 from rfl] at hx544_2); (try rw [Addr.add_zero'] at hx544_2); (try rw [show ((0 : Int)).toNat = 0 from rfl] at hx544_3); (try rw [show 0 * 5 = 0 from rfl] at hx544_3); (try rw [Addr.add_zero'] at hx544_3); (try rw [show ((0 : Int)).toNat = 0 from rfl] at hx544_4); (try rw [show 0 * 5 = 0 from rfl] at hx544_4); (try rw [Addr.add_zero'] at hx544_4); replace p544 := eq_true p544; replace q544 := eq_true q544; have p545 : 0 ≤ (1 : Int) := (by omega); have q545 : 1 < (t539.length : Int) := od_; obtain ⟨ad545, e545, hx545_0, hx545_1, hx545_2, hx545_3, hx545_4⟩ := at_T40 (Kd.R_reads' HO543.out).2.2 1 p545 q545; obtain rfl : ad544 = ad545 := (by injection e545); (try simp only [show (1 : Int).toNat = 1 from rfl, Nat.reduceMul, Nat.reduceEqDiff, Go.Addr.add, ↓reduceIte] at hx545_0); (try simp only [show (1 : Int).toNat = 1 from rfl, Nat.reduceMul, Nat.reduceEqDiff, Go.Addr.add, ↓reduceIte] at hx545_1); (try simp only [show (1 : Int).toNat = 1 from rfl, Nat.reduceMul, Nat.reduceEqDiff, Go.Addr.add, ↓reduceIte] at hx545_2); (try simp only [show (1 : Int).toNat = 1 from rfl, Nat.reduceMul, Nat.reduceEqDiff, Go.Addr.add, ↓reduceIte] at hx545_3); (try simp only [show (1 : Int).toNat = 1 from rfl, Nat.reduceMul, Nat.reduceEqDiff, Go.Addr.add, ↓reduceIte] at hx545_4); have qi545 : (1 < t539.length) = True := eq_true (by omega); (try rw [show ((1 : Int)).toNat = 1 from rfl] at hx545_0); (try rw [show 1 * 5 = 5 from rfl] at hx545_0); (try rw [show ((1 : Int)).toNat = 1 from rfl] at hx545_1); (try rw [show 1 * 5 = 5 from rfl] at hx545_1); (try rw [show ((1 : Int)).toNat = 1 from rfl] at hx545_2); (try rw [show 1 * 5 = 5 from rfl] at hx545_2); (try rw [show ((1 : Int)).toNat = 1 from rfl] at hx545_3); (try rw [show 1 * 5 = 5 from rfl] at hx545_3); (try rw [show ((1 : Int)).toNat = 1 from rfl] at hx545_4); (try rw [show 1 * 5 = 5 from rfl] at hx545_4); replace p545 := eq_true p545; replace q545 := eq_true q545))
           go_ret
           exact ⟨ew_, by repeat (first | (with_reducible first | exact HB.out | apply below_alloc | apply pw_below_drewN | apply below_drew1) | exact HB.out)⟩
          ·rw [if_neg c13] at H
           exact absurd H (by simp)
         ·rw [if_neg c12] at H
          have c12b0 : (((rd_T40 t539 0).f0) == 4 && (((rd_T40 t539 0).f1) == 10 && ((((rd_T40 t539 0).f2.f0) == 10 && (((rd_T40 t539 0).f2.f1) == 10)) && (((rd_T40 t539 0).f3))))) = false := by simpa using c12
          (try (have c12b1 : decide (((rd_T40 t539 0).f0) = 4 && (((rd_T40 t539 0).f1) == 10 && ((((rd_T40 t539 0).f2.f0) == 10 && (((rd_T40 t539 0).f2.f1) == 10)) && (((rd_T40 t539 0).f3))))) = false := by simpa using c12))
          (try (have c12b2 : (((rd_T40 t539 0).f0) == 4 && (((rd_T40 t539 0).f1) == 10 && ((((rd_T40 t539 0).f2.f0) == 10 && (((rd_T40 t539 0).f2.f1) == 10)) && (((rd_T40 t539 0).f3))))) = false := by simpa using c12))
          (try (have c12b3 : ¬ (((rd_T40 t539 0).f0) = 4 && (((rd_T40 t539 0).f1) == 10 && ((((rd_T40 t539 0).f2.f0) == 10 && (((rd_T40 t539 0).f2.f1) == 10)) && (((rd_T40 t539 0).f3))))) := by simpa using c12))
          clear c12
          exact absurd (Option.some.inj H) (by decide)
        ·rw [if_neg c11] at H
         exact absurd H (by simp)
       ·rw [if_neg c10] at H
        have c10b0 : ((t539.length : Int) == 2) = false := beq_eq_false_iff_ne.mpr c10
        have c10b1 : ((t539.length : Int) != 2) = true := bne_iff_ne.mpr c10
        exact absurd (Option.some.inj H) (by decide)
      ·rw [if_neg c9] at H
       have c9b0 : (t540 == 0) = false := beq_eq_false_iff_ne.mpr c9
       have c9b1 : (t540 != 0) = true := bne_iff_ne.mpr c9
       exact absurd (Option.some.inj H) (by decide)
     ·rw [if_neg c8] at H
      have c8b0 : (t535 == 10) = false := beq_eq_false_iff_ne.mpr c8
      have c8b1 : (t535 != 10) = true := bne_iff_ne.mpr c8
      exact absurd (Option.some.inj H) (by decide)
    ·rw [if_neg c7] at H
     have c7b0 : (t524 == 10) = false := beq_eq_false_iff_ne.mpr c7
     have c7b1 : (t524 != 10) = true := bne_iff_ne.mpr c7
     exact absurd (Option.some.inj H) (by decide)
   ·rw [if_neg c6] at H
    have c6b0 : (t541 == 0) = false := beq_eq_false_iff_ne.mpr c6
    have c6b1 : (t541 != 0) = true := bne_iff_ne.mpr c6
    exact absurd (Option.some.inj H) (by decide)
  ·rw [if_neg c5] at H
   have c5b0 : (t536 == 0) = false := beq_eq_false_iff_ne.mpr c5
   have c5b1 : (t536 != 0) = true := bne_iff_ne.mpr c5
   exact absurd (Option.some.inj H) (by decide)
 ·rw [if_neg c4] at H
  have c4b0 : (t525 == 0) = false := beq_eq_false_iff_ne.mpr c4
  have c4b1 : (t525 != 0) = true := bne_iff_ne.mpr c4
  exact absurd (Option.some.inj H) (by decide)
end
section
open Go.Proofs.YthjjabcbngffoaaH
def settle_Within.f (l0 l1 : List S40) : Option (Bool × Int) := if (pairB l0 l1 && allB inB l0 l1) = true then some (true, 0) else none
theorem settle_Within.calls (A0 : Option Addr) (c0 : Nat) (l0 : List (S40)) (A1 : Option Addr) (c1 : Nat) (l1 : List (S40)) (r1 : Bool) (r2 : Int) (w : World) (hr0 : Kd.C k40 w A0 l0.length l0) (hc0 : l0.length ≤ c0) (hr1 : Kd.C k40 w A1 l1.length l1) (hc1 : l1.length ≤ c1) (h : settle_Within.f l0 l1 = some (r1, r2)) :
  Calls Try.prog 53 #[.slice A0 l0.length c0, .slice A1 l1.length c1] w fun e w' => e = .returned (.tuple #[.bool r1, .int .i64 r2]) ∧ Below w.heap.size w w' := by
 unfold settle_Within.f at h
 by_cases hf : (pairB l0 l1 && allB inB l0 l1) = true
 case neg => rw [if_neg hf] at h; cases h
 rw [if_pos hf] at h
 simp only [Option.some.injEq, Prod.mk.injEq] at h
 obtain ⟨rfl, rfl⟩ := h
 rw [Bool.and_eq_true] at hf
 obtain ⟨p0, p1, p2⟩ := pairB_at hf.1
 have HPB := Aside0.mk hf.1
 have HIN := Aside0.mk hf.2
 have H64 := Aside0.mk (chgsB_at p0).1
 have HLL := Aside0.mk (sameHB_at p2).1.symm
 have HR0 := Aside0.mk hr0
 have HR1 := Aside0.mk hr1
 clear hr0 hr1 hc0 hc1 hf p0 p1 p2
 have HB := Aside0.mk (Below.refl w.heap.size w)
 go_enter Try.func53, Try.ntmps53
 go_wp2_with (first | (go_at_call 69; (with_reducible refine (pairs_calls A0 A1 c0 c1 l0 l1 _ (Kd.C_below HR0.out HB.out) (Kd.C_below HR1.out HB.out) HPB.out).mono ?_); rintro e w4 ⟨g1, g2, rfl, hp_, hq_, hg1_, hg2_, hb_⟩; have BP := Aside0.mk hp_; have BQ := Aside0.mk hq_; clear hp_ hq_ hg1_ hg2_; have n0_ := Aside0.mk (below_step HB.out hb_); clear HB hb_; have HB := n0_; clear n0_) | (go_at_call 71; (with_reducible refine (within_calls _ g1 g2 A0 A1 c0 c1 l0 l1 HLL.out H64.out HIN.out BP.out BQ.out (Kd.C_below HR0.out HB.out) (Kd.C_below HR1.out HB.out)).mono ?_); rintro e w7 ⟨rfl, hb_⟩; have n0_ := Aside0.mk (below_step HB.out hb_); clear HB hb_; have HB := n0_; clear n0_))
 go_ret2
 exact ⟨rfl, HB.out⟩
end
section
mutual
def cohousingtop_w17Settled.j0 : Nat → List (S40) → List (S40) → List (S40) → Int → Bool → Option (Bool)
 | 0, _, _, _, _, _ => none
 | k + 1, x0, x1, x11, x12, x54 => if x54 = true then (some false) else (cohousingtop_w17Settled.l0 k x0 x1 x11 x12 (x11.length : Int) 0)
def cohousingtop_w17Settled.l0 : Nat → List (S40) → List (S40) → List (S40) → Int → Int → Int → Option (Bool)
 | 0, _, _, _, _, _, _ => none
 | k + 1, x0, x1, x11, x14, x57, x58 => if x58 < x57 then (if 0 ≤ x58 then (if x58 < (x11.length : Int) then (if x58 < (x0.length : Int) then (if x58 < (x1.length : Int) then (if (wrap64 (((rd_T40 x0 x58).f1) + ((rd_T40 x11 x58).f1))) = ((rd_T40 x1 x58).f1) then (if (((rd_T40 x11 x58).f3) != ((rd_T40 x1 x58).f3)) = true then (some false) else (if ((rd_T40 x1 x58).f1) < ((rd_T40 x0 x58).f2.f0) then (some false) else (if ((rd_T40 x1 x58).f1) > ((rd_T40 x0 x58).f2.f1) then (some false) else (cohousingtop_w17Settled.l0 k x0 x1 x11 (wrap64 (x14 + ((rd_T40 x11 x58).f1))) x57 (wrap64 (x58 + 1)))))) else (some false)) else (none)) else (none)) else (none)) else (none)) else (some (x14 == 0))
end
def cohousingtop_w17Settled.f (k : Nat) (l0 : List (S40)) (l1 : List (S40)) (a2 : Int) (a3 : Int) : Option (Bool) := (settle_Within.f l0 l1).bind fun bt558 => ((settle_Settle.f l0 l1 a2 a3).bind fun bt560 => (if bt558.2 = 0 then (if bt560.2.2 = 0 then (if bt558.1 = true then (if (bt560.1.length : Int) = (l0.length : Int) then (cohousingtop_w17Settled.j0 k l0 l1 bt560.1 bt560.2.1 ((l1.length : Int) != (l0.length : Int))) else (cohousingtop_w17Settled.j0 k l0 l1 bt560.1 bt560.2.1 true)) else (cohousingtop_w17Settled.j0 k l0 l1 bt560.1 bt560.2.1 true)) else (cohousingtop_w17Settled.j0 k l0 l1 bt560.1 bt560.2.1 true)) else (cohousingtop_w17Settled.j0 k l0 l1 bt560.1 bt560.2.1 true)))
theorem cohousingtop_w17Settled.calls (k : Nat) (A0 : Option Addr) (c0 : Nat) (l0 : List (S40)) (A1 : Option Addr) (c1 : Nat) (l1 : List (S40)) (a2 : Int) (a3 : Int) (r : Bool) (w : World) (hr0 : Kd.C k40 w A0 l0.length l0) (hc0 : l0.length ≤ c0) (hr1 : Kd.C k40 w A1 l1.length l1) (hc1 : l1.length ≤ c1) (h : cohousingtop_w17Settled.f k l0 l1 a2 a3 = some r) :
  Calls Try.prog 29 #[.slice A0 l0.length c0, .slice A1 l1.length c1, .int .i64 a2, .int .i64 a3] w fun e w' => e = .returned (.bool r) ∧ Below w.heap.size w w' := by
 have HR0 := Aside0.mk hr0
 have HC0 := Aside0.mk hc0
 clear hr0 hc0
 have HR1 := Aside0.mk hr1
 have HC1 := Aside0.mk hc1
 clear hr1 hc1
 have HB := Aside0.mk (Below.refl w.heap.size w)
 have H : ((settle_Within.f l0 l1).bind fun bt558 => ((settle_Settle.f l0 l1 a2 a3).bind fun bt560 => (if bt558.2 = 0 then (if bt560.2.2 = 0 then (if bt558.1 = true then (if (bt560.1.length : Int) = (l0.length : Int) then (cohousingtop_w17Settled.j0 k l0 l1 bt560.1 bt560.2.1 ((l1.length : Int) != (l0.length : Int))) else (cohousingtop_w17Settled.j0 k l0 l1 bt560.1 bt560.2.1 true)) else (cohousingtop_w17Settled.j0 k l0 l1 bt560.1 bt560.2.1 true)) else (cohousingtop_w17Settled.j0 k l0 l1 bt560.1 bt560.2.1 true)) else (cohousingtop_w17Settled.j0 k l0 l1 bt560.1 bt560.2.1 true)))) = some r := h
 clear h
 replace H := Option.bind_eq_some_iff.mp H
 obtain ⟨⟨t558, t559⟩, A50, H⟩ := H
 replace H : ((settle_Settle.f l0 l1 a2 a3).bind fun bt560 => (if t559 = 0 then (if bt560.2.2 = 0 then (if t558 = true then (if (bt560.1.length : Int) = (l0.length : Int) then (cohousingtop_w17Settled.j0 k l0 l1 bt560.1 bt560.2.1 ((l1.length : Int) != (l0.length : Int))) else (cohousingtop_w17Settled.j0 k l0 l1 bt560.1 bt560.2.1 true)) else (cohousingtop_w17Settled.j0 k l0 l1 bt560.1 bt560.2.1 true)) else (cohousingtop_w17Settled.j0 k l0 l1 bt560.1 bt560.2.1 true)) else (cohousingtop_w17Settled.j0 k l0 l1 bt560.1 bt560.2.1 true))) = some r := H
 have A5 := Aside0.mk A50
 clear A50
 replace H := Option.bind_eq_some_iff.mp H
 obtain ⟨⟨t560, t561, t562⟩, A60, H⟩ := H
 replace H : (if t559 = 0 then (if t562 = 0 then (if t558 = true then (if (t560.length : Int) = (l0.length : Int) then (cohousingtop_w17Settled.j0 k l0 l1 t560 t561 ((l1.length : Int) != (l0.length : Int))) else (cohousingtop_w17Settled.j0 k l0 l1 t560 t561 true)) else (cohousingtop_w17Settled.j0 k l0 l1 t560 t561 true)) else (cohousingtop_w17Settled.j0 k l0 l1 t560 t561 true)) else (cohousingtop_w17Settled.j0 k l0 l1 t560 t561 true)) = some r := H
 have A6 := Aside0.mk A60
 clear A60
 have HC7 := Aside0.mk H
 clear H
 go_enter Try.func29, Try.ntmps29
 go_upto_region 3 with (first | (go_at_call 53; (with_reducible refine (settle_Within.calls _ _ l0 _ _ l1 t558 t559 _ ?side1 ?side2 ?side3 ?side4 A5.out).mono ?_); (case side1 => exact cc_ (HR0.out)); (case side2 => exact HC0.out); (case side3 => exact cc_ (HR1.out)); (case side4 => exact HC1.out); rintro e w8 ⟨rfl, hb⟩; have n0_ := Aside0.mk (below_step (bb_ HB) hb); clear HB; have HB := n0_; clear n0_; (try clear hb); (try clear hb2); (try clear hk); (try clear hi)) | (go_at_call 52; (with_reducible refine (settle_Settle.calls _ _ l0 _ _ l1 a2 a3 t560 t561 t562 _ ?side1 ?side2 ?side3 ?side4 A6.out).mono ?_); (case side1 => exact cc_ ((Kd.C_below HR0.out HB.out))); (case side2 => exact HC0.out); (case side3 => exact cc_ ((Kd.C_below HR1.out HB.out))); (case side4 => exact HC1.out); rintro e w9 ⟨v563, rfl, ho0, hb⟩; have n0_ := Aside0.mk (Kd.R_lower ho0 (below_size (bb_ HB))); have n1_ := Aside0.mk (below_step (bb_ HB) hb); clear HB; have HO564 := n0_; have HB := n1_; clear n0_ n1_; (try clear hb); (try clear hb2); (try clear hk); (try clear hi); (try clear ho0)))
 repeat (go_quiet (first | (go_at_call 53; (with_reducible refine (settle_Within.calls _ _ l0 _ _ l1 t558 t559 _ ?side1 ?side2 ?side3 ?side4 A5.out).mono ?_); (case side1 => exact cc_ (HR0.out)); (case side2 => exact HC0.out); (case side3 => exact cc_ (HR1.out)); (case side4 => exact HC1.out); rintro e w8 ⟨rfl, hb⟩; have n0_ := Aside0.mk (below_step (bb_ HB) hb); clear HB; have HB := n0_; clear n0_; (try clear hb); (try clear hb2); (try clear hk); (try clear hi)) | (go_at_call 52; (with_reducible refine (settle_Settle.calls _ _ l0 _ _ l1 a2 a3 t560 t561 t562 _ ?side1 ?side2 ?side3 ?side4 A6.out).mono ?_); (case side1 => exact cc_ ((Kd.C_below HR0.out HB.out))); (case side2 => exact HC0.out); (case side3 => exact cc_ ((Kd.C_below HR1.out HB.out))); (case side4 => exact HC1.out); rintro e w9 ⟨v563, rfl, ho0, hb⟩; have n0_ := Aside0.mk (Kd.R_lower ho0 (below_size (bb_ HB))); have n1_ := Aside0.mk (below_step (bb_ HB) hb); clear HB; have HO564 := n0_; have HB := n1_; clear n0_ n1_; (try clear hb); (try clear hb2); (try clear hk); (try clear hi); (try clear ho0))); go_upto_region 3 with (first | (go_at_call 53; (with_reducible refine (settle_Within.calls _ _ l0 _ _ l1 t558 t559 _ ?side1 ?side2 ?side3 ?side4 A5.out).mono ?_); (case side1 => exact cc_ (HR0.out)); (case side2 => exact HC0.out); (case side3 => exact cc_ (HR1.out)); (case side4 => exact HC1.out); rintro e w8 ⟨rfl, hb⟩; have n0_ := Aside0.mk (below_step (bb_ HB) hb); clear HB; have HB := n0_; clear n0_; (try clear hb); (try clear hb2); (try clear hk); (try clear hi)) | (go_at_call 52; (with_reducible refine (settle_Settle.calls _ _ l0 _ _ l1 a2 a3 t560 t561 t562 _ ?side1 ?side2 ?side3 ?side4 A6.out).mono ?_); (case side1 => exact cc_ ((Kd.C_below HR0.out HB.out))); (case side2 => exact HC0.out); (case side3 => exact cc_ ((Kd.C_below HR1.out HB.out))); (case side4 => exact HC1.out); rintro e w9 ⟨v563, rfl, ho0, hb⟩; have n0_ := Aside0.mk (Kd.R_lower ho0 (below_size (bb_ HB))); have n1_ := Aside0.mk (below_step (bb_ HB) hb); clear HB; have HO564 := n0_; have HB := n1_; clear n0_ n1_; (try clear hb); (try clear hb2); (try clear hk); (try clear hi); (try clear ho0))))
 (try simp only [Act.put, sI_, s0_, sS_])
 go_cut [54] (fun v54 wc => ∃ (kq : Nat) (x54_6 : Bool), v54 = .bool x54_6 ∧ Aside0 (cohousingtop_w17Settled.j0 kq l0 l1 t560 t561 x54_6 = some r) ∧ Aside0 (kq ≤ k) ∧ Aside0 (Kd.R k40 40 wc w.heap.size (fun _ => True) v563 t560) ∧ Aside0 (Below w.heap.size w wc))
 case first =>
  have H := HC7.out
  clear HC7
  by_cases c10 : t559 = 0
  ·rw [if_pos c10] at H
   have c10b0 : (t559 == 0) = true := beq_iff_eq.mpr c10
   have c10b1 : (t559 != 0) = false := bne_eq_false_iff_eq.mpr c10
   clear c10
   (first | rw [c10b0] | (simp only [i64_w, i32_w]; rw [c10b0]) | skip)
   by_cases c11 : t562 = 0
   ·rw [if_pos c11] at H
    have c11b0 : (t562 == 0) = true := beq_iff_eq.mpr c11
    have c11b1 : (t562 != 0) = false := bne_eq_false_iff_eq.mpr c11
    clear c11
    by_cases c12 : t558 = true
    ·subst c12
     have H1 : (if (t560.length : Int) = (l0.length : Int) then (cohousingtop_w17Settled.j0 k l0 l1 t560 t561 ((l1.length : Int) != (l0.length : Int))) else (cohousingtop_w17Settled.j0 k l0 l1 t560 t561 true)) = some r := by rw [if_pos rfl] at H; exact H
     clear H
     have H := H1
     clear H1
     by_cases c13 : (t560.length : Int) = (l0.length : Int)
     ·rw [if_pos c13] at H
      have c13b0 : ((t560.length : Int) == (l0.length : Int)) = true := beq_iff_eq.mpr c13
      have c13b1 : ((t560.length : Int) != (l0.length : Int)) = false := bne_eq_false_iff_eq.mpr c13
      have c13b2 : (t560.length == l0.length) = true := by first | simpa using c13 | (simp at c13 ⊢; omega)
      clear c13
      have H' := Aside0.mk H
      clear H
      obtain ⟨Ao14, co14, eo14⟩ := Kd.R_slice HO564.out
      subst eo14
      go_wp2
      repeat (go_quiet (fail); try go_wp2)
      go_meet
      case rel => exact ⟨_, (((l1.length : Int) != (l0.length : Int))), sd_, H', ⟨by first | omega | exact Nat.le_refl _⟩, ⟨by (with_reducible repeat (first | apply Kd.R_alloc | apply Kd.R_drewN | apply Kd.R_drew)); exact HO564.out⟩, ⟨by repeat (first | (with_reducible first | exact HB.out | apply below_alloc | apply pw_below_drewN | apply below_drew1) | exact HB.out)⟩⟩
     ·rw [if_neg c13] at H
      have c13b0 : ((t560.length : Int) == (l0.length : Int)) = false := beq_eq_false_iff_ne.mpr c13
      have c13b1 : ((t560.length : Int) != (l0.length : Int)) = true := bne_iff_ne.mpr c13
      have c13b2 : (t560.length == l0.length) = false := by first | simpa using c13 | (simp at c13 ⊢; omega)
      have H' := Aside0.mk H
      clear H
      obtain ⟨Ao15, co15, eo15⟩ := Kd.R_slice HO564.out
      subst eo15
      go_wp2
      repeat (go_quiet (fail); try go_wp2)
      go_meet
      case rel => exact ⟨_, (true), sd_, H', ⟨by first | omega | exact Nat.le_refl _⟩, ⟨by (with_reducible repeat (first | apply Kd.R_alloc | apply Kd.R_drewN | apply Kd.R_drew)); exact HO564.out⟩, ⟨by repeat (first | (with_reducible first | exact HB.out | apply below_alloc | apply pw_below_drewN | apply below_drew1) | exact HB.out)⟩⟩
    ·replace c12 := Bool.eq_false_iff.mpr c12
     subst c12
     have H1 : (cohousingtop_w17Settled.j0 k l0 l1 t560 t561 true) = some r := by rw [if_neg (show ¬ (false = true) by decide)] at H; exact H
     clear H
     have H := H1
     clear H1
     have H' := Aside0.mk H
     clear H
     go_wp2
     repeat (go_quiet (fail); try go_wp2)
     go_meet
     case rel => exact ⟨_, (true), sd_, H', ⟨by first | omega | exact Nat.le_refl _⟩, ⟨by (with_reducible repeat (first | apply Kd.R_alloc | apply Kd.R_drewN | apply Kd.R_drew)); exact HO564.out⟩, ⟨by repeat (first | (with_reducible first | exact HB.out | apply below_alloc | apply pw_below_drewN | apply below_drew1) | exact HB.out)⟩⟩
   ·rw [if_neg c11] at H
    have c11b0 : (t562 == 0) = false := beq_eq_false_iff_ne.mpr c11
    have c11b1 : (t562 != 0) = true := bne_iff_ne.mpr c11
    have H' := Aside0.mk H
    clear H
    go_wp2
    repeat (go_quiet (fail); try go_wp2)
    go_meet
    case rel => exact ⟨_, (true), sd_, H', ⟨by first | omega | exact Nat.le_refl _⟩, ⟨by (with_reducible repeat (first | apply Kd.R_alloc | apply Kd.R_drewN | apply Kd.R_drew)); exact HO564.out⟩, ⟨by repeat (first | (with_reducible first | exact HB.out | apply below_alloc | apply pw_below_drewN | apply below_drew1) | exact HB.out)⟩⟩
  ·rw [if_neg c10] at H
   have c10b0 : (t559 == 0) = false := beq_eq_false_iff_ne.mpr c10
   have c10b1 : (t559 != 0) = true := bne_iff_ne.mpr c10
   (first | rw [c10b0] | (simp only [i64_w, i32_w]; rw [c10b0]) | skip)
   have H' := Aside0.mk H
   clear H
   go_wp2
   repeat (go_quiet (fail); try go_wp2)
   go_meet
   case rel => exact ⟨_, (true), sd_, H', ⟨by first | omega | exact Nat.le_refl _⟩, ⟨by (with_reducible repeat (first | apply Kd.R_alloc | apply Kd.R_drewN | apply Kd.R_drew)); exact HO564.out⟩, ⟨by repeat (first | (with_reducible first | exact HB.out | apply below_alloc | apply pw_below_drewN | apply below_drew1) | exact HB.out)⟩⟩
 case rest =>
  clear HC7
  try clear c1
  try clear c2
  try clear p2
  try clear c10
  try clear c10b0
  try clear c10b1
  try clear c11
  try clear c11b0
  try clear c11b1
  try clear c12
  try clear c13
  try clear c13b0
  try clear c13b1
  try clear c13b2
  obtain ⟨kq, x54_6, rfl, HA, HJ6, HO_11, HB⟩ := hcut
  cases kq with
  | zero => exact absurd HA.out (by simp [cohousingtop_w17Settled.j0])
  | succ kj6 =>
   have H := HA.out
   clear HA
   simp only [cohousingtop_w17Settled.j0] at H
   by_cases c16 : x54_6 = true
   ·subst c16
    have H1 : (some false) = some r := by rw [if_pos rfl] at H; exact H
    clear H
    have H := H1
    clear H1
    obtain rfl := Option.some.inj H
    go_wp2
    repeat (go_quiet (fail); try go_wp2)
    go_ret
    exact ⟨ew_, by repeat (first | (with_reducible first | exact HB.out | apply below_alloc | apply pw_below_drewN | apply below_drew1) | exact HB.out)⟩
   ·replace c16 := Bool.eq_false_iff.mpr c16
    subst c16
    have H1 : (cohousingtop_w17Settled.l0 kj6 l0 l1 t560 t561 (t560.length : Int) 0) = some r := by rw [if_neg (show ¬ (false = true) by decide)] at H; exact H
    clear H
    have H := H1
    clear H1
    have H' := Aside0.mk H
    clear H
    obtain ⟨Ao17, co17, eo17⟩ := Kd.R_slice HO_11.out
    subst eo17
    go_wp2
    repeat (go_quiet (fail); try go_wp2)
    go_loopg [14, 58] kj6 (fun kq v14 v58 w' => ∃ (x14_2 : Int) (x58_2 : Int), v14 = .int .i64 x14_2 ∧ v58 = .int .i64 x58_2 ∧ Aside0 (cohousingtop_w17Settled.l0 kq l0 l1 t560 x14_2 (t560.length : Int) x58_2 = some r) ∧ Aside0 (kq ≤ kj6) ∧ Aside0 (Kd.R k40 40 w' w.heap.size (fun _ => True) (.slice Ao17 t560.length co17) t560) ∧ Aside0 (Below w.heap.size w w'))
    case atStart => exact ⟨(t561), (0), sd_, sd_, H', ⟨Nat.le_refl _⟩, ⟨by (with_reducible repeat (first | apply Kd.R_alloc | apply Kd.R_drewN | apply Kd.R_drew)); exact HO_11.out⟩, ⟨by repeat (first | (with_reducible first | exact HB.out | apply below_alloc | apply pw_below_drewN | apply below_drew1) | exact HB.out)⟩⟩
    case round =>
     clear H'
     try clear c1
     try clear c2
     try clear p2
     try clear c10
     try clear c10b0
     try clear c10b1
     try clear c11
     try clear c11b0
     try clear c11b1
     try clear c12
     try clear c13
     try clear c13b0
     try clear c13b1
     try clear c13b2
     try clear c16
     try clear p2
     obtain ⟨x14_2, x58_2, rfl, rfl, HA, HK2, HO_11, HB⟩ := hrel
     cases gk with
     | zero => exact absurd HA.out (by simp [cohousingtop_w17Settled.l0])
     | succ k2 =>
      have H := HA.out
      clear HA
      simp only [cohousingtop_w17Settled.l0] at H
      by_cases c18 : x58_2 < (t560.length : Int)
      ·rw [if_pos c18] at H
       have c18b0 : decide (x58_2 < (t560.length : Int)) = true := decide_eq_true c18
       clear c18
       by_cases c19 : 0 ≤ x58_2
       ·rw [if_pos c19] at H
        have c19b0 : decide (0 ≤ x58_2) = true := decide_eq_true c19
        clear c19
        by_cases c20 : x58_2 < (t560.length : Int)
        ·rw [if_pos c20] at H
         have c20b0 : decide (x58_2 < (t560.length : Int)) = true := decide_eq_true c20
         clear c20
         by_cases c21 : x58_2 < (l0.length : Int)
         ·rw [if_pos c21] at H
          have c21b0 : decide (x58_2 < (l0.length : Int)) = true := decide_eq_true c21
          clear c21
          by_cases c22 : x58_2 < (l1.length : Int)
          ·rw [if_pos c22] at H
           have c22b0 : decide (x58_2 < (l1.length : Int)) = true := decide_eq_true c22
           clear c22
           by_cases c23 : (wrap64 (((rd_T40 l0 x58_2).f1) + ((rd_T40 t560 x58_2).f1))) = ((rd_T40 l1 x58_2).f1)
           ·rw [if_pos c23] at H
            have c23b0 : ((wrap64 (((rd_T40 l0 x58_2).f1) + ((rd_T40 t560 x58_2).f1))) == ((rd_T40 l1 x58_2).f1)) = true := beq_iff_eq.mpr c23
            have c23b1 : ((wrap64 (((rd_T40 l0 x58_2).f1) + ((rd_T40 t560 x58_2).f1))) != ((rd_T40 l1 x58_2).f1)) = false := bne_eq_false_iff_eq.mpr c23
            clear c23
            by_cases c24 : (((rd_T40 t560 x58_2).f3) != ((rd_T40 l1 x58_2).f3)) = true
            ·rw [if_pos c24] at H
             have c24b0 : (((rd_T40 t560 x58_2).f3) != ((rd_T40 l1 x58_2).f3)) = true := c24
             (try (have c24b1 : decide (((rd_T40 t560 x58_2).f3) = ((rd_T40 l1 x58_2).f3)) = false := by simpa using c24))
             (try (have c24b2 : (((rd_T40 t560 x58_2).f3) == ((rd_T40 l1 x58_2).f3)) = false := by simpa using c24))
             (try (have c24b3 : ¬ (((rd_T40 t560 x58_2).f3) = ((rd_T40 l1 x58_2).f3)) := by simpa using c24))
             clear c24
             obtain rfl := Option.some.inj H
             have p565 : 0 ≤ (x58_2 : Int) := od_
             have q565 : x58_2 < (t560.length : Int) := od_
             obtain ⟨ad565, e565, hx565_0, hx565_1, hx565_2, hx565_3, hx565_4⟩ := at_T40 (Kd.R_reads' HO_11.out).2.2 x58_2 p565 q565
             cases e565
             replace p565 := eq_true p565
             replace q565 := eq_true q565
             have p566 : 0 ≤ (x58_2 : Int) := od_
             have q566 : x58_2 < (l0.length : Int) := od_
             obtain ⟨ad566, e566, hx566_0, hx566_1, hx566_2, hx566_3, hx566_4⟩ := at_T40 HR0.out x58_2 p566 q566
             cases e566
             replace hx566_0 := (HB.out.cell (World.block_lt_of_cell? w _ hx566_0)).trans hx566_0
             replace hx566_1 := (HB.out.cell (World.block_lt_of_cell? w _ hx566_1)).trans hx566_1
             replace hx566_2 := (HB.out.cell (World.block_lt_of_cell? w _ hx566_2)).trans hx566_2
             replace hx566_3 := (HB.out.cell (World.block_lt_of_cell? w _ hx566_3)).trans hx566_3
             replace hx566_4 := (HB.out.cell (World.block_lt_of_cell? w _ hx566_4)).trans hx566_4
             replace p566 := eq_true p566
             replace q566 := eq_true q566
             have p567 : 0 ≤ (x58_2 : Int) := od_
             have q567 : x58_2 < (t560.length : Int) := od_
             obtain ⟨ad567, e567, hx567_0, hx567_1, hx567_2, hx567_3, hx567_4⟩ := at_T40 (Kd.R_reads' HO_11.out).2.2 x58_2 p567 q567
             obtain rfl : ad565 = ad567 := (by injection e567)
             replace p567 := eq_true p567
             replace q567 := eq_true q567
             have p568 : 0 ≤ (x58_2 : Int) := od_
             have q568 : x58_2 < (l1.length : Int) := od_
             obtain ⟨ad568, e568, hx568_0, hx568_1, hx568_2, hx568_3, hx568_4⟩ := at_T40 HR1.out x58_2 p568 q568
             cases e568
             replace hx568_0 := (HB.out.cell (World.block_lt_of_cell? w _ hx568_0)).trans hx568_0
             replace hx568_1 := (HB.out.cell (World.block_lt_of_cell? w _ hx568_1)).trans hx568_1
             replace hx568_2 := (HB.out.cell (World.block_lt_of_cell? w _ hx568_2)).trans hx568_2
             replace hx568_3 := (HB.out.cell (World.block_lt_of_cell? w _ hx568_3)).trans hx568_3
             replace hx568_4 := (HB.out.cell (World.block_lt_of_cell? w _ hx568_4)).trans hx568_4
             replace p568 := eq_true p568
             replace q568 := eq_true q568
             have p569 : 0 ≤ (x58_2 : Int) := od_
             have q569 : x58_2 < (t560.length : Int) := od_
             obtain ⟨ad569, e569, hx569_0, hx569_1, hx569_2, hx569_3, hx569_4⟩ := at_T40 (Kd.R_reads' HO_11.out).2.2 x58_2 p569 q569
             obtain rfl : ad565 = ad569 := (by injection e569)
             replace p569 := eq_true p569
             replace q569 := eq_true q569
             have p570 : 0 ≤ (x58_2 : Int) := od_
             have q570 : x58_2 < (l1.length : Int) := od_
             obtain ⟨ad570, e570, hx570_0, hx570_1, hx570_2, hx570_3, hx570_4⟩ := at_T40 HR1.out x58_2 p570 q570
             obtain rfl : ad568 = ad570 := (by injection e570)
             replace hx570_0 := (HB.out.cell (World.block_lt_of_cell? w _ hx570_0)).trans hx570_0
             replace hx570_1 := (HB.out.cell (World.block_lt_of_cell? w _ hx570_1)).trans hx570_1
             replace hx570_2 := (HB.out.cell (World.block_lt_of_cell? w _ hx570_2)).trans hx570_2
             replace hx570_3 := (HB.out.cell (World.block_lt_of_cell? w _ hx570_3)).trans hx570_3
             replace hx570_4 := (HB.out.cell (World.block_lt_of_cell? w _ hx570_4)).trans hx570_4
             replace p570 := eq_true p570
             replace q570 := eq_true q570
             go_wp2
             repeat (go_quiet (fail); try go_wp2)
             go_ret
             exact ⟨ew_, by repeat (first | (with_reducible first | exact HB.out | apply below_alloc | apply pw_below_drewN | apply below_drew1) | exact HB.out)⟩
            ·rw [if_neg c24] at H
             have c24b0 : (((rd_T40 t560 x58_2).f3) != ((rd_T40 l1 x58_2).f3)) = false := by simpa using c24
             (try (have c24b1 : decide (((rd_T40 t560 x58_2).f3) = ((rd_T40 l1 x58_2).f3)) = true := by simpa using c24))
             (try (have c24b2 : (((rd_T40 t560 x58_2).f3) == ((rd_T40 l1 x58_2).f3)) = true := by simpa using c24))
             clear c24
             by_cases c25 : ((rd_T40 l1 x58_2).f1) < ((rd_T40 l0 x58_2).f2.f0)
             ·rw [if_pos c25] at H
              have c25b0 : decide (((rd_T40 l1 x58_2).f1) < ((rd_T40 l0 x58_2).f2.f0)) = true := decide_eq_true c25
              clear c25
              obtain rfl := Option.some.inj H
              have p565 : 0 ≤ (x58_2 : Int) := od_
              have q565 : x58_2 < (t560.length : Int) := od_
              obtain ⟨ad565, e565, hx565_0, hx565_1, hx565_2, hx565_3, hx565_4⟩ := at_T40 (Kd.R_reads' HO_11.out).2.2 x58_2 p565 q565
              cases e565
              replace p565 := eq_true p565
              replace q565 := eq_true q565
              have p566 : 0 ≤ (x58_2 : Int) := od_
              have q566 : x58_2 < (l0.length : Int) := od_
              obtain ⟨ad566, e566, hx566_0, hx566_1, hx566_2, hx566_3, hx566_4⟩ := at_T40 HR0.out x58_2 p566 q566
              cases e566
              replace hx566_0 := (HB.out.cell (World.block_lt_of_cell? w _ hx566_0)).trans hx566_0
              replace hx566_1 := (HB.out.cell (World.block_lt_of_cell? w _ hx566_1)).trans hx566_1
              replace hx566_2 := (HB.out.cell (World.block_lt_of_cell? w _ hx566_2)).trans hx566_2
              replace hx566_3 := (HB.out.cell (World.block_lt_of_cell? w _ hx566_3)).trans hx566_3
              replace hx566_4 := (HB.out.cell (World.block_lt_of_cell? w _ hx566_4)).trans hx566_4
              replace p566 := eq_true p566
              replace q566 := eq_true q566
              have p567 : 0 ≤ (x58_2 : Int) := od_
              have q567 : x58_2 < (t560.length : Int) := od_
              obtain ⟨ad567, e567, hx567_0, hx567_1, hx567_2, hx567_3, hx567_4⟩ := at_T40 (Kd.R_reads' HO_11.out).2.2 x58_2 p567 q567
              obtain rfl : ad565 = ad567 := (by injection e567)
              replace p567 := eq_true p567
              replace q567 := eq_true q567
              have p568 : 0 ≤ (x58_2 : Int) := od_
              have q568 : x58_2 < (l1.length : Int) := od_
              obtain ⟨ad568, e568, hx568_0, hx568_1, hx568_2, hx568_3, hx568_4⟩ := at_T40 HR1.out x58_2 p568 q568
              cases e568
              replace hx568_0 := (HB.out.cell (World.block_lt_of_cell? w _ hx568_0)).trans hx568_0
              replace hx568_1 := (HB.out.cell (World.block_lt_of_cell? w _ hx568_1)).trans hx568_1
              replace hx568_2 := (HB.out.cell (World.block_lt_of_cell? w _ hx568_2)).trans hx568_2
              replace hx568_3 := (HB.out.cell (World.block_lt_of_cell? w _ hx568_3)).trans hx568_3
              replace hx568_4 := (HB.out.cell (World.block_lt_of_cell? w _ hx568_4)).trans hx568_4
              replace p568 := eq_true p568
              replace q568 := eq_true q568
              have p569 : 0 ≤ (x58_2 : Int) := od_
              have q569 : x58_2 < (t560.length : Int) := od_
              obtain ⟨ad569, e569, hx569_0, hx569_1, hx569_2, hx569_3, hx569_4⟩ := at_T40 (Kd.R_reads' HO_11.out).2.2 x58_2 p569 q569
              obtain rfl : ad565 = ad569 := (by injection e569)
              replace p569 := eq_true p569
              replace q569 := eq_true q569
              have p570 : 0 ≤ (x58_2 : Int) := od_
              have q570 : x58_2 < (l1.length : Int) := od_
              obtain ⟨ad570, e570, hx570_0, hx570_1, hx570_2, hx570_3, hx570_4⟩ := at_T40 HR1.out x58_2 p570 q570
              obtain rfl : ad568 = ad570 := (by injection e570)
              replace hx570_0 := (HB.out.cell (World.block_lt_of_cell? w _ hx570_0)).trans hx570_0
              replace hx570_1 := (HB.out.cell (World.block_lt_of_cell? w _ hx570_1)).trans hx570_1
              replace hx570_2 := (HB.out.cell (World.block_lt_of_cell? w _ hx570_2)).trans hx570_2
              replace hx570_3 := (HB.out.cell (World.block_lt_of_cell? w _ hx570_3)).trans hx570_3
              replace hx570_4 := (HB.out.cell (World.block_lt_of_cell? w _ hx570_4)).trans hx570_4
              replace p570 := eq_true p570
              replace q570 := eq_true q570
              have p571 : 0 ≤ (x58_2 : Int) := od_
              have q571 : x58_2 < (l1.length : Int) := od_
              obtain ⟨ad571, e571, hx571_0, hx571_1, hx571_2, hx571_3, hx571_4⟩ := at_T40 HR1.out x58_2 p571 q571
              obtain rfl : ad568 = ad571 := (by injection e571)
              replace hx571_0 := (HB.out.cell (World.block_lt_of_cell? w _ hx571_0)).trans hx571_0
              replace hx571_1 := (HB.out.cell (World.block_lt_of_cell? w _ hx571_1)).trans hx571_1
              replace hx571_2 := (HB.out.cell (World.block_lt_of_cell? w _ hx571_2)).trans hx571_2
              replace hx571_3 := (HB.out.cell (World.block_lt_of_cell? w _ hx571_3)).trans hx571_3
              replace hx571_4 := (HB.out.cell (World.block_lt_of_cell? w _ hx571_4)).trans hx571_4
              replace p571 := eq_true p571
              replace q571 := eq_true q571
              have p572 : 0 ≤ (x58_2 : Int) := od_
              have q572 : x58_2 < (l0.length : Int) := od_
              obtain ⟨ad572, e572, hx572_0, hx572_1, hx572_2, hx572_3, hx572_4⟩ := at_T40 HR0.out x58_2 p572 q572
              obtain rfl : ad566 = ad572 := (by injection e572)
              replace hx572_0 := (HB.out.cell (World.block_lt_of_cell? w _ hx572_0)).trans hx572_0
              replace hx572_1 := (HB.out.cell (World.block_lt_of_cell? w _ hx572_1)).trans hx572_1
              replace hx572_2 := (HB.out.cell (World.block_lt_of_cell? w _ hx572_2)).trans hx572_2
              replace hx572_3 := (HB.out.cell (World.block_lt_of_cell? w _ hx572_3)).trans hx572_3
              replace hx572_4 := (HB.out.cell (World.block_lt_of_cell? w _ hx572_4)).trans hx572_4
              replace p572 := eq_true p572
              replace q572 := eq_true q572
              go_wp2
              repeat (go_quiet (fail); try go_wp2)
              go_ret
              exact ⟨ew_, by repeat (first | (with_reducible first | exact HB.out | apply below_alloc | apply pw_below_drewN | apply below_drew1) | exact HB.out)⟩
             ·rw [if_neg c25] at H
              have c25b0 : decide (((rd_T40 l1 x58_2).f1) < ((rd_T40 l0 x58_2).f2.f0)) = false := decide_eq_false c25
              clear c25
              by_cases c26 : ((rd_T40 l1 x58_2).f1) > ((rd_T40 l0 x58_2).f2.f1)
              ·rw [if_pos c26] at H
               have c26b0 : decide (((rd_T40 l0 x58_2).f2.f1) < ((rd_T40 l1 x58_2).f1)) = true := decide_eq_true c26
               clear c26
               obtain rfl := Option.some.inj H
               have p565 : 0 ≤ (x58_2 : Int) := od_
               have q565 : x58_2 < (t560.length : Int) := od_
               obtain ⟨ad565, e565, hx565_0, hx565_1, hx565_2, hx565_3, hx565_4⟩ := at_T40 (Kd.R_reads' HO_11.out).2.2 x58_2 p565 q565
               cases e565
               replace p565 := eq_true p565
               replace q565 := eq_true q565
               have p566 : 0 ≤ (x58_2 : Int) := od_
               have q566 : x58_2 < (l0.length : Int) := od_
               obtain ⟨ad566, e566, hx566_0, hx566_1, hx566_2, hx566_3, hx566_4⟩ := at_T40 HR0.out x58_2 p566 q566
               cases e566
               replace hx566_0 := (HB.out.cell (World.block_lt_of_cell? w _ hx566_0)).trans hx566_0
               replace hx566_1 := (HB.out.cell (World.block_lt_of_cell? w _ hx566_1)).trans hx566_1
               replace hx566_2 := (HB.out.cell (World.block_lt_of_cell? w _ hx566_2)).trans hx566_2
               replace hx566_3 := (HB.out.cell (World.block_lt_of_cell? w _ hx566_3)).trans hx566_3
               replace hx566_4 := (HB.out.cell (World.block_lt_of_cell? w _ hx566_4)).trans hx566_4
               replace p566 := eq_true p566
               replace q566 := eq_true q566
               have p567 : 0 ≤ (x58_2 : Int) := od_
               have q567 : x58_2 < (t560.length : Int) := od_
               obtain ⟨ad567, e567, hx567_0, hx567_1, hx567_2, hx567_3, hx567_4⟩ := at_T40 (Kd.R_reads' HO_11.out).2.2 x58_2 p567 q567
               obtain rfl : ad565 = ad567 := (by injection e567)
               replace p567 := eq_true p567
               replace q567 := eq_true q567
               have p568 : 0 ≤ (x58_2 : Int) := od_
               have q568 : x58_2 < (l1.length : Int) := od_
               obtain ⟨ad568, e568, hx568_0, hx568_1, hx568_2, hx568_3, hx568_4⟩ := at_T40 HR1.out x58_2 p568 q568
               cases e568
               replace hx568_0 := (HB.out.cell (World.block_lt_of_cell? w _ hx568_0)).trans hx568_0
               replace hx568_1 := (HB.out.cell (World.block_lt_of_cell? w _ hx568_1)).trans hx568_1
               replace hx568_2 := (HB.out.cell (World.block_lt_of_cell? w _ hx568_2)).trans hx568_2
               replace hx568_3 := (HB.out.cell (World.block_lt_of_cell? w _ hx568_3)).trans hx568_3
               replace hx568_4 := (HB.out.cell (World.block_lt_of_cell? w _ hx568_4)).trans hx568_4
               replace p568 := eq_true p568
               replace q568 := eq_true q568
               have p569 : 0 ≤ (x58_2 : Int) := od_
               have q569 : x58_2 < (t560.length : Int) := od_
               obtain ⟨ad569, e569, hx569_0, hx569_1, hx569_2, hx569_3, hx569_4⟩ := at_T40 (Kd.R_reads' HO_11.out).2.2 x58_2 p569 q569
               obtain rfl : ad565 = ad569 := (by injection e569)
               replace p569 := eq_true p569
               replace q569 := eq_true q569
               have p570 : 0 ≤ (x58_2 : Int) := od_
               have q570 : x58_2 < (l1.length : Int) := od_
               obtain ⟨ad570, e570, hx570_0, hx570_1, hx570_2, hx570_3, hx570_4⟩ := at_T40 HR1.out x58_2 p570 q570
               obtain rfl : ad568 = ad570 := (by injection e570)
               replace hx570_0 := (HB.out.cell (World.block_lt_of_cell? w _ hx570_0)).trans hx570_0
               replace hx570_1 := (HB.out.cell (World.block_lt_of_cell? w _ hx570_1)).trans hx570_1
               replace hx570_2 := (HB.out.cell (World.block_lt_of_cell? w _ hx570_2)).trans hx570_2
               replace hx570_3 := (HB.out.cell (World.block_lt_of_cell? w _ hx570_3)).trans hx570_3
               replace hx570_4 := (HB.out.cell (World.block_lt_of_cell? w _ hx570_4)).trans hx570_4
               replace p570 := eq_true p570
               replace q570 := eq_true q570
               have p571 : 0 ≤ (x58_2 : Int) := od_
               have q571 : x58_2 < (l1.length : Int) := od_
               obtain ⟨ad571, e571, hx571_0, hx571_1, hx571_2, hx571_3, hx571_4⟩ := at_T40 HR1.out x58_2 p571 q571
               obtain rfl : ad568 = ad571 := (by injection e571)
               replace hx571_0 := (HB.out.cell (World.block_lt_of_cell? w _ hx571_0)).trans hx571_0
               replace hx571_1 := (HB.out.cell (World.block_lt_of_cell? w _ hx571_1)).trans hx571_1
               replace hx571_2 := (HB.out.cell (World.block_lt_of_cell? w _ hx571_2)).trans hx571_2
               replace hx571_3 := (HB.out.cell (World.block_lt_of_cell? w _ hx571_3)).trans hx571_3
               replace hx571_4 := (HB.out.cell (World.block_lt_of_cell? w _ hx571_4)).trans hx571_4
               replace p571 := eq_true p571
               replace q571 := eq_true q571
               have p572 : 0 ≤ (x58_2 : Int) := od_
               have q572 : x58_2 < (l0.length : Int) := od_
               obtain ⟨ad572, e572, hx572_0, hx572_1, hx572_2, hx572_3, hx572_4⟩ := at_T40 HR0.out x58_2 p572 q572
               obtain rfl : ad566 = ad572 := (by injection e572)
               replace hx572_0 := (HB.out.cell (World.block_lt_of_cell? w _ hx572_0)).trans hx572_0
               replace hx572_1 := (HB.out.cell (World.block_lt_of_cell? w _ hx572_1)).trans hx572_1
               replace hx572_2 := (HB.out.cell (World.block_lt_of_cell? w _ hx572_2)).trans hx572_2
               replace hx572_3 := (HB.out.cell (World.block_lt_of_cell? w _ hx572_3)).trans hx572_3
               replace hx572_4 := (HB.out.cell (World.block_lt_of_cell? w _ hx572_4)).trans hx572_4
               replace p572 := eq_true p572
               replace q572 := eq_true q572
               have p573 : 0 ≤ (x58_2 : Int) := od_
               have q573 : x58_2 < (l1.length : Int) := od_
               obtain ⟨ad573, e573, hx573_0, hx573_1, hx573_2, hx573_3, hx573_4⟩ := at_T40 HR1.out x58_2 p573 q573
               obtain rfl : ad568 = ad573 := (by injection e573)
               replace hx573_0 := (HB.out.cell (World.block_lt_of_cell? w _ hx573_0)).trans hx573_0
               replace hx573_1 := (HB.out.cell (World.block_lt_of_cell? w _ hx573_1)).trans hx573_1
               replace hx573_2 := (HB.out.cell (World.block_lt_of_cell? w _ hx573_2)).trans hx573_2
               replace hx573_3 := (HB.out.cell (World.block_lt_of_cell? w _ hx573_3)).trans hx573_3
               replace hx573_4 := (HB.out.cell (World.block_lt_of_cell? w _ hx573_4)).trans hx573_4
               replace p573 := eq_true p573
               replace q573 := eq_true q573
               have p574 : 0 ≤ (x58_2 : Int) := od_
               have q574 : x58_2 < (l0.length : Int) := od_
               obtain ⟨ad574, e574, hx574_0, hx574_1, hx574_2, hx574_3, hx574_4⟩ := at_T40 HR0.out x58_2 p574 q574
               obtain rfl : ad566 = ad574 := (by injection e574)
               replace hx574_0 := (HB.out.cell (World.block_lt_of_cell? w _ hx574_0)).trans hx574_0
               replace hx574_1 := (HB.out.cell (World.block_lt_of_cell? w _ hx574_1)).trans hx574_1
               replace hx574_2 := (HB.out.cell (World.block_lt_of_cell? w _ hx574_2)).trans hx574_2
               replace hx574_3 := (HB.out.cell (World.block_lt_of_cell? w _ hx574_3)).trans hx574_3
               replace hx574_4 := (HB.out.cell (World.block_lt_of_cell? w _ hx574_4)).trans hx574_4
               replace p574 := eq_true p574
               replace q574 := eq_true q574
               go_wp2
               repeat (go_quiet (fail); try go_wp2)
               go_ret
               exact ⟨ew_, by repeat (first | (with_reducible first | exact HB.out | apply below_alloc | apply pw_below_drewN | apply below_drew1) | exact HB.out)⟩
              ·rw [if_neg c26] at H
               have c26b0 : decide (((rd_T40 l0 x58_2).f2.f1) < ((rd_T40 l1 x58_2).f1)) = false := decide_eq_false c26
               clear c26
               have H' := Aside0.mk H
               clear H
               have p565 : 0 ≤ (x58_2 : Int) := od_
               have q565 : x58_2 < (t560.length : Int) := od_
               obtain ⟨ad565, e565, hx565_0, hx565_1, hx565_2, hx565_3, hx565_4⟩ := at_T40 (Kd.R_reads' HO_11.out).2.2 x58_2 p565 q565
               cases e565
               replace p565 := eq_true p565
               replace q565 := eq_true q565
               have p566 : 0 ≤ (x58_2 : Int) := od_
               have q566 : x58_2 < (l0.length : Int) := od_
               obtain ⟨ad566, e566, hx566_0, hx566_1, hx566_2, hx566_3, hx566_4⟩ := at_T40 HR0.out x58_2 p566 q566
               cases e566
               replace hx566_0 := (HB.out.cell (World.block_lt_of_cell? w _ hx566_0)).trans hx566_0
               replace hx566_1 := (HB.out.cell (World.block_lt_of_cell? w _ hx566_1)).trans hx566_1
               replace hx566_2 := (HB.out.cell (World.block_lt_of_cell? w _ hx566_2)).trans hx566_2
               replace hx566_3 := (HB.out.cell (World.block_lt_of_cell? w _ hx566_3)).trans hx566_3
               replace hx566_4 := (HB.out.cell (World.block_lt_of_cell? w _ hx566_4)).trans hx566_4
               replace p566 := eq_true p566
               replace q566 := eq_true q566
               have p567 : 0 ≤ (x58_2 : Int) := od_
               have q567 : x58_2 < (t560.length : Int) := od_
               obtain ⟨ad567, e567, hx567_0, hx567_1, hx567_2, hx567_3, hx567_4⟩ := at_T40 (Kd.R_reads' HO_11.out).2.2 x58_2 p567 q567
               obtain rfl : ad565 = ad567 := (by injection e567)
               replace p567 := eq_true p567
               replace q567 := eq_true q567
               have p568 : 0 ≤ (x58_2 : Int) := od_
               have q568 : x58_2 < (l1.length : Int) := od_
               obtain ⟨ad568, e568, hx568_0, hx568_1, hx568_2, hx568_3, hx568_4⟩ := at_T40 HR1.out x58_2 p568 q568
               cases e568
               replace hx568_0 := (HB.out.cell (World.block_lt_of_cell? w _ hx568_0)).trans hx568_0
               replace hx568_1 := (HB.out.cell (World.block_lt_of_cell? w _ hx568_1)).trans hx568_1
               replace hx568_2 := (HB.out.cell (World.block_lt_of_cell? w _ hx568_2)).trans hx568_2
               replace hx568_3 := (HB.out.cell (World.block_lt_of_cell? w _ hx568_3)).trans hx568_3
               replace hx568_4 := (HB.out.cell (World.block_lt_of_cell? w _ hx568_4)).trans hx568_4
               replace p568 := eq_true p568
               replace q568 := eq_true q568
               have p569 : 0 ≤ (x58_2 : Int) := od_
               have q569 : x58_2 < (t560.length : Int) := od_
               obtain ⟨ad569, e569, hx569_0, hx569_1, hx569_2, hx569_3, hx569_4⟩ := at_T40 (Kd.R_reads' HO_11.out).2.2 x58_2 p569 q569
               obtain rfl : ad565 = ad569 := (by injection e569)
               replace p569 := eq_true p569
               replace q569 := eq_true q569
               have p570 : 0 ≤ (x58_2 : Int) := od_
               have q570 : x58_2 < (l1.length : Int) := od_
               obtain ⟨ad570, e570, hx570_0, hx570_1, hx570_2, hx570_3, hx570_4⟩ := at_T40 HR1.out x58_2 p570 q570
               obtain rfl : ad568 = ad570 := (by injection e570)
               replace hx570_0 := (HB.out.cell (World.block_lt_of_cell? w _ hx570_0)).trans hx570_0
               replace hx570_1 := (HB.out.cell (World.block_lt_of_cell? w _ hx570_1)).trans hx570_1
               replace hx570_2 := (HB.out.cell (World.block_lt_of_cell? w _ hx570_2)).trans hx570_2
               replace hx570_3 := (HB.out.cell (World.block_lt_of_cell? w _ hx570_3)).trans hx570_3
               replace hx570_4 := (HB.out.cell (World.block_lt_of_cell? w _ hx570_4)).trans hx570_4
               replace p570 := eq_true p570
               replace q570 := eq_true q570
               have p571 : 0 ≤ (x58_2 : Int) := od_
               have q571 : x58_2 < (l1.length : Int) := od_
               obtain ⟨ad571, e571, hx571_0, hx571_1, hx571_2, hx571_3, hx571_4⟩ := at_T40 HR1.out x58_2 p571 q571
               obtain rfl : ad568 = ad571 := (by injection e571)
               replace hx571_0 := (HB.out.cell (World.block_lt_of_cell? w _ hx571_0)).trans hx571_0
               replace hx571_1 := (HB.out.cell (World.block_lt_of_cell? w _ hx571_1)).trans hx571_1
               replace hx571_2 := (HB.out.cell (World.block_lt_of_cell? w _ hx571_2)).trans hx571_2
               replace hx571_3 := (HB.out.cell (World.block_lt_of_cell? w _ hx571_3)).trans hx571_3
               replace hx571_4 := (HB.out.cell (World.block_lt_of_cell? w _ hx571_4)).trans hx571_4
               replace p571 := eq_true p571
               replace q571 := eq_true q571
               have p572 : 0 ≤ (x58_2 : Int) := od_
               have q572 : x58_2 < (l0.length : Int) := od_
               obtain ⟨ad572, e572, hx572_0, hx572_1, hx572_2, hx572_3, hx572_4⟩ := at_T40 HR0.out x58_2 p572 q572
               obtain rfl : ad566 = ad572 := (by injection e572)
               replace hx572_0 := (HB.out.cell (World.block_lt_of_cell? w _ hx572_0)).trans hx572_0
               replace hx572_1 := (HB.out.cell (World.block_lt_of_cell? w _ hx572_1)).trans hx572_1
               replace hx572_2 := (HB.out.cell (World.block_lt_of_cell? w _ hx572_2)).trans hx572_2
               replace hx572_3 := (HB.out.cell (World.block_lt_of_cell? w _ hx572_3)).trans hx572_3
               replace hx572_4 := (HB.out.cell (World.block_lt_of_cell? w _ hx572_4)).trans hx572_4
               replace p572 := eq_true p572
               replace q572 := eq_true q572
               have p573 : 0 ≤ (x58_2 : Int) := od_
               have q573 : x58_2 < (l1.length : Int) := od_
               obtain ⟨ad573, e573, hx573_0, hx573_1, hx573_2, hx573_3, hx573_4⟩ := at_T40 HR1.out x58_2 p573 q573
               obtain rfl : ad568 = ad573 := (by injection e573)
               replace hx573_0 := (HB.out.cell (World.block_lt_of_cell? w _ hx573_0)).trans hx573_0
               replace hx573_1 := (HB.out.cell (World.block_lt_of_cell? w _ hx573_1)).trans hx573_1
               replace hx573_2 := (HB.out.cell (World.block_lt_of_cell? w _ hx573_2)).trans hx573_2
               replace hx573_3 := (HB.out.cell (World.block_lt_of_cell? w _ hx573_3)).trans hx573_3
               replace hx573_4 := (HB.out.cell (World.block_lt_of_cell? w _ hx573_4)).trans hx573_4
               replace p573 := eq_true p573
               replace q573 := eq_true q573
               have p574 : 0 ≤ (x58_2 : Int) := od_
               have q574 : x58_2 < (l0.length : Int) := od_
               obtain ⟨ad574, e574, hx574_0, hx574_1, hx574_2, hx574_3, hx574_4⟩ := at_T40 HR0.out x58_2 p574 q574
               obtain rfl : ad566 = ad574 := (by injection e574)
               replace hx574_0 := (HB.out.cell (World.block_lt_of_cell? w _ hx574_0)).trans hx574_0
               replace hx574_1 := (HB.out.cell (World.block_lt_of_cell? w _ hx574_1)).trans hx574_1
               replace hx574_2 := (HB.out.cell (World.block_lt_of_cell? w _ hx574_2)).trans hx574_2
               replace hx574_3 := (HB.out.cell (World.block_lt_of_cell? w _ hx574_3)).trans hx574_3
               replace hx574_4 := (HB.out.cell (World.block_lt_of_cell? w _ hx574_4)).trans hx574_4
               replace p574 := eq_true p574
               replace q574 := eq_true q574
               go_wp2
               repeat (go_quiet (fail); try go_wp2)
               go_roundg k2
               case measure => have := HJ6.out; have := HK2.out; omega
               case rel => exact ⟨(wrap64 (x14_2 + ((rd_T40 t560 x58_2).f1))), (wrap64 (x58_2 + 1)), sd_, sd_, H', ⟨by have := HJ6.out; have := HK2.out; omega⟩, ⟨by (with_reducible repeat (first | apply Kd.R_alloc | apply Kd.R_drewN | apply Kd.R_drew)); exact HO_11.out⟩, ⟨by repeat (first | (with_reducible first | exact HB.out | apply below_alloc | apply pw_below_drewN | apply below_drew1) | exact HB.out)⟩⟩
           ·rw [if_neg c23] at H
            have c23b0 : ((wrap64 (((rd_T40 l0 x58_2).f1) + ((rd_T40 t560 x58_2).f1))) == ((rd_T40 l1 x58_2).f1)) = false := beq_eq_false_iff_ne.mpr c23
            have c23b1 : ((wrap64 (((rd_T40 l0 x58_2).f1) + ((rd_T40 t560 x58_2).f1))) != ((rd_T40 l1 x58_2).f1)) = true := bne_iff_ne.mpr c23
            obtain rfl := Option.some.inj H
            have p565 : 0 ≤ (x58_2 : Int) := od_
            have q565 : x58_2 < (t560.length : Int) := od_
            obtain ⟨ad565, e565, hx565_0, hx565_1, hx565_2, hx565_3, hx565_4⟩ := at_T40 (Kd.R_reads' HO_11.out).2.2 x58_2 p565 q565
            cases e565
            replace p565 := eq_true p565
            replace q565 := eq_true q565
            have p566 : 0 ≤ (x58_2 : Int) := od_
            have q566 : x58_2 < (l0.length : Int) := od_
            obtain ⟨ad566, e566, hx566_0, hx566_1, hx566_2, hx566_3, hx566_4⟩ := at_T40 HR0.out x58_2 p566 q566
            cases e566
            replace hx566_0 := (HB.out.cell (World.block_lt_of_cell? w _ hx566_0)).trans hx566_0
            replace hx566_1 := (HB.out.cell (World.block_lt_of_cell? w _ hx566_1)).trans hx566_1
            replace hx566_2 := (HB.out.cell (World.block_lt_of_cell? w _ hx566_2)).trans hx566_2
            replace hx566_3 := (HB.out.cell (World.block_lt_of_cell? w _ hx566_3)).trans hx566_3
            replace hx566_4 := (HB.out.cell (World.block_lt_of_cell? w _ hx566_4)).trans hx566_4
            replace p566 := eq_true p566
            replace q566 := eq_true q566
            have p567 : 0 ≤ (x58_2 : Int) := od_
            have q567 : x58_2 < (t560.length : Int) := od_
            obtain ⟨ad567, e567, hx567_0, hx567_1, hx567_2, hx567_3, hx567_4⟩ := at_T40 (Kd.R_reads' HO_11.out).2.2 x58_2 p567 q567
            obtain rfl : ad565 = ad567 := (by injection e567)
            replace p567 := eq_true p567
            replace q567 := eq_true q567
            have p568 : 0 ≤ (x58_2 : Int) := od_
            have q568 : x58_2 < (l1.length : Int) := od_
            obtain ⟨ad568, e568, hx568_0, hx568_1, hx568_2, hx568_3, hx568_4⟩ := at_T40 HR1.out x58_2 p568 q568
            cases e568
            replace hx568_0 := (HB.out.cell (World.block_lt_of_cell? w _ hx568_0)).trans hx568_0
            replace hx568_1 := (HB.out.cell (World.block_lt_of_cell? w _ hx568_1)).trans hx568_1
            replace hx568_2 := (HB.out.cell (World.block_lt_of_cell? w _ hx568_2)).trans hx568_2
            replace hx568_3 := (HB.out.cell (World.block_lt_of_cell? w _ hx568_3)).trans hx568_3
            replace hx568_4 := (HB.out.cell (World.block_lt_of_cell? w _ hx568_4)).trans hx568_4
            replace p568 := eq_true p568
            replace q568 := eq_true q568
            go_wp2
            repeat (go_quiet (fail); try go_wp2)
            go_ret
            exact ⟨ew_, by repeat (first | (with_reducible first | exact HB.out | apply below_alloc | apply pw_below_drewN | apply below_drew1) | exact HB.out)⟩
          ·rw [if_neg c22] at H
           exact absurd H (by simp)
         ·rw [if_neg c21] at H
          exact absurd H (by simp)
        ·rw [if_neg c20] at H
         exact absurd H (by simp)
       ·rw [if_neg c19] at H
        exact absurd H (by simp)
      ·rw [if_neg c18] at H
       have c18b0 : decide (x58_2 < (t560.length : Int)) = false := decide_eq_false c18
       clear c18
       obtain rfl := Option.some.inj H
       go_wp2
       repeat (go_quiet (fail); try go_wp2)
       go_ret
       exact ⟨ew_, by repeat (first | (with_reducible first | exact HB.out | apply below_alloc | apply pw_below_drewN | apply below_drew1) | exact HB.out)⟩
end
end Go.Proofs.Ythjjabcbngffoaa.P
end
section
namespace Go.Proofs.FlowTree
def sm (f : Nat → Int) (ks : List Nat) : Int := (ks.map f).foldl (· + ·) 0
theorem foldl_add (l : List Int) : ∀ a : Int, l.foldl (· + ·) a = a + l.foldl (· + ·) 0 := by
 induction l with
 | nil => intro a; simp
 | cons x l ih => intro a; rw [List.foldl_cons, List.foldl_cons, ih (a + x), ih (0 + x)]; omega
theorem sm_nil (f : Nat → Int) : sm f [] = 0 := rfl
theorem sm_cons (f : Nat → Int) (k : Nat) (ks : List Nat) : sm f (k :: ks) = f k + sm f ks := by
 unfold sm
 rw [List.map_cons, List.foldl_cons, foldl_add]; omega
theorem sm_congr {f g : Nat → Int} {ks : List Nat} (h : ∀ k ∈ ks, f k = g k) : sm f ks = sm g ks := by
 induction ks with
 | nil => rfl
 | cons k ks ih => rw [sm_cons, sm_cons, h k (by simp), ih (fun j hj => h j (by simp [hj]))]
theorem sm_le {f g : Nat → Int} {ks : List Nat} (h : ∀ k ∈ ks, f k ≤ g k) : sm f ks ≤ sm g ks := by
 induction ks with
 | nil => exact Int.le_refl _
 | cons k ks ih => rw [sm_cons, sm_cons]; have := h k (by simp); have := ih (fun j hj => h j (by simp [hj])); omega
theorem sm_bound {f : Nat → Int} {ks : List Nat} {a b : Int} (h : ∀ k ∈ ks, a ≤ f k ∧ f k ≤ b) : a * ks.length ≤ sm f ks ∧ sm f ks ≤ b * ks.length := by
 induction ks with
 | nil => simp [sm_nil]
 | cons k ks ih =>
  rw [sm_cons]
  have h1 := h k (by simp)
  have h2 := ih (fun j hj => h j (by simp [hj]))
  simp only [List.length_cons, Int.natCast_add, Int.natCast_one, Int.mul_add, Int.mul_one]
  omega
theorem sm_add (f g : Nat → Int) (ks : List Nat) : sm (fun k => f k + g k) ks = sm f ks + sm g ks := by
 induction ks with
 | nil => rfl
 | cons k ks ih => rw [sm_cons, sm_cons, sm_cons, ih]; omega
theorem sm_nonneg {f : Nat → Int} {ks : List Nat} (h : ∀ k ∈ ks, 0 ≤ f k) : 0 ≤ sm f ks := by
 induction ks with
 | nil => exact Int.le_refl _
 | cons k ks ih => rw [sm_cons]; have := h k (by simp); have := ih (fun j hj => h j (by simp [hj])); omega
theorem sm_append (f : Nat → Int) (a b : List Nat) : sm f (a ++ b) = sm f a + sm f b := by
 induction a with
 | nil => simp [sm_nil]
 | cons x a ih => rw [List.cons_append, sm_cons, sm_cons, ih]; omega
theorem sm_split (f : Nat → Int) {ks : List Nat} {k : Nat} (hk : k ∈ ks) : ∃ a b, ks = a ++ k :: b ∧ sm f ks = f k + sm f (a ++ b) := by
 obtain ⟨a, b, rfl⟩ := List.append_of_mem hk
 exact ⟨a, b, rfl, by rw [sm_append, sm_append, sm_cons]; omega⟩
theorem fill (lo hi : Nat → Int) (ks : List Nat) (hn : ks.Nodup) (h : ∀ k ∈ ks, lo k ≤ hi k) : ∀ s, sm lo ks ≤ s → s ≤ sm hi ks → ∃ c : Nat → Int, (∀ k ∈ ks, lo k ≤ c k ∧ c k ≤ hi k) ∧ sm c ks = s := by
 induction ks with
 | nil => intro s h1 h2; exact ⟨fun _ => 0, (fun k hk => by cases hk), (by rw [sm_nil] at *; omega)⟩
 | cons k ks ih =>
  intro s h1 h2
  rw [sm_cons] at h1 h2
  have hk := h k (by simp)
  have hle := sm_le (fun j hj => h j (List.mem_cons_of_mem _ hj))
  rw [List.nodup_cons] at hn
  have key : ∃ v, lo k ≤ v ∧ v ≤ hi k ∧ sm lo ks ≤ s - v ∧ s - v ≤ sm hi ks := by
   by_cases hc : s - lo k ≤ sm hi ks
   ·exact ⟨lo k, by omega, by omega, by omega, by omega⟩
   ·exact ⟨s - sm hi ks, by omega, by omega, by omega, by omega⟩
  obtain ⟨v, hv1, hv2, hv3, hv4⟩ := key
  obtain ⟨c, hc, hs⟩ := ih hn.2 (fun j hj => h j (List.mem_cons_of_mem _ hj)) (s - v) hv3 hv4
  refine ⟨fun j => if j = k then v else c j, ?_, ?_⟩
  ·intro j hj
   rcases List.mem_cons.1 hj with rfl | hj
   ·simp only [if_true]; exact ⟨hv1, hv2⟩
   ·have : j ≠ k := fun e => hn.1 (e ▸ hj)
    simp only [this, if_false]; exact hc j hj
  ·rw [sm_cons]
   simp only [if_true]
   rw [sm_congr (g := c) (fun j hj => by have : j ≠ k := fun e => hn.1 (e ▸ hj); simp [this]), hs]; omega
structure Net where
 n : Nat
 kid : Nat → List Nat
 loss : Nat → Int
structure Net.Ok (T : Net) : Prop where
 lt : ∀ i k, k ∈ T.kid i → i < k ∧ k < T.n
 nodup : ∀ i, (T.kid i).Nodup
 one : ∀ i j k, k ∈ T.kid i → k ∈ T.kid j → i = j
 loss0 : ∀ i, i < T.n → 0 ≤ T.loss i
def Net.eq (T : Net) (x : Nat → Int) (i : Nat) : Prop := T.kid i ≠ [] → 0 ≤ x i - sm x (T.kid i) ∧ x i - sm x (T.kid i) ≤ T.loss i
def Sol (T : Net) (lo hi : Nat → Int) (x : Nat → Int) : Prop := (∀ i, i < T.n → lo i ≤ x i ∧ x i ≤ hi i) ∧ ∀ i, i < T.n → T.eq x i
theorem eq_congr {T : Net} {x y : Nat → Int} {i : Nat} (h0 : x i = y i) (h : ∀ k ∈ T.kid i, x k = y k) (hx : T.eq x i) : T.eq y i := by
 intro hk
 have := hx hk
 rw [sm_congr h, h0] at this
 exact this
theorem extend (T : Net) (hT : T.Ok) (lo hi : Nat → Int) (hne : ∀ i, i < T.n → lo i ≤ hi i) (hup : ∀ i, i < T.n → T.kid i ≠ [] → sm lo (T.kid i) ≤ lo i ∧ hi i ≤ sm hi (T.kid i) + T.loss i) :
  ∀ (d m : Nat), m + d = T.n → ∀ x : Nat → Int, (∀ i, i < T.n → lo i ≤ x i ∧ x i ≤ hi i) → (∀ i, i < m → T.eq x i) →
   ∃ y, Sol T lo hi y ∧ ∀ j, (∀ i, m ≤ i → j ∉ T.kid i) → y j = x j := by
 intro d
 induction d with
 | zero =>
  intro m hm x hx he
  exact ⟨x, ⟨hx, fun i hi => he i (by omega)⟩, fun _ _ => rfl⟩
 | succ d ih =>
  intro m hm x hx he
  have hmn : m < T.n := by omega
  have key : ∃ x', (∀ i, i < T.n → lo i ≤ x' i ∧ x' i ≤ hi i) ∧ (∀ i, i < m + 1 → T.eq x' i) ∧ ∀ j, j ∉ T.kid m → x' j = x j := by
   by_cases hk : T.kid m = []
   ·refine ⟨x, hx, fun i hi => ?_, fun _ _ => rfl⟩
    by_cases h : i < m
    ·exact he i h
    ·rw [show i = m by omega]; intro h'; exact absurd hk h'
   ·have h1 := hup m hmn hk
    have h2 := hx m hmn
    have hle : sm lo (T.kid m) ≤ sm hi (T.kid m) := sm_le (fun k hk' => hne k (hT.lt m k hk').2)
    have hl0 := hT.loss0 m hmn
    have hs : ∃ s, sm lo (T.kid m) ≤ s ∧ s ≤ sm hi (T.kid m) ∧ 0 ≤ x m - s ∧ x m - s ≤ T.loss m := by
     by_cases hc : x m ≤ sm hi (T.kid m)
     ·exact ⟨x m, by omega, by omega, by omega, by omega⟩
     ·exact ⟨sm hi (T.kid m), by omega, by omega, by omega, by omega⟩
    obtain ⟨s, hs1, hs2, hs3, hs4⟩ := hs
    obtain ⟨c, hc, hcs⟩ := fill lo hi (T.kid m) (hT.nodup m) (fun k hk' => hne k (hT.lt m k hk').2) s hs1 hs2
    refine ⟨fun j => if j ∈ T.kid m then c j else x j, ?_, ?_, ?_⟩
    ·intro i hi'
     by_cases h : i ∈ T.kid m
     ·simp only [h, if_true]; exact hc i h
     ·simp only [h, if_false]; exact hx i hi'
    ·intro i hi'
     by_cases h : i < m
     ·refine eq_congr (x := x) ?_ ?_ (he i h)
      ·have : i ∉ T.kid m := fun hm' => by have := (hT.lt m i hm').1; omega
       simp [this]
      ·intro k hk'
       have : k ∉ T.kid m := fun hm' => by have := hT.one i m k hk' hm'; omega
       simp [this]
     ·have e : i = m := by omega
      subst e
      intro _
      have h3 : i ∉ T.kid i := fun hm' => by have := (hT.lt i i hm').1; omega
      rw [sm_congr (g := c) (fun k hk' => by simp [hk'])]
      simp only [h3, if_false]
      rw [hcs]
      exact ⟨hs3, hs4⟩
    ·intro j hj
     simp [hj]
  obtain ⟨x', hx', he', hk'⟩ := key
  obtain ⟨y, hy, hyx⟩ := ih (m + 1) (by omega) x' hx' he'
  refine ⟨y, hy, fun j hj => ?_⟩
  rw [hyx j (fun i hi' => hj i (by omega)), hk' j (hj m (Nat.le_refl _))]
theorem exact (T : Net) (hT : T.Ok) (lo hi dl dh : Nat → Int) (hne : ∀ i, i < T.n → lo i ≤ hi i)
  (hup : ∀ i, i < T.n → T.kid i ≠ [] → sm lo (T.kid i) ≤ lo i ∧ hi i ≤ sm hi (T.kid i) + T.loss i)
  (hsub : ∀ i, i < T.n → lo i ≤ dl i ∧ dl i ≤ dh i ∧ dh i ≤ hi i)
  (hdn : ∀ i, i < T.n → ∀ k ∈ T.kid i, dl i - T.loss i - (sm hi (T.kid i) - hi k) ≤ dl k ∧ dh k ≤ dh i - (sm lo (T.kid i) - lo k)) :
  ∀ (k : Nat), k < T.n → ∀ v, dl k ≤ v → v ≤ dh k → ∃ x, Sol T lo hi x ∧ x k = v := by
 intro k
 induction k using Nat.strongRecOn with
 | ind k ih =>
  intro hk v hv1 hv2
  by_cases hp : ∃ i, i < T.n ∧ k ∈ T.kid i
  ·obtain ⟨i, hi', hki⟩ := hp
   have hik := (hT.lt i k hki).1
   have hne' : T.kid i ≠ [] := fun h => by rw [h] at hki; cases hki
   have h1 := hdn i hi' k hki
   have h2 := hsub i hi'
   have h3 := hup i hi' hne'
   have h4 := hsub k hk
   have hl0 := hT.loss0 i hi'
   obtain ⟨a, b, hab, hlo⟩ := sm_split lo hki
   have hhi : sm hi (T.kid i) = hi k + sm hi (a ++ b) := by rw [hab, sm_append, sm_append, sm_cons]; omega
   have hnd : (a ++ b).Nodup ∧ k ∉ a ++ b := by
    have := hT.nodup i
    rw [hab] at this
    rw [List.nodup_append] at this
    obtain ⟨ha, hb, hd⟩ := this
    rw [List.nodup_cons] at hb
    refine ⟨List.nodup_append.2 ⟨ha, hb.2, fun x hx y hy => hd x hx y (List.mem_cons_of_mem _ hy)⟩, fun h => ?_⟩
    rcases List.mem_append.1 h with h | h
    ·exact hd k h k (by simp) rfl
    ·exact hb.1 h
   have hmem : ∀ j ∈ a ++ b, j ∈ T.kid i := by
    intro j hj
    rw [hab]
    rcases List.mem_append.1 hj with h | h
    ·exact List.mem_append.2 (.inl h)
    ·exact List.mem_append.2 (.inr (List.mem_cons_of_mem _ h))
   have hle : sm lo (a ++ b) ≤ sm hi (a ++ b) := sm_le (fun j hj => hne j (hT.lt i j (hmem j hj)).2)
   have hw : ∃ w s, dl i ≤ w ∧ w ≤ dh i ∧ sm lo (a ++ b) ≤ s ∧ s ≤ sm hi (a ++ b) ∧ 0 ≤ w - (v + s) ∧ w - (v + s) ≤ T.loss i := by
    by_cases hc : dl i ≤ sm lo (a ++ b) + v
    ·exact ⟨sm lo (a ++ b) + v, sm lo (a ++ b), by omega, by omega, by omega, by omega, by omega, by omega⟩
    ·by_cases hc2 : dl i - v ≤ sm hi (a ++ b)
     ·exact ⟨dl i, dl i - v, by omega, by omega, by omega, by omega, by omega, by omega⟩
     ·exact ⟨dl i, sm hi (a ++ b), by omega, by omega, by omega, by omega, by omega, by omega⟩
   obtain ⟨w, s, hw1, hw2, hs1, hs2, hs3, hs4⟩ := hw
   obtain ⟨y, hy, hyi⟩ := ih i hik hi' w hw1 hw2
   obtain ⟨c, hc, hcs⟩ := fill lo hi (a ++ b) hnd.1 (fun j hj => hne j (hT.lt i j (hmem j hj)).2) s hs1 hs2
   let c' : Nat → Int := fun j => if j = k then v else c j
   have hc' : ∀ j ∈ T.kid i, lo j ≤ c' j ∧ c' j ≤ hi j := by
    intro j hj
    by_cases h : j = k
    ·subst h; simp only [c', if_true]; omega
    ·simp only [c', h, if_false]
     refine hc j ?_
     rw [hab] at hj
     rcases List.mem_append.1 hj with h' | h'
     ·exact List.mem_append.2 (.inl h')
     ·rcases List.mem_cons.1 h' with h' | h'
      ·exact absurd h' h
      ·exact List.mem_append.2 (.inr h')
   have hcs' : sm c' (T.kid i) = v + s := by
    have : sm c' (T.kid i) = c' k + sm c' (a ++ b) := by rw [hab, sm_append, sm_append, sm_cons]; omega
    rw [this, sm_congr (f := c') (g := c) (fun j hj => by have : j ≠ k := fun e => hnd.2 (e ▸ hj); simp [c', this]), hcs]
    simp [c']
   obtain ⟨z, hz, hzx⟩ := extend T hT lo hi hne hup (T.n - (i + 1)) (i + 1) (by omega) (fun j => if j ∈ T.kid i then c' j else y j)
    (fun j hj => by
     by_cases h : j ∈ T.kid i
     ·simp only [h, if_true]; exact hc' j h
     ·simp only [h, if_false]; exact hy.1 j hj)
    (fun j hj => by
     by_cases h : j < i
     ·refine eq_congr (x := y) ?_ ?_ (hy.2 j (by omega))
      ·have : j ∉ T.kid i := fun hm' => by have := (hT.lt i j hm').1; omega
       simp [this]
      ·intro q hq
       have : q ∉ T.kid i := fun hm' => by have := hT.one j i q hq hm'; omega
       simp [this]
     ·have e : j = i := by omega
      subst e
      intro _
      have h3 : j ∉ T.kid j := fun hm' => by have := (hT.lt j j hm').1; omega
      rw [sm_congr (g := c') (fun q hq => by simp [hq])]
      simp only [h3, if_false]
      rw [hcs', hyi]
      exact ⟨hs3, hs4⟩)
   refine ⟨z, hz, ?_⟩
   rw [hzx k (fun j hj hk' => by have := hT.one i j k hki hk'; omega)]
   simp [hki, c']
  ·have h4 := hsub k hk
   obtain ⟨z, hz, hzx⟩ := extend T hT lo hi hne hup T.n 0 (by omega) (fun j => if j = k then v else lo j)
    (fun j hj => by
     by_cases h : j = k
     ·subst h; simp only [if_true]; omega
     ·simp only [h, if_false]; exact ⟨Int.le_refl _, hne j hj⟩)
    (fun j hj => absurd hj (Nat.not_lt_zero _))
   refine ⟨z, hz, ?_⟩
   rw [hzx k (fun j _ hk' => hp ⟨j, by have := hT.lt j k hk'; omega, hk'⟩)]
   simp
end Go.Proofs.FlowTree
end
section
namespace Go.Proofs.Ythjjabcbngffoaa.P
open Go.RowKit Go.Proofs.YthjjabcbngffoaaW.PrintWords Go.Proofs.YthjjabcbngffoaaW.PrintLast Go.Proofs.YthjjabcbngffoaaW.PrintMore Go.Proofs.YthjjabcbngffoaaH Go.Proofs.FlowTree
abbrev CH := S40
abbrev RGE := S38
theorem right_lo {c t v : Int} (ht : 1 ≤ t) : 2 * t * rightV c t v ≤ 2 * (c * v) + t := by
 unfold rightV
 exact Int.mul_ediv_self_le (by omega)
theorem right_mono {c t v v' : Int} (hc : 0 ≤ c) (ht : 1 ≤ t) (h : v ≤ v') : rightV c t v ≤ rightV c t v' := by
 unfold rightV
 have := Int.mul_le_mul_of_nonneg_left h hc
 exact Int.ediv_le_ediv (by omega) (by omega)
theorem right_bd {c t v : Int} (hc : 0 ≤ c) (ht : 1 ≤ t) (h0 : 0 ≤ v) (h : v ≤ t) : 0 ≤ rightV c t v ∧ rightV c t v ≤ c := by
 have h1 := Int.mul_nonneg hc h0
 have h2 := Int.mul_le_mul_of_nonneg_left h hc
 constructor
 ·unfold rightV
  exact Int.ediv_nonneg (by omega) (by omega)
 ·have : rightV c t v < c + 1 := by
   unfold rightV
   refine Int.ediv_lt_of_lt_mul (by omega) ?_
   have : (c + 1) * (2 * t) = 2 * (c * t) + 2 * t := by rw [Int.add_mul, Int.one_mul, ← Int.mul_assoc, Int.mul_comm c 2, Int.mul_assoc]
   omega
  omega
abbrev cc (bs : List CH) (j : Nat) : CH := rd_T40 bs (j : Int)
abbrev qq (l : List RGE) (j : Nat) : RGE := rd_T38 l (j : Int)
theorem cc_set (bs : List CH) (i j : Nat) (y : CH) (hi : i < bs.length) : cc (bs.set i y) j = if i = j then y else cc bs j := by
 simp only [cc, rd_T40, List.getD_eq_getElem?_getD, Int.toNat_natCast, List.getElem?_set]
 by_cases e : i = j
 ·subst e; simp [hi]
 ·simp [e]
theorem qq_map (f : RGE → RGE) (l : List RGE) (j : Nat) (h : j < l.length) : qq (l.map f) j = f (qq l j) := by
 simp [qq, rd_T38, List.getD_eq_getElem?_getD, h]
theorem qq_mem (l : List RGE) (j : Nat) (h : j < l.length) : qq l j ∈ l := by
 simp [qq, rd_T38, List.getD_eq_getElem?_getD, h]
theorem foldl_rng {α : Type} (g : α → Nat → α) (x : α) (n : Nat) : (List.range (n + 1)).foldl g x = g ((List.range n).foldl g x) n := by
 rw [List.range_succ, List.foldl_append]; rfl
def PartsOk (c t : Int) (l : List RGE) : Prop := 0 ≤ c ∧ c ≤ 1000000000 ∧ 1 ≤ t ∧ t ≤ 1000000000 ∧ l.length ≤ 200 ∧ ∀ j, j < l.length → 0 ≤ (qq l j).f0 ∧ (qq l j).f0 ≤ (qq l j).f1 ∧ (qq l j).f1 ≤ t
theorem outR_iff (t : Int) (r : RGE) : outR t r = false ↔ 0 ≤ r.f0 ∧ r.f0 ≤ r.f1 ∧ r.f1 ≤ t := by
 simp only [outR, Bool.or_eq_false_iff, decide_eq_false_iff_not]
 omega
theorem parts_iff (c t : Int) (l : List RGE) : (c < 0 ∨ 1000000000 < c ∨ t < 1 ∨ 1000000000 < t ∨ 200 < l.length ∨ l.any (outR t) = true) ↔ ¬ PartsOk c t l := by
 have hany : l.any (outR t) = false ↔ ∀ j, j < l.length → 0 ≤ (qq l j).f0 ∧ (qq l j).f0 ≤ (qq l j).f1 ∧ (qq l j).f1 ≤ t := by
  rw [List.any_eq_false]
  constructor
  ·intro h j hj
   exact (outR_iff t _).1 (by have := h _ (qq_mem l j hj); simpa using this)
  ·intro h x hx
   obtain ⟨j, hj, rfl⟩ := List.mem_iff_getElem.1 hx
   have e : qq l j = l[j] := by simp [qq, rd_T38, List.getD_eq_getElem?_getD, hj]
   have := (outR_iff t (qq l j)).2 (h j hj)
   rw [e] at this
   simp [this]
 constructor
 ·rintro h ⟨h1, h2, h3, h4, h5, h6⟩
  rcases h with h | h | h | h | h | h
  ·omega
  ·omega
  ·omega
  ·omega
  ·omega
  ·rw [hany.2 h6] at h; cases h
 ·intro h
  by_cases a1 : c < 0
  ·exact .inl a1
  by_cases a2 : 1000000000 < c
  ·exact .inr (.inl a2)
  by_cases a3 : t < 1
  ·exact .inr (.inr (.inl a3))
  by_cases a4 : 1000000000 < t
  ·exact .inr (.inr (.inr (.inl a4)))
  by_cases a5 : 200 < l.length
  ·exact .inr (.inr (.inr (.inr (.inl a5))))
  refine .inr (.inr (.inr (.inr (.inr ?_))))
  cases hx : l.any (outR t) with
  | true => rfl
  | false => exact absurd ⟨by omega, by omega, by omega, by omega, by omega, hany.1 hx⟩ h
theorem boundsC_ok {c t : Int} {l : List RGE} (h : PartsOk c t l) : boundsC c t l = (l.map (chgR c t), 0) := by
 unfold boundsC
 rw [if_neg (fun hh => (parts_iff c t l).1 hh h)]
theorem boundsC_no {c t : Int} {l : List RGE} (h : ¬ PartsOk c t l) : boundsC c t l = ([], 1) := by
 unfold boundsC
 rw [if_pos ((parts_iff c t l).2 h)]
section
variable {c t : Int} {l : List RGE}
def bLo (c t : Int) (l : List RGE) (j : Nat) : Int := rightV c t (qq l j).f0
def bHi (c t : Int) (l : List RGE) (j : Nat) : Int := rightV c t (qq l j).f1
theorem b_bd (h : PartsOk c t l) (j : Nat) (hj : j < l.length) : 0 ≤ bLo c t l j ∧ bLo c t l j ≤ bHi c t l j ∧ bHi c t l j ≤ c := by
 obtain ⟨h1, h2, h3, h4, h5, h6⟩ := h
 have := h6 j hj
 exact ⟨(right_bd h1 h3 (by omega) (by omega)).1, right_mono h1 h3 (by omega), (right_bd h1 h3 (by omega) (by omega)).2⟩
theorem wrap_id' {n : Int} (h1 : -9223372036854775808 ≤ n) (h2 : n ≤ 9223372036854775807) : wrap64 n = n := by unfold wrap64; omega
structure Form (homes : List Int) (c t : Int) (l : List RGE) (j : Nat) (b : CH) : Prop where
 home : b.f0 = rd homes (j : Int)
 lo : b.f2.f0 = bLo c t l j
 hi : b.f2.f1 = bHi c t l j
 sure : b.f3 = (bLo c t l j == bHi c t l j)
 ge : bLo c t l j ≤ b.f1
 le : b.f1 ≤ bHi c t l j
theorem bill_form (homes : List Int) (h : PartsOk c t l) (j : Nat) (hj : j < l.length) : Form homes c t l j (billOf (rd homes (j : Int)) (qq (l.map (chgR c t)) j)) ∧ (billOf (rd homes (j : Int)) (qq (l.map (chgR c t)) j)).f1 = (bLo c t l j + bHi c t l j) / 2 := by
 have hb := b_bd h j hj
 have hc := h.2.1
 rw [qq_map _ _ _ hj]
 have e : (billOf (rd homes (j : Int)) (chgR c t (qq l j))).f1 = (bLo c t l j + bHi c t l j) / 2 := by
  show wrap64 (Int.tdiv (wrap64 (bLo c t l j + bHi c t l j)) 2) = _
  rw [wrap_id' (n := bLo c t l j + bHi c t l j) (by omega) (by omega), Int.tdiv_eq_ediv_of_nonneg (by omega), wrap_id' (by omega) (by omega)]
 refine ⟨⟨rfl, rfl, rfl, rfl, ?_, ?_⟩, e⟩
 ·rw [e]; omega
 ·rw [e]; omega
theorem bills_at (homes : List Int) (bs : List RGE) (n : Nat) : ∀ i, i ≤ n → ∀ j, j < n → cc (billsN homes bs n i) j = if j < i then billOf (rd homes (j : Int)) (qq bs j) else z40 := by
 intro i
 induction i with
 | zero =>
  intro _ j hj
  simp [billsN, cc, rd_T40, List.getD_eq_getElem?_getD, List.getElem?_replicate, hj]
 | succ i ih =>
  intro hi j hj
  have e : billsN homes bs n (i + 1) = (billsN homes bs n i).set i (billOf (rd homes (i : Int)) (qq bs i)) := foldl_rng _ _ _
  rw [e, cc_set _ _ _ _ (by rw [billsN_len]; omega)]
  by_cases h : i = j
  ·subst h; rw [if_pos rfl, if_pos (by omega)]
  ·rw [if_neg h, ih (by omega) j hj]
   by_cases h2 : j < i
   ·rw [if_pos h2, if_pos (by omega)]
   ·rw [if_neg h2, if_neg (by omega)]
theorem sum_at (h : PartsOk c t l) : ∀ i, i ≤ l.length → sumN (l.map (chgR c t)) i = sm (fun j => (bLo c t l j + bHi c t l j) / 2) (List.range i) ∧ 0 ≤ sumN (l.map (chgR c t)) i ∧ sumN (l.map (chgR c t)) i ≤ 1000000000 * i := by
 intro i
 induction i with
 | zero => intro _; exact ⟨rfl, Int.le_refl _, by simp [sumN]⟩
 | succ i ih =>
  intro hi
  obtain ⟨h1, h2, h3⟩ := ih (by omega)
  have hb := b_bd h i (by omega)
  have hc := h.2.1
  have hn := h.2.2.2.2.1
  have e : sumN (l.map (chgR c t)) (i + 1) = wrap64 (sumN (l.map (chgR c t)) i + (billOf 0 (qq (l.map (chgR c t)) i)).f1) := foldl_rng _ _ _
  have e2 : (billOf 0 (qq (l.map (chgR c t)) i)).f1 = (bLo c t l i + bHi c t l i) / 2 := (bill_form [] h i (by omega)).2
  rw [e, e2, wrap_id' (by omega) (by omega)]
  refine ⟨?_, by omega, by omega⟩
  rw [List.range_succ, sm_append, sm_cons, sm_nil, h1]
  omega
theorem least_at (h : PartsOk c t l) : ∀ i, i ≤ l.length → leastN l i = sm (fun j => (qq l j).f0) (List.range i) ∧ 0 ≤ leastN l i ∧ leastN l i ≤ 1000000000 * i := by
 intro i
 induction i with
 | zero => intro _; exact ⟨rfl, Int.le_refl _, by simp [leastN]⟩
 | succ i ih =>
  intro hi
  obtain ⟨h1, h2, h3⟩ := ih (by omega)
  have hb := h.2.2.2.2.2 i (by omega)
  have ht := h.2.2.2.1
  have hn := h.2.2.2.2.1
  have e : leastN l (i + 1) = wrap64 (leastN l i + (qq l i).f0) := foldl_rng _ _ _
  rw [e, wrap_id' (by omega) (by omega)]
  refine ⟨?_, by omega, by omega⟩
  rw [List.range_succ, sm_append, sm_cons, sm_nil, h1]
  omega
theorem sm_upd (f g : Nat → Int) (i : Nat) (d : Int) (hg : ∀ j, j ≠ i → g j = f j) (hi : g i = f i + d) : ∀ n, sm g (List.range n) = sm f (List.range n) + if i < n then d else 0 := by
 intro n
 induction n with
 | zero => simp [sm_nil]
 | succ n ih =>
  rw [List.range_succ, sm_append, sm_append, sm_cons, sm_cons, sm_nil, sm_nil, ih]
  by_cases e : n = i
  ·subst e
   rw [hi, if_neg (Nat.lt_irrefl _), if_pos (Nat.lt_succ_self _)]; omega
  ·rw [hg n e]
   by_cases h : i < n
   ·rw [if_pos h, if_pos (by omega)]; omega
   ·rw [if_neg h, if_neg (by omega)]; omega
structure LowAt (homes : List Int) (c t : Int) (l : List RGE) (k : Nat) (p : List CH × Int) : Prop where
 len : p.1.length = l.length
 form : ∀ j, j < l.length → Form homes c t l j (cc p.1 j)
 sum : p.2 = sm (fun j => (cc p.1 j).f1) (List.range l.length)
 bd : 0 ≤ p.2 ∧ p.2 ≤ 200000000000
 low : c < p.2 → ∀ j, j < l.length → l.length ≤ j + k → (cc p.1 j).f1 = bLo c t l j
 mid : c ≤ p.2 ∨ p.2 = sm (fun j => (bLo c t l j + bHi c t l j) / 2) (List.range l.length)
theorem low_start (homes : List Int) (h : PartsOk c t l) : LowAt homes c t l 0 (billsN homes (l.map (chgR c t)) l.length l.length, sumN (l.map (chgR c t)) l.length) := by
 have hs := sum_at h l.length (Nat.le_refl _)
 have hn := h.2.2.2.2.1
 have hat : ∀ j, j < l.length → cc (billsN homes (l.map (chgR c t)) l.length l.length) j = billOf (rd homes (j : Int)) (qq (l.map (chgR c t)) j) := fun j hj => by
  rw [bills_at homes _ _ _ (Nat.le_refl _) j hj, if_pos hj]
 refine ⟨billsN_len _ _ _ _, fun j hj => ?_, ?_, ⟨hs.2.1, by have := hs.2.2; show sumN _ _ ≤ _; omega⟩, fun _ j h1 h2 => by omega, .inr hs.1⟩
 ·show Form homes c t l j (cc (billsN homes (l.map (chgR c t)) l.length l.length) j)
  rw [hat j hj]
  exact (bill_form homes h j hj).1
 ·show sumN _ _ = _
  rw [hs.1]
  refine sm_congr (fun j hj => ?_)
  have hj' := List.mem_range.1 hj
  show _ = (cc (billsN homes (l.map (chgR c t)) l.length l.length) j).f1
  rw [hat j hj']
  exact (bill_form homes h j hj').2.symm
theorem mx_max' (a b : Int) : mx a b = max a b := by unfold mx; split <;> omega
theorem mn_min' (a b : Int) : mn a b = min a b := by unfold mn; split <;> omega
theorem sm_cents {homes : List Int} (h : PartsOk c t l) {bs : List CH} (hf : ∀ j, j < l.length → Form homes c t l j (cc bs j)) : 0 ≤ sm (fun j => (cc bs j).f1) (List.range l.length) ∧ sm (fun j => (cc bs j).f1) (List.range l.length) ≤ 200000000000 := by
 have hn := h.2.2.2.2.1
 have hc := h.2.1
 have := sm_bound (f := fun j => (cc bs j).f1) (ks := List.range l.length) (a := 0) (b := 1000000000) (fun j hj => by
  have hj' := List.mem_range.1 hj
  have h1 := hf j hj'
  have h2 := b_bd h j hj'
  have := h1.ge
  have := h1.le
  show 0 ≤ (cc bs j).f1 ∧ (cc bs j).f1 ≤ 1000000000
  omega)
 rw [List.length_range] at this
 omega
theorem low_step {homes : List Int} (h : PartsOk c t l) {k : Nat} (hk : k < l.length) {p : List CH × Int} (hp : LowAt homes c t l k p) :
  LowAt homes c t l (k + 1) (lowStep c p (l.length - 1 - k)) ∧ (lowBy (wrap64 (p.2 - c)) (cc p.1 (l.length - 1 - k)).f1 (cc p.1 (l.length - 1 - k)).f2.f0 = max 0 (min (p.2 - c) ((cc p.1 (l.length - 1 - k)).f1 - bLo c t l (l.length - 1 - k)))) ∧
   lowStep c p (l.length - 1 - k) = (p.1.set (l.length - 1 - k) ⟨(cc p.1 (l.length - 1 - k)).f0, (cc p.1 (l.length - 1 - k)).f1 - max 0 (min (p.2 - c) ((cc p.1 (l.length - 1 - k)).f1 - bLo c t l (l.length - 1 - k))), (cc p.1 (l.length - 1 - k)).f2, (cc p.1 (l.length - 1 - k)).f3⟩, p.2 - max 0 (min (p.2 - c) ((cc p.1 (l.length - 1 - k)).f1 - bLo c t l (l.length - 1 - k)))) := by
 obtain ⟨i, hi⟩ : ∃ i, i = l.length - 1 - k := ⟨_, rfl⟩
 rw [← hi]
 have hil : i < l.length := by omega
 have hf := hp.form i hil
 have hb := b_bd h i hil
 have hc0 := h.1
 have hc := h.2.1
 have hs := hp.bd
 have g1 := hf.ge
 have g2 := hf.le
 have e1 : lowBy (wrap64 (p.2 - c)) (cc p.1 i).f1 (cc p.1 i).f2.f0 = max 0 (min (p.2 - c) ((cc p.1 i).f1 - bLo c t l i)) := by
  unfold lowBy
  rw [mx_max', mn_min', hf.lo, wrap_id' (n := p.2 - c) (by omega) (by omega), wrap_id' (n := (cc p.1 i).f1 - bLo c t l i) (by omega) (by omega)]
 obtain ⟨d, hd⟩ : ∃ d, d = max 0 (min (p.2 - c) ((cc p.1 i).f1 - bLo c t l i)) := ⟨_, rfl⟩
 rw [← hd] at e1 ⊢
 have e2 : lowStep c p i = (p.1.set i ⟨(cc p.1 i).f0, (cc p.1 i).f1 - d, (cc p.1 i).f2, (cc p.1 i).f3⟩, p.2 - d) := by
  show (p.1.set i ⟨(cc p.1 i).f0, wrap64 ((cc p.1 i).f1 - lowBy (wrap64 (p.2 - c)) (cc p.1 i).f1 (cc p.1 i).f2.f0), (cc p.1 i).f2, (cc p.1 i).f3⟩, wrap64 (p.2 - lowBy (wrap64 (p.2 - c)) (cc p.1 i).f1 (cc p.1 i).f2.f0)) = _
  rw [e1, wrap_id' (n := (cc p.1 i).f1 - d) (by omega) (by omega), wrap_id' (n := p.2 - d) (by omega) (by omega)]
 refine ⟨?_, e1, e2⟩
 rw [e2]
 have hset : ∀ j, cc (p.1.set i ⟨(cc p.1 i).f0, (cc p.1 i).f1 - d, (cc p.1 i).f2, (cc p.1 i).f3⟩) j = if i = j then ⟨(cc p.1 i).f0, (cc p.1 i).f1 - d, (cc p.1 i).f2, (cc p.1 i).f3⟩ else cc p.1 j := fun j => cc_set _ _ _ _ (by rw [hp.len]; exact hil)
 have hform : ∀ j, j < l.length → Form homes c t l j (cc (p.1.set i ⟨(cc p.1 i).f0, (cc p.1 i).f1 - d, (cc p.1 i).f2, (cc p.1 i).f3⟩) j) := fun j hj => by
  rw [hset j]
  by_cases e : i = j
  ·subst e
   rw [if_pos rfl]
   exact ⟨hf.home, hf.lo, hf.hi, hf.sure, by show bLo c t l i ≤ (cc p.1 i).f1 - d; omega, by show (cc p.1 i).f1 - d ≤ bHi c t l i; omega⟩
  ·rw [if_neg e]; exact hp.form j hj
 have hsum : p.2 - d = sm (fun j => (cc (p.1.set i ⟨(cc p.1 i).f0, (cc p.1 i).f1 - d, (cc p.1 i).f2, (cc p.1 i).f3⟩) j).f1) (List.range l.length) := by
  rw [sm_upd (fun j => (cc p.1 j).f1) _ i (-d) (fun j hj => by show (cc _ j).f1 = _; rw [hset j, if_neg (fun e => hj e.symm)]) (by show (cc _ i).f1 = _; rw [hset i, if_pos rfl]; show (cc p.1 i).f1 - d = _; omega) l.length, if_pos hil, ← hp.sum]
  omega
 refine ⟨by show (p.1.set _ _).length = _; rw [List.length_set, hp.len], hform, hsum, ?_, ?_, ?_⟩
 ·show 0 ≤ p.2 - d ∧ p.2 - d ≤ _
  rw [hsum]
  exact sm_cents h hform
 ·intro hlt j hj hjk
  have hlt' : c < p.2 - d := hlt
  show (cc (p.1.set _ _) j).f1 = _
  rw [hset j]
  by_cases e : i = j
  ·subst e
   rw [if_pos rfl]
   show (cc p.1 i).f1 - d = _
   omega
  ·rw [if_neg e]
   exact hp.low (by omega) j hj (by omega)
 ·show c ≤ p.2 - d ∨ p.2 - d = _
  by_cases hlt : c < p.2
  ·exact .inl (by omega)
  ·have h0 : p.2 - d = p.2 := by omega
   rw [h0]
   exact hp.mid
theorem low_all (homes : List Int) (h : PartsOk c t l) : ∀ k, k ≤ l.length → LowAt homes c t l k (lowAll c (downTo l.length k) (billsN homes (l.map (chgR c t)) l.length l.length, sumN (l.map (chgR c t)) l.length)) := by
 intro k
 induction k with
 | zero => intro _; exact low_start homes h
 | succ k ih =>
  intro hk
  have h1 := ih (by omega)
  have e : ∀ q, lowAll c (downTo l.length (k + 1)) q = lowStep c (lowAll c (downTo l.length k) q) (l.length - 1 - k) := fun q => by
   unfold lowAll
   rw [downTo_succ, List.foldl_append]
   rfl
  rw [e]
  exact (low_step h (by omega) h1).1
theorem lows_sum (h : PartsOk c t l) : ∀ n, n ≤ l.length → 2 * t * sm (bLo c t l) (List.range n) ≤ 2 * (c * sm (fun j => (qq l j).f0) (List.range n)) + t * n := by
 intro n
 induction n with
 | zero => intro _; simp [sm_nil]
 | succ n ih =>
  intro hn
  have h1 := ih (by omega)
  have h2 := right_lo (c := c) (v := (qq l n).f0) h.2.2.1
  rw [List.range_succ, sm_append, sm_append, sm_cons, sm_cons, sm_nil, sm_nil, Int.add_zero, Int.add_zero, Int.mul_add, Int.mul_add, Int.natCast_add, Int.mul_add]
  have e : bLo c t l n = rightV c t (qq l n).f0 := rfl
  have e3 : t * ((n : Int) + ((1 : Nat) : Int)) = t * n + t := by rw [Int.mul_add]; simp
  rw [e, e3]
  omega
inductive ShareIs (c t : Int) (homes : List Int) (l : List RGE) : List CH × Int × Int → Prop
 | arg : ¬ (PartsOk c t l ∧ homes.length = l.length ∧ homesB 0 homes = true) → ShareIs c t homes l ([], 0, 1)
 | flow : PartsOk c t l → homes.length = l.length → homesB 0 homes = true → t < leastN l l.length → ShareIs c t homes l ([], 0, 30)
 | ok (p : List CH × Int) : PartsOk c t l → homes.length = l.length → homesB 0 homes = true → ¬ t < leastN l l.length → LowAt homes c t l l.length p →
   p = lowAll c (downTo l.length l.length) (billsN homes (l.map (chgR c t)) l.length l.length, sumN (l.map (chgR c t)) l.length) → ShareIs c t homes l (p.1, c - p.2, 0)
theorem shareC_is (c t : Int) (homes : List Int) (l : List RGE) : ShareIs c t homes l (shareC c t homes l) := by
 unfold shareC
 by_cases h : PartsOk c t l
 case neg =>
  rw [boundsC_no h, if_neg (by decide)]
  exact .arg (fun hh => h hh.1)
 rw [boundsC_ok h, if_pos rfl]
 by_cases hb : homes.length ≠ l.length ∨ homesB 0 homes = false
 ·rw [if_pos hb]
  refine .arg (fun hh => ?_)
  rcases hb with hb | hb
  ·exact hb hh.2.1
  ·rw [hh.2.2] at hb; cases hb
 rw [if_neg hb]
 have h1 : homes.length = l.length := Classical.byContradiction fun hn => hb (.inl hn)
 have h2 : homesB 0 homes = true := by
  cases hx : homesB 0 homes with
  | true => rfl
  | false => exact absurd (.inr hx) hb
 by_cases hl : t < leastN l l.length
 ·rw [if_pos hl]
  exact .flow h h1 h2 hl
 rw [if_neg hl]
 have hL := low_all homes h l.length (Nat.le_refl _)
 obtain ⟨p, hp⟩ : ∃ p, p = lowAll c (downTo l.length l.length) (billsN homes (l.map (chgR c t)) l.length l.length, sumN (l.map (chgR c t)) l.length) := ⟨_, rfl⟩
 show ShareIs c t homes l ((lowAll c (downTo l.length l.length) (billsN homes (l.map (chgR c t)) l.length l.length, sumN (l.map (chgR c t)) l.length)).1, wrap64 (c - (lowAll c (downTo l.length l.length) (billsN homes (l.map (chgR c t)) l.length l.length, sumN (l.map (chgR c t)) l.length)).2), 0)
 rw [← hp] at hL ⊢
 have hbd := hL.bd
 have hc := h.1
 have hc1 := h.2.1
 rw [wrap_id' (by omega) (by omega)]
 exact .ok p h h1 h2 hl hL hp
theorem house_ge {homes : List Int} (h : PartsOk c t l) (hl : ¬ t < leastN l l.length) {p : List CH × Int} (hp : LowAt homes c t l l.length p) : -2 * (c - p.2) ≤ (l.length : Int) := by
 by_cases hlt : c < p.2
 case neg => omega
 have hlow := hp.low hlt
 have hs : p.2 = sm (bLo c t l) (List.range l.length) := by
  rw [hp.sum]
  exact sm_congr (fun j hj => hlow j (List.mem_range.1 hj) (by omega))
 have h1 := lows_sum h l.length (Nat.le_refl _)
 have h2 := (least_at h l.length (Nat.le_refl _)).1
 have ht := h.2.2.1
 have h3 : c * sm (fun j => (qq l j).f0) (List.range l.length) ≤ c * t := Int.mul_le_mul_of_nonneg_left (by rw [← h2]; omega) h.1
 have h4 : t * (2 * p.2) ≤ t * (2 * c + l.length) := by
  rw [Int.mul_add, ← Int.mul_assoc, Int.mul_comm t 2, hs, ← Int.mul_assoc t 2 c, Int.mul_comm t 2, Int.mul_assoc 2 t c, Int.mul_comm t c]
  omega
 have := Int.le_of_mul_le_mul_left h4 (by omega)
 omega
end
end Go.Proofs.Ythjjabcbngffoaa.P
end
section
namespace Go.Proofs.Ythjjabcbngffoaa.P
open Go.RowKit Go.Proofs.YthjjabcbngffoaaW.PrintWords Go.Proofs.YthjjabcbngffoaaW.PrintLast Go.Proofs.YthjjabcbngffoaaW.PrintMore
attribute [local go_sem] max2_int min2_int max_two min_two max_three min_three max_four min_four
set_option linter.unusedVariables false
set_option linter.unusedSimpArgs false
set_option maxHeartbeats 8000000
set_option maxRecDepth 100000
section
attribute [local go_sem high] eqA38
def cohousingref28_Same.l0 : Nat → List (S38) → List (S38) → Int → Option (Bool)
 | 0, _, _, _ => none
 | k + 1, x0, x1, x5 => if x5 < (x0.length : Int) then (if 0 ≤ x5 then (if x5 < (x1.length : Int) then (if (!(((rd_T38 x0 x5).f0) == ((rd_T38 x1 x5).f0)) || (!(((rd_T38 x0 x5).f1) == ((rd_T38 x1 x5).f1)))) = true then (some false) else (cohousingref28_Same.l0 k x0 x1 (wrap64 (x5 + 1)))) else (none)) else (none)) else (some true)
def cohousingref28_Same.f (k : Nat) (l0 : List (S38)) (l1 : List (S38)) : Option (Bool) := if (l0.length : Int) = (l1.length : Int) then (cohousingref28_Same.l0 k l0 l1 0) else (some false)
end
section
def cohousingref28_empty.l0 : Nat → List (S38) → Int → Option (Bool)
 | 0, _, _ => none
 | k + 1, x0, x3 => if x3 < (x0.length : Int) then (if 0 ≤ x3 then (if ((rd_T38 x0 x3).f0) > ((rd_T38 x0 x3).f1) then (some true) else (cohousingref28_empty.l0 k x0 (wrap64 (x3 + 1)))) else (none)) else (some false)
def cohousingref28_empty.f (k : Nat) (l0 : List (S38)) : Option (Bool) := cohousingref28_empty.l0 k l0 0
end
section
def cohousingref28_narrow.f (a0_0 : Int) (a0_1 : Int) (a1 : Int) (a2 : Int) : Option (Int × Int) := some (mx a0_0 a1, mn a0_1 a2)
end
section
mutual
def cohousingref28_equation.l0 : Nat → List (S63) → List (S38) → Int → List Int → Int → Int → Int → Option ((List (S38)))
 | 0, _, _, _, _, _, _, _ => none
 | k + 1, x0, x1, x2, x3, x9, x10, x11 => if x11 < (x3.length : Int) then (if 0 ≤ x11 then (if 0 ≤ (rd x3 x11) then (if (rd x3 x11) < (x1.length : Int) then (cohousingref28_equation.l0 k x0 x1 x2 x3 (wrap64 (x9 + ((rd_T38 x1 (rd x3 x11)).f0))) (wrap64 (x10 + ((rd_T38 x1 (rd x3 x11)).f1))) (wrap64 (x11 + 1))) else (none)) else (none)) else (none)) else (if 0 ≤ x2 then (if x2 < (x1.length : Int) then (if x2 < (x0.length : Int) then ((cohousingref28_narrow.f ((rd_T38 x1 x2).f0) ((rd_T38 x1 x2).f1) x9 (wrap64 (x10 + ((rd_T63 x0 x2).f2)))).bind fun bt290 => (cohousingref28_equation.l1 k x0 x1 x2 x9 x10 ([] : List (S38)) 0 bt290.1 bt290.2)) else (none)) else (none)) else (none))
def cohousingref28_equation.l1 : Nat → List (S63) → List (S38) → Int → Int → Int → List (S38) → Int → Int → Int → Option ((List (S38)))
 | 0, _, _, _, _, _, _, _, _, _ => none
 | k + 1, x0, x1, x2, x9, x10, x13, x14, x293000, x293001 => if x14 < (x1.length : Int) then (if 0 ≤ x14 then (if x14 = x2 then (if x14 > x2 then (if x14 < (x0.length : Int) then (if 0 ≤ x2 then (if x2 < (x0.length : Int) then (if ((rd_T63 x0 x14).f1) = ((rd_T63 x0 x2).f0) then ((cohousingref28_narrow.f x293000 x293001 (wrap64 ((wrap64 (x293000 - ((rd_T63 x0 x2).f2))) - (wrap64 (x10 - x293001)))) (wrap64 (x293001 - (wrap64 (x9 - x293000))))).bind fun bt298 => (if x13.length < 8796093022208 then (cohousingref28_equation.l1 k x0 x1 x2 x9 x10 (x13 ++ [(⟨bt298.1, bt298.2⟩ : S38)]) (wrap64 (x14 + 1)) x293000 x293001) else (none))) else (if x13.length < 8796093022208 then (cohousingref28_equation.l1 k x0 x1 x2 x9 x10 (x13 ++ [(⟨x293000, x293001⟩ : S38)]) (wrap64 (x14 + 1)) x293000 x293001) else (none))) else (none)) else (none)) else (none)) else (if x13.length < 8796093022208 then (cohousingref28_equation.l1 k x0 x1 x2 x9 x10 (x13 ++ [(⟨x293000, x293001⟩ : S38)]) (wrap64 (x14 + 1)) x293000 x293001) else (none))) else (if x14 > x2 then (if x14 < (x0.length : Int) then (if 0 ≤ x2 then (if x2 < (x0.length : Int) then (if ((rd_T63 x0 x14).f1) = ((rd_T63 x0 x2).f0) then ((cohousingref28_narrow.f ((rd_T38 x1 x14).f0) ((rd_T38 x1 x14).f1) (wrap64 ((wrap64 (x293000 - ((rd_T63 x0 x2).f2))) - (wrap64 (x10 - ((rd_T38 x1 x14).f1))))) (wrap64 (x293001 - (wrap64 (x9 - ((rd_T38 x1 x14).f0)))))).bind fun bt312 => (if x13.length < 8796093022208 then (cohousingref28_equation.l1 k x0 x1 x2 x9 x10 (x13 ++ [(⟨bt312.1, bt312.2⟩ : S38)]) (wrap64 (x14 + 1)) x293000 x293001) else (none))) else (if x13.length < 8796093022208 then (cohousingref28_equation.l1 k x0 x1 x2 x9 x10 (x13 ++ [(⟨(rd_T38 x1 x14).f0, (rd_T38 x1 x14).f1⟩ : S38)]) (wrap64 (x14 + 1)) x293000 x293001) else (none))) else (none)) else (none)) else (none)) else (if x13.length < 8796093022208 then (cohousingref28_equation.l1 k x0 x1 x2 x9 x10 (x13 ++ [(⟨(rd_T38 x1 x14).f0, (rd_T38 x1 x14).f1⟩ : S38)]) (wrap64 (x14 + 1)) x293000 x293001) else (none)))) else (none)) else (some x13)
end
def cohousingref28_equation.f (k : Nat) (l0 : List (S63)) (l1 : List (S38)) (a2 : Int) (l3 : List Int) : Option ((List (S38))) := cohousingref28_equation.l0 k l0 l1 a2 l3 0 0 0
end
section
def cohousingref28_once.l0 : Nat → List (S63) → List (S38) → Int → Option ((List (S38)))
 | 0, _, _, _ => none
 | k + 1, x0, x1, x5 => if x5 ≥ 0 then ((cohousingref28_below.f k x0 x5).bind fun t323 => (if (t323.length : Int) > 0 then ((cohousingref28_empty.f k x1).bind fun t326 => (if t326 = true then (cohousingref28_once.l0 k x0 x1 (wrap64 (x5 - 1))) else ((cohousingref28_equation.f k x0 x1 x5 t323).bind fun t327 => (cohousingref28_once.l0 k x0 t327 (wrap64 (x5 - 1)))))) else (cohousingref28_once.l0 k x0 x1 (wrap64 (x5 - 1))))) else (some x1)
def cohousingref28_once.f (k : Nat) (l0 : List (S63)) (l1 : List (S38)) : Option ((List (S38))) := cohousingref28_once.l0 k l0 l1 (wrap64 ((l0.length : Int) - 1))
end
section
def cohousingref28_bounds.l0 : Nat → List (S63) → List (S38) → Option ((List (S38)) × Bool)
 | 0, _, _ => none
 | k + 1, x0, x1 => (cohousingref28_once.f k x0 x1).bind fun t330 => ((cohousingref28_empty.f k t330).bind fun t333 => (if t333 = true then (some (([] : List (S38)), false)) else ((cohousingref28_Same.f k t330 x1).bind fun t334 => (if t334 = true then (some (t330, true)) else (cohousingref28_bounds.l0 k x0 t330)))))
def cohousingref28_bounds.f (k : Nat) (l0 : List (S63)) (l1 : List (S38)) : Option ((List (S38)) × Bool) := cohousingref28_bounds.l0 k l0 l1
end
end Go.Proofs.Ythjjabcbngffoaa.P
end
section
namespace Go.Proofs.Ythjjabcbngffoaa.P
open Go.RowKit Go.Proofs.YthjjabcbngffoaaW.PrintWords Go.Proofs.YthjjabcbngffoaaW.PrintLast Go.Proofs.YthjjabcbngffoaaW.PrintMore Go.Proofs.YthjjabcbngffoaaH Go.Proofs.FlowTree
abbrev idP (l : List S63) (i : Nat) : Int := (rd_T63 l i).f0
abbrev abP (l : List S63) (i : Nat) : Int := (rd_T63 l i).f1
abbrev loP (l : List S63) (i : Nat) : Int := (rd_T63 l i).f2
def okP (l : List S63) (i : Nat) : Prop := 1 ≤ idP l i ∧ (0 < i → idP l (i - 1) < idP l i) ∧ (0 ≤ loP l i ∧ loP l i ≤ 1000000000) ∧ (abP l i ≠ 0 → ∃ j, j < i ∧ idP l j = abP l i)
def kidsAt (l : List S63) (m i : Nat) : List Nat := (List.range m).filter (fun k => decide (i < k) && decide (abP l k = idP l i))
def netT (l : List S63) : Net := { n := l.length, kid := kidsAt l l.length, loss := loP l }
theorem kidsAt_mem {l : List S63} {m i k : Nat} : k ∈ kidsAt l m i ↔ k < m ∧ i < k ∧ abP l k = idP l i := by
 simp [kidsAt]
theorem kidsAt_succ (l : List S63) (m i : Nat) : kidsAt l (m + 1) i = kidsAt l m i ++ (if i < m ∧ abP l m = idP l i then [m] else []) := by
 unfold kidsAt
 rw [List.range_succ, List.filter_append]
 congr 1
 by_cases h : i < m ∧ abP l m = idP l i
 ·rw [if_pos h, List.filter_cons_of_pos (by simp [h])]; rfl
 ·rw [if_neg h, List.filter_cons_of_neg (by simpa using h)]; rfl
theorem asc_of {l : List S63} {m : Nat} (h : ∀ i, i < m → okP l i) : ∀ d i j, j = i + d + 1 → j < m → idP l i < idP l j := by
 intro d
 induction d with
 | zero =>
  intro i j e hj
  have := (h j hj).2.1 (by omega)
  rwa [show j - 1 = i by omega] at this
 | succ d ih =>
  intro i j e hj
  have h1 := ih i (j - 1) (by omega) (by omega)
  have h2 := (h j hj).2.1 (by omega)
  omega
theorem asc {l : List S63} {m : Nat} (h : ∀ i, i < m → okP l i) {i j : Nat} (hij : i < j) (hj : j < m) : idP l i < idP l j := asc_of h (j - i - 1) i j (by omega) hj
theorem id_inj {l : List S63} {m : Nat} (h : ∀ i, i < m → okP l i) {i j : Nat} (hi : i < m) (hj : j < m) (e : idP l i = idP l j) : i = j := by
 rcases Nat.lt_trichotomy i j with h1 | h1 | h1
 ·have := asc h h1 hj; omega
 ·exact h1
 ·have := asc h h1 hi; omega
theorem isVol_iff (n : Int) : isVol n = true ↔ 0 ≤ n ∧ n ≤ 1000000000 := by simp [isVol]
structure OpenAt (l : List S63) (m : Nat) (kids : List (List Int)) (at_ : Int → Option Int) : Prop where
 len : kids.length = l.length
 kid : ∀ j, j < l.length → rdK kids j = (kidsAt l m j).map Int.ofNat
 has : ∀ id j, at_ id = some j → ∃ n : Nat, j = n ∧ n < m ∧ idP l n = id
 all : ∀ n, n < m → at_ (idP l n) = some (n : Int)
theorem rdK_set (kids : List (List Int)) (i j : Nat) (x : List Int) (hi : i < kids.length) : rdK (kids.set i x) j = if i = j then x else rdK kids j := by
 simp only [rdK, List.getD_eq_getElem?_getD, Int.toNat_natCast, List.getElem?_set]
 by_cases h : i = j
 ·subst h; simp [hi]
 ·simp [h]
theorem bad_iff (l : List S63) (m : Nat) (kids : List (List Int)) (at_ : Int → Option Int) (h : OpenAt l m kids at_) : badP l m (at_ (abP l m)).isSome = false ↔ okP l m := by
 have hasiff : (at_ (abP l m)).isSome = true ↔ ∃ j, j < m ∧ idP l j = abP l m := by
  constructor
  ·intro hs
   obtain ⟨j, hj⟩ := Option.isSome_iff_exists.1 hs
   obtain ⟨n, _, hn, e⟩ := h.has _ _ hj
   exact ⟨n, hn, e⟩
  ·rintro ⟨j, hj, e⟩
   rw [← e, h.all j hj]
   rfl
 have hm1 : (0 : Int) < (m : Int) → ((m : Int) - 1) = ((m - 1 : Nat) : Int) := by omega
 unfold badP okP
 simp only [idP, loP, abP] at *
 constructor
 ·intro hb
  simp only [Bool.or_eq_false_iff, Bool.and_eq_false_iff, decide_eq_false_iff_not, Bool.not_eq_false', isVol_iff, bne_eq_false_iff_eq, Bool.not_eq_false'] at hb
  obtain ⟨⟨⟨h1, h2⟩, h3⟩, h4⟩ := hb
  refine ⟨by omega, fun hm => ?_, h3, fun ha => ?_⟩
  ·rcases h2 with h2 | h2
   ·omega
   ·rw [hm1 (by omega)] at h2; omega
  ·rcases h4 with h4 | h4
   ·exact absurd h4 ha
   ·exact hasiff.1 h4
 ·rintro ⟨h1, h2, h3, h4⟩
  simp only [Bool.or_eq_false_iff, Bool.and_eq_false_iff, decide_eq_false_iff_not, Bool.not_eq_false', isVol_iff, bne_eq_false_iff_eq, Bool.not_eq_false']
  refine ⟨⟨⟨by omega, ?_⟩, h3⟩, ?_⟩
  ·by_cases hm : 0 < m
   ·refine .inr ?_
    rw [hm1 (by omega)]
    have := h2 hm
    omega
   ·exact .inl (by omega)
  ·by_cases ha : abP l m = 0
   ·exact .inl ha
   ·exact .inr (hasiff.2 (h4 ha))
theorem open_step (l : List S63) (m : Nat) (hm : m < l.length) (kids : List (List Int)) (at_ : Int → Option Int) (h : OpenAt l m kids at_) (hok : ∀ i, i < m + 1 → okP l i) :
  OpenAt l (m + 1) (addKid kids (at_ (abP l m)) m) (setI at_ (idP l m) m) := by
 refine ⟨(addKid_len _ _ _).trans h.len, fun j hj => ?_, fun id j hj => ?_, fun n hn => ?_⟩
 ·rw [kidsAt_succ, List.map_append]
  cases ha : at_ (abP l m) with
  | none =>
   have hno : ¬ (j < m ∧ abP l m = idP l j) := by
    rintro ⟨h1, h2⟩
    rw [h2, h.all j h1] at ha
    cases ha
   rw [if_neg hno]
   simp only [addKid, List.map_nil, List.append_nil]
   exact h.kid j hj
  | some a =>
   obtain ⟨n, rfl, hn, hid⟩ := h.has _ _ ha
   have hnl : n < kids.length := by rw [h.len]; omega
   simp only [addKid]
   rw [Int.toNat_natCast, rdK_set _ _ _ _ hnl]
   by_cases e : n = j
   ·subst e
    rw [if_pos rfl, if_pos ⟨hn, hid.symm⟩, h.kid n hj]
    rfl
   ·rw [if_neg e, if_neg (fun hh => e (id_inj hok (by omega) (by omega) (hid.trans hh.2))), h.kid j hj]
    simp
 ·unfold setI at hj
  split at hj
  ·rename_i e
   injection hj with hj
   exact ⟨m, hj.symm, by omega, e.symm⟩
  ·obtain ⟨n, e, hn, hid⟩ := h.has _ _ hj
   exact ⟨n, e, by omega, hid⟩
 ·unfold setI
  by_cases e : n = m
  ·subst e; rw [if_pos rfl]
  ·rw [if_neg (fun hh => e (id_inj hok (by omega) (by omega) hh)), h.all n (by omega)]
theorem openL_spec (l : List S63) : ∀ (k m : Nat) (kids : List (List Int)) (at_ : Int → Option Int), m + k = l.length → OpenAt l m kids at_ → (∀ i, i < m → okP l i) →
  (∀ r, openL l k kids at_ m = some r → (∀ i, i < l.length → okP l i) ∧ r.length = l.length ∧ ∀ j, j < l.length → rdK r j = (kidsAt l l.length j).map Int.ofNat) ∧ ((∀ i, i < l.length → okP l i) → ∃ r, openL l k kids at_ m = some r) := by
 intro k
 induction k with
 | zero =>
  intro m kids at_ hm h hok
  have e : m = l.length := by omega
  subst e
  refine ⟨fun r hr => ?_, fun _ => ⟨kids, rfl⟩⟩
  simp only [openL, Option.some.injEq] at hr
  subst hr
  exact ⟨hok, h.len, h.kid⟩
 | succ k ih =>
  intro m kids at_ hm h hok
  have hb := bad_iff l m kids at_ h
  simp only [openL]
  cases hbad : badP l m (at_ (abP l m)).isSome with
  | true =>
   have hno : ¬ okP l m := fun ho => by rw [hb.2 ho] at hbad; cases hbad
   rw [if_pos rfl]
   exact ⟨(fun r hr => by cases hr), fun ho => absurd (ho m (by omega)) hno⟩
  | false =>
   have hyes := hb.1 hbad
   rw [if_neg (by decide)]
   have hok' : ∀ i, i < m + 1 → okP l i := fun i hi => by
    by_cases h' : i < m
    ·exact hok i h'
    ·rw [show i = m by omega]; exact hyes
   have := ih (m + 1) (addKid kids (at_ (abP l m)) m) (setI at_ (idP l m) m) (by omega) (open_step l m (by omega) kids at_ h hok') hok'
   rw [show ((m + 1 : Nat) : Int) = (m : Int) + 1 from by omega] at this
   exact this
theorem openAt0 (l : List S63) : OpenAt l 0 (List.replicate l.length []) (fun _ => none) := by
 refine ⟨by simp, fun j hj => ?_, (fun id j hj => by cases hj), fun n hn => absurd hn (Nat.not_lt_zero _)⟩
 simp [rdK, kidsAt, List.getD_eq_getElem?_getD, hj]
def okL (l : List S63) : Prop := ∀ i, i < l.length → okP l i
theorem openK_some {l : List S63} {kids : List (List Int)} (h : openK l = some kids) : okL l ∧ ∀ j, j < l.length → rdK kids j = (kidsAt l l.length j).map Int.ofNat := by
 have := (openL_spec l l.length 0 _ _ (by omega) (openAt0 l) (fun i hi => absurd hi (Nat.not_lt_zero _))).1 kids h
 exact ⟨this.1, this.2.2⟩
theorem openK_of {l : List S63} (h : okL l) : ∃ kids, openK l = some kids :=
 (openL_spec l l.length 0 _ _ (by omega) (openAt0 l) (fun i hi => absurd hi (Nat.not_lt_zero _))).2 h
theorem netT_ok {l : List S63} (h : okL l) : (netT l).Ok := by
 refine ⟨fun i k hk => ?_, fun i => ?_, fun i j k hi hj => ?_, fun i hi => (h i hi).2.2.1.1⟩
 ·have := kidsAt_mem.1 hk; exact ⟨this.2.1, this.1⟩
 ·exact List.Nodup.sublist List.filter_sublist List.nodup_range
 ·have h1 := kidsAt_mem.1 hi
  have h2 := kidsAt_mem.1 hj
  exact id_inj h (show i < l.length by omega) (show j < l.length by omega) (h1.2.2.symm.trans h2.2.2)
end Go.Proofs.Ythjjabcbngffoaa.P
end
section
namespace Go.Proofs.Ythjjabcbngffoaa.P
open Go.RowKit Go.Proofs.YthjjabcbngffoaaW.PrintWords Go.Proofs.YthjjabcbngffoaaW.PrintLast Go.Proofs.YthjjabcbngffoaaW.PrintMore Go.Proofs.YthjjabcbngffoaaH Go.Proofs.FlowTree
abbrev IV := S85
abbrev PI := S63
abbrev rv (r : List IV) (i : Nat) : IV := rd_T85 r i
def Lo (r : List IV) (i : Nat) : Int := (rv r i).f0
def Hi (r : List IV) (i : Nat) : Int := (rv r i).f1
def Vol (n : Nat) (lo hi : Nat → Int) : Prop := ∀ i, i < n → 0 ≤ lo i ∧ lo i ≤ hi i ∧ hi i ≤ 1000000000
theorem rv_set (r : List IV) (i j : Nat) (y : IV) (hi : i < r.length) : rv (r.set i y) j = if i = j then y else rv r j := by
 simp only [rv, rd_T85, List.getD_eq_getElem?_getD, Int.toNat_natCast, List.getElem?_set]
 by_cases h : i = j
 ·subst h; simp [hi]
 ·simp [h]
theorem wrap_id {n : Int} (h1 : -9223372036854775808 ≤ n) (h2 : n ≤ 9223372036854775807) : wrap64 n = n := by unfold wrap64; omega
theorem total_fold (φ : IV → Int) (xs : List IV) : ∀ s : Int, 0 ≤ s → s + 1000000000 * xs.length ≤ 1000000000000 → (∀ x ∈ xs, 0 ≤ φ x ∧ φ x ≤ 1000000000) → xs.foldl (fun s x => wrap64 (s + φ x)) s = (xs.map φ).foldl (· + ·) s := by
 induction xs with
 | nil => intro s _ _ _; rfl
 | cons x xs ih =>
  intro s h0 h1 h
  have hx := h x (by simp)
  simp only [List.length_cons, Int.natCast_add, Int.natCast_one, Int.mul_add, Int.mul_one] at h1
  have hl : (0 : Int) ≤ 1000000000 * xs.length := by omega
  rw [List.foldl_cons, List.map_cons, List.foldl_cons, wrap_id (by omega) (by omega)]
  exact ih (s + φ x) (by omega) (by omega) (fun y hy => h y (List.mem_cons_of_mem _ hy))
theorem total_eq (φ : IV → Int) (r : List IV) (ks : List Nat) (hl : ks.length ≤ 200) (h : ∀ k ∈ ks, 0 ≤ φ (rv r k) ∧ φ (rv r k) ≤ 1000000000) : totalF φ (ks.map (fun k => rv r k)) = sm (fun k => φ (rv r k)) ks := by
 unfold totalF sm
 rw [total_fold φ _ 0 (Int.le_refl _) (by rw [List.length_map]; omega) (by
  intro x hx
  obtain ⟨k, hk, rfl⟩ := List.mem_map.1 hx
  exact h k hk), List.map_map]
 rfl
theorem kids_len (l : List PI) (i : Nat) : (kidsAt l l.length i).length ≤ l.length := by
 unfold kidsAt
 exact Nat.le_trans (List.length_filter_le _ _) (by simp)
section
variable {l : List PI} {kids : List (List Int)}
theorem below_eq (hk : ∀ j, j < l.length → rdK kids j = (kidsAt l l.length j).map Int.ofNat) (r : List IV) (i : Nat) (hi : i < l.length) : belowI kids r i = (kidsAt l l.length i).map (fun k => rv r k) := by
 unfold belowI
 rw [hk i hi, List.map_map]
 rfl
theorem cutI_f0 (x : IV) (a b : Int) : (cutI x a b).f0 = max x.f0 a := by simp only [cutI, mx]; split <;> omega
theorem cutI_f1 (x : IV) (a b : Int) : (cutI x a b).f1 = min x.f1 b := by simp only [cutI, mn]; split <;> omega
structure UpAt (l : List PI) (r : List IV) (m : Nat) (u : List IV) : Prop where
 len : u.length = l.length
 old : ∀ j, j < m → rv u j = rv r j
 now : (∃ j, m ≤ j ∧ j < l.length ∧ Hi u j < Lo u j) ∧ (¬ ∃ x, Sol (netT l) (Lo r) (Hi r) x) ∨
  (∀ j, m ≤ j → j < l.length → (0 ≤ Lo u j ∧ Lo u j ≤ Hi u j ∧ Hi u j ≤ 1000000000 ∧ Lo r j ≤ Lo u j ∧ Hi u j ≤ Hi r j) ∧ (kidsAt l l.length j ≠ [] → sm (Lo u) (kidsAt l l.length j) ≤ Lo u j ∧ Hi u j ≤ sm (Hi u) (kidsAt l l.length j) + loP l j)) ∧
  (∀ x, Sol (netT l) (Lo r) (Hi r) x → ∀ j, m ≤ j → j < l.length → Lo u j ≤ x j ∧ x j ≤ Hi u j)
theorem up_step (hok : okL l) (hn : l.length ≤ 200) (hk : ∀ j, j < l.length → rdK kids j = (kidsAt l l.length j).map Int.ofNat) {r u : List IV} (hv : Vol l.length (Lo r) (Hi r)) {i : Nat} (hi : i < l.length) (h : UpAt l r (i + 1) u) :
  UpAt l r i (upStep l kids u i) := by
 have hil : i < u.length := by rw [h.len]; exact hi
 have hlo : (rd_T63 l i).f2 = loP l i := rfl
 unfold upStep
 rw [below_eq hk u i hi, List.length_map, hlo]
 by_cases hne : kidsAt l l.length i = []
 ·rw [hne]
  simp only [List.length_nil, Nat.lt_irrefl, if_false]
  refine ⟨h.len, fun j hj => h.old j (by omega), ?_⟩
  have e : rv u i = rv r i := h.old i (by omega)
  rcases h.now with ⟨⟨j, h1, h2, h3⟩, hs⟩ | ⟨ha, hs⟩
  ·exact .inl ⟨⟨j, by omega, h2, h3⟩, hs⟩
  ·refine .inr ⟨fun j h1 h2 => ?_, fun x hx j h1 h2 => ?_⟩
   ·by_cases hj : i + 1 ≤ j
    ·exact ha j hj h2
    ·have e2 : j = i := by omega
     subst e2
     have h4 := hv j h2
     refine ⟨?_, fun hc => absurd hne hc⟩
     simp only [Lo, Hi, e] at *
     omega
   ·by_cases hj : i + 1 ≤ j
    ·exact hs x hx j hj h2
    ·have e2 : j = i := by omega
     subst e2
     have h4 := hx.1 j h2
     simp only [Lo, Hi, e] at *
     exact h4
 ·have hpos : 0 < (kidsAt l l.length i).length := List.length_pos_iff.2 hne
  rw [if_pos hpos, Int.toNat_natCast]
  have hset : ∀ y j, rv (u.set i y) j = if i = j then y else rv u j := fun y j => rv_set u i j y hil
  have hkid : ∀ k ∈ kidsAt l l.length i, i + 1 ≤ k ∧ k < l.length := fun k hk' => by have := kidsAt_mem.1 hk'; exact ⟨by omega, by omega⟩
  rcases h.now with ⟨⟨j, h1, h2, h3⟩, hs⟩ | ⟨ha, hs⟩
  ·refine ⟨by rw [List.length_set]; exact h.len, fun j hj => by rw [hset, if_neg (by omega)]; exact h.old j (by omega), .inl ⟨⟨j, by omega, h2, ?_⟩, hs⟩⟩
   simp only [Lo, Hi, hset, if_neg (show ¬ i = j by omega)] at *
   exact h3
  ·have hL : totalF S85.f0 ((kidsAt l l.length i).map (fun k => rv u k)) = sm (Lo u) (kidsAt l l.length i) := by
    rw [total_eq _ _ _ (Nat.le_trans (kids_len l i) hn) (fun k hk' => by have := (ha k (hkid k hk').1 (hkid k hk').2).1; simp only [Lo, Hi] at this; omega)]
    rfl
   have hH : totalF S85.f1 ((kidsAt l l.length i).map (fun k => rv u k)) = sm (Hi u) (kidsAt l l.length i) := by
    rw [total_eq _ _ _ (Nat.le_trans (kids_len l i) hn) (fun k hk' => by have := (ha k (hkid k hk').1 (hkid k hk').2).1; simp only [Lo, Hi] at this; omega)]
    rfl
   have bH := sm_bound (f := Hi u) (ks := kidsAt l l.length i) (a := 0) (b := 1000000000) (fun k hk' => by have := (ha k (hkid k hk').1 (hkid k hk').2).1; omega)
   have bL := sm_bound (f := Lo u) (ks := kidsAt l l.length i) (a := 0) (b := 1000000000) (fun k hk' => by have := (ha k (hkid k hk').1 (hkid k hk').2).1; omega)
   have bl := kids_len l i
   have bo := (hok i hi).2.2.1
   rw [hL, hH, wrap_id (by omega) (by omega)]
   obtain ⟨y, hy⟩ : ∃ y, y = cutI (rd_T85 u i) (sm (Lo u) (kidsAt l l.length i)) (sm (Hi u) (kidsAt l l.length i) + loP l i) := ⟨_, rfl⟩
   rw [← hy]
   have hy0 : y.f0 = max (Lo u i) (sm (Lo u) (kidsAt l l.length i)) := by rw [hy, cutI_f0]; rfl
   have hy1 : y.f1 = min (Hi u i) (sm (Hi u) (kidsAt l l.length i) + loP l i) := by rw [hy, cutI_f1]; rfl
   have er : rv u i = rv r i := h.old i (by omega)
   have hri := hv i hi
   have hrl : Lo u i = Lo r i := by simp only [Lo, er]
   have hrh : Hi u i = Hi r i := by simp only [Hi, er]
   have hsol : ∀ x, Sol (netT l) (Lo r) (Hi r) x → y.f0 ≤ x i ∧ x i ≤ y.f1 := by
    intro x hx
    have h1 := hx.1 i hi
    have h2 := hx.2 i hi hne
    have h3 : sm (Lo u) (kidsAt l l.length i) ≤ sm x (kidsAt l l.length i) := sm_le (fun k hk' => (hs x hx k (hkid k hk').1 (hkid k hk').2).1)
    have h4 : sm x (kidsAt l l.length i) ≤ sm (Hi u) (kidsAt l l.length i) := sm_le (fun k hk' => (hs x hx k (hkid k hk').1 (hkid k hk').2).2)
    simp only [netT] at h2
    omega
   have old' : ∀ j, j < i → rv (u.set i y) j = rv r j := fun j hj => by rw [hset, if_neg (by omega)]; exact h.old j (by omega)
   have hne' : ∀ j, i ≠ j → Lo (u.set i y) j = Lo u j ∧ Hi (u.set i y) j = Hi u j := fun j hj => ⟨by simp only [Lo, hset, if_neg hj], by simp only [Hi, hset, if_neg hj]⟩
   have hi0 : Lo (u.set i y) i = y.f0 ∧ Hi (u.set i y) i = y.f1 := ⟨by simp only [Lo, hset, if_true], by simp only [Hi, hset, if_true]⟩
   have hkn : ∀ j, i ≤ j → ∀ k ∈ kidsAt l l.length j, i ≠ k := fun j hj k hk' => by have := kidsAt_mem.1 hk'; omega
   refine ⟨by rw [List.length_set]; exact h.len, old', ?_⟩
   by_cases hem : y.f0 ≤ y.f1
   ·refine .inr ⟨fun j h1 h2 => ?_, fun x hx j h1 h2 => ?_⟩
    ·have hsL : sm (Lo (u.set i y)) (kidsAt l l.length j) = sm (Lo u) (kidsAt l l.length j) := sm_congr (fun k hk' => (hne' k (hkn j h1 k hk')).1)
     have hsH : sm (Hi (u.set i y)) (kidsAt l l.length j) = sm (Hi u) (kidsAt l l.length j) := sm_congr (fun k hk' => (hne' k (hkn j h1 k hk')).2)
     rw [hsL, hsH]
     by_cases hj : i + 1 ≤ j
     ·rw [(hne' j (by omega)).1, (hne' j (by omega)).2]
      exact ha j hj h2
     ·have e2 : j = i := by omega
      subst e2
      rw [hi0.1, hi0.2]
      exact ⟨by omega, fun _ => by omega⟩
    ·by_cases hj : i + 1 ≤ j
     ·rw [(hne' j (by omega)).1, (hne' j (by omega)).2]
      exact hs x hx j hj h2
     ·have e2 : j = i := by omega
      subst e2
      rw [hi0.1, hi0.2]
      exact hsol x hx
   ·refine .inl ⟨⟨i, Nat.le_refl _, hi, by rw [hi0.1, hi0.2]; omega⟩, fun ⟨x, hx⟩ => ?_⟩
    have := hsol x hx
    omega
theorem up_fold (hok : okL l) (hn : l.length ≤ 200) (hk : ∀ j, j < l.length → rdK kids j = (kidsAt l l.length j).map Int.ofNat) {r : List IV} (hl : r.length = l.length) (hv : Vol l.length (Lo r) (Hi r)) :
  ∀ d, d ≤ l.length → UpAt l r (l.length - d) ((downTo l.length d).foldl (fun r (j : Nat) => upStep l kids r j) r) := by
 intro d
 induction d with
 | zero => intro _; exact ⟨hl, fun _ _ => rfl, .inr ⟨fun j h1 h2 => by omega, fun x _ j h1 h2 => by omega⟩⟩
 | succ d ih =>
  intro hd
  rw [downTo_succ, List.foldl_append]
  have h := ih (by omega)
  have e : l.length - d = (l.length - 1 - d) + 1 := by omega
  rw [e] at h
  have := up_step hok hn hk hv (i := l.length - 1 - d) (by omega) h
  rw [show l.length - (d + 1) = l.length - 1 - d by omega]
  exact this
theorem up_spec (hok : okL l) (hn : l.length ≤ 200) (hk : ∀ j, j < l.length → rdK kids j = (kidsAt l l.length j).map Int.ofNat) {r : List IV} (hl : r.length = l.length) (hv : Vol l.length (Lo r) (Hi r)) : UpAt l r 0 (upF l kids r) := by
 have := up_fold hok hn hk hl hv l.length (Nat.le_refl _)
 rw [Nat.sub_self] at this
 exact this
end
end Go.Proofs.Ythjjabcbngffoaa.P
end
section
namespace Go.Proofs.Ythjjabcbngffoaa.P
open Go.RowKit Go.Proofs.YthjjabcbngffoaaW.PrintWords Go.Proofs.YthjjabcbngffoaaW.PrintLast Go.Proofs.YthjjabcbngffoaaW.PrintMore Go.Proofs.YthjjabcbngffoaaH Go.Proofs.FlowTree
section
variable {l : List PI} {kids : List (List Int)}
theorem cuts (i : Nat) (lo hi : Int) (d : List IV) : ∀ (ks : List Nat) (e : List IV), ks.Nodup → i ∉ ks → (∀ k ∈ ks, k < e.length) → (∀ k ∈ ks, rv e k = rv d k) → rv e i = rv d i →
  (∀ j, j ∉ ks → rv ((ks.map Int.ofNat).foldl (downCut l i lo hi) e) j = rv e j) ∧
  (∀ k ∈ ks, rv ((ks.map Int.ofNat).foldl (downCut l i lo hi) e) k = cutI (rv d k) (wrap64 (wrap64 ((rv d i).f0 - loP l i) - wrap64 (hi - (rv d k).f1))) (wrap64 ((rv d i).f1 - wrap64 (lo - (rv d k).f0)))) := by
 intro ks
 induction ks with
 | nil => intro e _ _ _ _ _; exact ⟨fun _ _ => rfl, (fun k hk => by cases hk)⟩
 | cons k ks ih =>
  intro e hnd hi' hlen heq hei
  rw [List.nodup_cons] at hnd
  have hk : k < e.length := hlen k (by simp)
  have hset : ∀ y j, rv (e.set k y) j = if k = j then y else rv e j := fun y j => rv_set e k j y hk
  have hik : ¬ k = i := fun h => hi' (by simp [h])
  rw [List.map_cons, List.foldl_cons]
  obtain ⟨y, hy⟩ : ∃ y, y = cutI (rv d k) (wrap64 (wrap64 ((rv d i).f0 - loP l i) - wrap64 (hi - (rv d k).f1))) (wrap64 ((rv d i).f1 - wrap64 (lo - (rv d k).f0))) := ⟨_, rfl⟩
  have hstep : downCut l i lo hi e (Int.ofNat k) = e.set k y := by
   unfold downCut
   have e1 : rd_T85 e (Int.ofNat k) = rv d k := heq k (by simp)
   have e2 : rd_T85 e (i : Int) = rv d i := hei
   rw [e1, e2, hy]
   rfl
  rw [hstep]
  have h := ih (e.set k y) hnd.2 (fun h => hi' (List.mem_cons_of_mem _ h)) (fun j hj => by rw [List.length_set]; exact hlen j (List.mem_cons_of_mem _ hj))
   (fun j hj => by rw [hset, if_neg (fun hh : k = j => hnd.1 (by rw [hh]; exact hj))]; exact heq j (List.mem_cons_of_mem _ hj)) (by rw [hset, if_neg hik]; exact hei)
  refine ⟨fun j hj => ?_, fun j hj => ?_⟩
  ·rw [h.1 j (fun hh => hj (List.mem_cons_of_mem _ hh)), hset, if_neg (fun hh => hj (by simp [hh]))]
  ·rcases List.mem_cons.1 hj with rfl | hj'
   ·rw [h.1 j hnd.1, hset, if_pos rfl, hy]
   ·exact h.2 j hj'
structure DownAt (l : List PI) (r u : List IV) (m : Nat) (d : List IV) : Prop where
 len : d.length = l.length
 old : ∀ j, (∀ p, p < m → j ∉ kidsAt l l.length p) → rv d j = rv u j
 rng : ∀ j, j < l.length → Lo u j ≤ Lo d j ∧ Lo d j ≤ Hi d j ∧ Hi d j ≤ Hi u j
 cut : ∀ p, p < m → ∀ k ∈ kidsAt l l.length p, Lo d p - loP l p - (sm (Hi u) (kidsAt l l.length p) - Hi u k) ≤ Lo d k ∧ Hi d k ≤ Hi d p - (sm (Lo u) (kidsAt l l.length p) - Lo u k)
 sol : ∀ x, Sol (netT l) (Lo r) (Hi r) x → ∀ j, j < l.length → Lo d j ≤ x j ∧ x j ≤ Hi d j
structure UpOk (l : List PI) (r u : List IV) : Prop where
 len : u.length = l.length
 rng : ∀ j, j < l.length → 0 ≤ Lo u j ∧ Lo u j ≤ Hi u j ∧ Hi u j ≤ 1000000000 ∧ Lo r j ≤ Lo u j ∧ Hi u j ≤ Hi r j
 eq : ∀ j, j < l.length → kidsAt l l.length j ≠ [] → sm (Lo u) (kidsAt l l.length j) ≤ Lo u j ∧ Hi u j ≤ sm (Hi u) (kidsAt l l.length j) + loP l j
 sol : ∀ x, Sol (netT l) (Lo r) (Hi r) x → ∀ j, j < l.length → Lo u j ≤ x j ∧ x j ≤ Hi u j
theorem down_step (hok : okL l) (hn : l.length ≤ 200) (hk : ∀ j, j < l.length → rdK kids j = (kidsAt l l.length j).map Int.ofNat) {r u d : List IV} (hu : UpOk l r u) {i : Nat} (hi : i < l.length) (h : DownAt l r u i d) :
  DownAt l r u (i + 1) (downStep l kids d i) := by
 have hT := netT_ok hok
 have hkid : ∀ k ∈ kidsAt l l.length i, i < k ∧ k < l.length := fun k hk' => hT.lt i k hk'
 have hold : ∀ k ∈ kidsAt l l.length i, rv d k = rv u k := fun k hk' => h.old k (fun p hp hm => by have := hT.one i p k hk' hm; omega)
 have hLk : ∀ k ∈ kidsAt l l.length i, Lo d k = Lo u k := fun k hk' => by simp only [Lo, hold k hk']
 have hHk : ∀ k ∈ kidsAt l l.length i, Hi d k = Hi u k := fun k hk' => by simp only [Hi, hold k hk']
 have hL : totalF S85.f0 ((kidsAt l l.length i).map (fun k => rv d k)) = sm (Lo u) (kidsAt l l.length i) := by
  rw [total_eq _ _ _ (Nat.le_trans (kids_len l i) hn) (fun k hk' => by have h1 := hu.rng k (hkid k hk').2; have h2 := hold k hk'; simp only [Lo, Hi, h2] at *; omega)]
  exact sm_congr hLk
 have hH : totalF S85.f1 ((kidsAt l l.length i).map (fun k => rv d k)) = sm (Hi u) (kidsAt l l.length i) := by
  rw [total_eq _ _ _ (Nat.le_trans (kids_len l i) hn) (fun k hk' => by have h1 := hu.rng k (hkid k hk').2; have h2 := hold k hk'; simp only [Lo, Hi, h2] at *; omega)]
  exact sm_congr hHk
 have bH := sm_bound (f := Hi u) (ks := kidsAt l l.length i) (a := 0) (b := 1000000000) (fun k hk' => by have := hu.rng k (hkid k hk').2; omega)
 have bL := sm_bound (f := Lo u) (ks := kidsAt l l.length i) (a := 0) (b := 1000000000) (fun k hk' => by have := hu.rng k (hkid k hk').2; omega)
 have bl := kids_len l i
 have bo := (hok i hi).2.2.1
 have hinot : i ∉ kidsAt l l.length i := fun hm => by have := hkid i hm; omega
 have hun : downStep l kids d i = ((kidsAt l l.length i).map Int.ofNat).foldl (downCut l i (sm (Lo u) (kidsAt l l.length i)) (sm (Hi u) (kidsAt l l.length i))) d := by
  unfold downStep
  rw [below_eq hk d i hi, hL, hH, hk i hi]
 have hc := cuts (l := l) i (sm (Lo u) (kidsAt l l.length i)) (sm (Hi u) (kidsAt l l.length i)) d (kidsAt l l.length i) d (hT.nodup i) hinot (fun k hk' => by rw [h.len]; exact (hkid k hk').2) (fun _ _ => rfl) rfl
 rw [← hun] at hc
 obtain ⟨e, he⟩ : ∃ e, e = downStep l kids d i := ⟨_, rfl⟩
 rw [← he] at hc ⊢
 have elen : e.length = l.length := by rw [he, downStep_len, h.len]
 have hri := h.rng i hi
 have hui := hu.rng i hi
 have hnew : ∀ k ∈ kidsAt l l.length i, Lo e k = max (Lo u k) (Lo d i - loP l i - (sm (Hi u) (kidsAt l l.length i) - Hi u k)) ∧ Hi e k = min (Hi u k) (Hi d i - (sm (Lo u) (kidsAt l l.length i) - Lo u k)) ∧ Lo e k ≤ Hi e k := by
  intro k hk'
  have h1 := hc.2 k hk'
  have h2 := hu.rng k (hkid k hk').2
  have h3 := hu.eq i hi (fun hh => by rw [hh] at hk'; cases hk')
  obtain ⟨a, b, hab, hlo⟩ := sm_split (Lo u) hk'
  have hhi : sm (Hi u) (kidsAt l l.length i) = Hi u k + sm (Hi u) (a ++ b) := by rw [hab, sm_append, sm_append, sm_cons]; omega
  have hle : sm (Lo u) (a ++ b) ≤ sm (Hi u) (a ++ b) := sm_le (fun j hj => by
   have hj' : j ∈ kidsAt l l.length i := by
    rw [hab]
    rcases List.mem_append.1 hj with h' | h'
    ·exact List.mem_append.2 (.inl h')
    ·exact List.mem_append.2 (.inr (List.mem_cons_of_mem _ h'))
   have := hu.rng j (hkid j hj').2
   omega)
  have e0 : Lo e k = max (Lo u k) (Lo d i - loP l i - (sm (Hi u) (kidsAt l l.length i) - Hi u k)) := by
   have := congrArg S85.f0 h1
   rw [cutI_f0] at this
   have w1 : (rv d k).f1 = Hi u k := hHk k hk'
   have w2 : (rv d k).f0 = Lo u k := hLk k hk'
   have w3 : (rv d i).f0 = Lo d i := rfl
   rw [w1, w2, w3, wrap_id (n := Lo d i - loP l i) (by omega) (by omega), wrap_id (n := sm (Hi u) (kidsAt l l.length i) - Hi u k) (by omega) (by omega), wrap_id (by omega) (by omega)] at this
   exact this
  have e1 : Hi e k = min (Hi u k) (Hi d i - (sm (Lo u) (kidsAt l l.length i) - Lo u k)) := by
   have := congrArg S85.f1 h1
   rw [cutI_f1] at this
   have w1 : (rv d k).f1 = Hi u k := hHk k hk'
   have w2 : (rv d k).f0 = Lo u k := hLk k hk'
   have w3 : (rv d i).f1 = Hi d i := rfl
   rw [w1, w2, w3, wrap_id (n := sm (Lo u) (kidsAt l l.length i) - Lo u k) (by omega) (by omega), wrap_id (by omega) (by omega)] at this
   exact this
  refine ⟨e0, e1, ?_⟩
  omega
 have hsame : ∀ j, j ∉ kidsAt l l.length i → Lo e j = Lo d j ∧ Hi e j = Hi d j := fun j hj => by
  have := hc.1 j hj
  exact ⟨by simp only [Lo, this], by simp only [Hi, this]⟩
 refine ⟨elen, fun j hj => ?_, fun j hj => ?_, fun p hp k hk' => ?_, fun x hx j hj => ?_⟩
 ·rw [hc.1 j (hj i (by omega))]
  exact h.old j (fun p hp => hj p (by omega))
 ·by_cases hm : j ∈ kidsAt l l.length i
  ·have := hnew j hm
   omega
  ·have := hsame j hm
   have := h.rng j hj
   omega
 ·have hpi : p ∉ kidsAt l l.length i := fun hm => by have := (hkid p hm).1; omega
  have hp' := hsame p hpi
  by_cases h' : p < i
  ·have hki : k ∉ kidsAt l l.length i := fun hm => by have := hT.one i p k hm hk'; omega
   have := hsame k hki
   have := h.cut p h' k hk'
   omega
  ·have e2 : p = i := by omega
   subst e2
   have := hnew k hk'
   omega
 ·by_cases hm : j ∈ kidsAt l l.length i
  ·have h1 := hnew j hm
   have h2 := h.sol x hx i hi
   have h3 := hu.sol x hx j hj
   have hne : kidsAt l l.length i ≠ [] := fun hh => by rw [hh] at hm; cases hm
   have h4 := hx.2 i hi hne
   simp only [netT] at h4
   obtain ⟨a, b, hab, hlo⟩ := sm_split (Lo u) hm
   have hhi : sm (Hi u) (kidsAt l l.length i) = Hi u j + sm (Hi u) (a ++ b) := by rw [hab, sm_append, sm_append, sm_cons]; omega
   have hxx : sm x (kidsAt l l.length i) = x j + sm x (a ++ b) := by rw [hab, sm_append, sm_append, sm_cons]; omega
   have hmem : ∀ q ∈ a ++ b, q < l.length := fun q hq => (hkid q (by
    rw [hab]
    rcases List.mem_append.1 hq with h' | h'
    ·exact List.mem_append.2 (.inl h')
    ·exact List.mem_append.2 (.inr (List.mem_cons_of_mem _ h')))).2
   have l1 : sm (Lo u) (a ++ b) ≤ sm x (a ++ b) := sm_le (fun q hq => (hu.sol x hx q (hmem q hq)).1)
   have l2 : sm x (a ++ b) ≤ sm (Hi u) (a ++ b) := sm_le (fun q hq => (hu.sol x hx q (hmem q hq)).2)
   omega
  ·have := hsame j hm
   have := h.sol x hx j hj
   omega
theorem down_fold (hok : okL l) (hn : l.length ≤ 200) (hk : ∀ j, j < l.length → rdK kids j = (kidsAt l l.length j).map Int.ofNat) {r u : List IV} (hu : UpOk l r u) :
  ∀ m, m ≤ l.length → DownAt l r u m ((List.range m).foldl (fun r (j : Nat) => downStep l kids r j) u) := by
 intro m
 induction m with
 | zero => intro _; exact ⟨hu.len, fun _ _ => rfl, fun j hj => by have := hu.rng j hj; simp only [List.range_zero, List.foldl_nil]; omega, fun p hp => absurd hp (Nat.not_lt_zero _), hu.sol⟩
 | succ m ih =>
  intro hm
  rw [foldl_range_succ]
  exact down_step hok hn hk hu (by omega) (ih (by omega))
structure Exact (l : List PI) (lo hi : Nat → Int) (d : List IV) : Prop where
 len : d.length = l.length
 rng : ∀ j, j < l.length → 0 ≤ Lo d j ∧ Lo d j ≤ Hi d j ∧ Hi d j ≤ 1000000000 ∧ lo j ≤ Lo d j ∧ Hi d j ≤ hi j
 sol : ∀ x, Sol (netT l) lo hi x → ∀ j, j < l.length → Lo d j ≤ x j ∧ x j ≤ Hi d j
 had : ∀ j, j < l.length → ∀ v, Lo d j ≤ v → v ≤ Hi d j → ∃ x, Sol (netT l) lo hi x ∧ x j = v
theorem any_empty (u : List IV) : u.any emptyI = true ↔ ∃ j, j < u.length ∧ Hi u j < Lo u j := by
 rw [List.any_eq_true]
 constructor
 ·rintro ⟨x, hx, he⟩
  obtain ⟨j, hj, rfl⟩ := List.mem_iff_getElem.1 hx
  refine ⟨j, hj, ?_⟩
  simp only [emptyI, decide_eq_true_eq] at he
  simp only [Lo, Hi, rv, rd_T85, Int.toNat_natCast, List.getD_eq_getElem?_getD, List.getElem?_eq_getElem hj, Option.getD_some]
  omega
 ·rintro ⟨j, hj, h⟩
  refine ⟨u[j], List.getElem_mem hj, ?_⟩
  simp only [Lo, Hi, rv, rd_T85, Int.toNat_natCast, List.getD_eq_getElem?_getD, List.getElem?_eq_getElem hj, Option.getD_some] at h
  simp only [emptyI, decide_eq_true_eq]
  omega
theorem boundsF_spec (hok : okL l) (hn : l.length ≤ 200) (hk : ∀ j, j < l.length → rdK kids j = (kidsAt l l.length j).map Int.ofNat) {r : List IV} (hl : r.length = l.length) (hv : Vol l.length (Lo r) (Hi r)) :
  ((boundsF l kids r).1 = false ∧ ¬ ∃ x, Sol (netT l) (Lo r) (Hi r) x) ∨ ((boundsF l kids r).1 = true ∧ Exact l (Lo r) (Hi r) (boundsF l kids r).2) := by
 have h := up_spec hok hn hk hl hv
 unfold boundsF
 rcases h.now with ⟨⟨j, h1, h2, h3⟩, hs⟩ | ⟨ha, hs⟩
 ·rw [if_pos ((any_empty _).2 ⟨j, by rw [h.len]; exact h2, h3⟩)]
  exact .inl ⟨rfl, hs⟩
 ·have hno : ¬ (upF l kids r).any emptyI = true := fun hh => by
   obtain ⟨j, hj, h3⟩ := (any_empty _).1 hh
   rw [h.len] at hj
   have := (ha j (Nat.zero_le _) hj).1
   omega
  rw [if_neg hno]
  have hu : UpOk l r (upF l kids r) := ⟨h.len, fun j hj => (ha j (Nat.zero_le _) hj).1, fun j hj => (ha j (Nat.zero_le _) hj).2, fun x hx j hj => hs x hx j (Nat.zero_le _) hj⟩
  have hd := down_fold hok hn hk hu l.length (Nat.le_refl _)
  have hd' : DownAt l r (upF l kids r) l.length (downF l kids (upF l kids r)) := hd
  have hno2 : ¬ (downF l kids (upF l kids r)).any emptyI = true := fun hh => by
   obtain ⟨j, hj, h3⟩ := (any_empty _).1 hh
   rw [hd'.len] at hj
   have := hd'.rng j hj
   omega
  rw [if_neg hno2]
  refine .inr ⟨rfl, hd'.len, fun j hj => ?_, hd'.sol, fun j hj v h1 h2 => ?_⟩
  ·have := hd'.rng j hj
   have := hu.rng j hj
   dsimp only
   omega
  ·obtain ⟨x, hx, hxv⟩ := exact (netT l) (netT_ok hok) (Lo (upF l kids r)) (Hi (upF l kids r)) (Lo (downF l kids (upF l kids r))) (Hi (downF l kids (upF l kids r))) (fun i hi => (hu.rng i hi).2.1) (fun i hi hne => hu.eq i hi hne)
    (fun i hi => hd'.rng i hi) (fun i hi k hk' => hd'.cut i hi k hk') j hj v h1 h2
   exact ⟨x, ⟨fun i hi => by have := hx.1 i hi; have := hu.rng i hi; omega, hx.2⟩, hxv⟩
end
end Go.Proofs.Ythjjabcbngffoaa.P
end
section
namespace Go.Proofs.Ythjjabcbngffoaa.P
open Go.RowKit Go.Proofs.YthjjabcbngffoaaW.PrintWords Go.Proofs.YthjjabcbngffoaaW.PrintLast Go.Proofs.YthjjabcbngffoaaW.PrintMore Go.Proofs.YthjjabcbngffoaaH Go.Proofs.FlowTree
open Classical
def Ev {α : Type} (f : Nat → Option α) (r : α) : Prop := ∃ k0, ∀ k, k0 ≤ k → f k = some r
theorem Ev.step {α : Type} {f : Nat → Option α} {r : α} (h : Ev (fun k => f (k + 1)) r) : Ev f r := by
 obtain ⟨k0, h⟩ := h
 refine ⟨k0 + 1, fun k hk => ?_⟩
 obtain ⟨k, rfl⟩ : ∃ m, k = m + 1 := ⟨k - 1, by omega⟩
 exact h k (by omega)
theorem Ev.pure {α : Type} (r : α) : Ev (fun _ => some r) r := ⟨0, fun _ _ => rfl⟩
theorem Ev.bnd {α β : Type} {f : Nat → Option β} {g : β → Nat → Option α} {b : β} {r : α} (hf : Ev f b) (hg : Ev (g b) r) : Ev (fun k => (f k).bind fun t => g t k) r := by
 obtain ⟨k0, h⟩ := hf
 obtain ⟨k1, h1⟩ := hg
 refine ⟨max k0 k1, fun k hk => ?_⟩
 show (f k).bind _ = _
 rw [h k (by omega)]
 exact h1 k (by omega)
theorem Ev.congr {α : Type} {f g : Nat → Option α} {r : α} (h : ∀ k, f k = g k) (hg : Ev g r) : Ev f r := by
 obtain ⟨k0, h0⟩ := hg
 exact ⟨k0, fun k hk => (h k).trans (h0 k hk)⟩
theorem wrap_nat {n : Nat} (h : n ≤ 140737488355328) : wrap64 ((n : Int) + 1) = ((n + 1 : Nat) : Int) := by unfold wrap64; omega
abbrev RG := S38
theorem range_split (i n : Nat) (h : i < n) : List.range n = List.range (i + 1) ++ List.range' (i + 1) (n - (i + 1)) := by
 rw [List.range_eq_range', List.range_eq_range', show n = (i + 1) + (n - (i + 1)) by omega, ← List.range'_append]
 simp
theorem kidsAt_range (l : List PI) (i : Nat) (h : i < l.length) : kidsAt l l.length i = (List.range' (i + 1) (l.length - (i + 1))).filter (fun k => decide (abP l k = idP l i)) := by
 unfold kidsAt
 rw [range_split i l.length h, List.filter_append]
 have e1 : (List.range (i + 1)).filter (fun k => decide (i < k) && decide (abP l k = idP l i)) = [] := by
  rw [List.filter_eq_nil_iff]
  intro k hk
  have := List.mem_range.1 hk
  simp; omega
 rw [e1, List.nil_append]
 apply List.filter_congr
 intro k hk
 have := List.mem_range'.1 hk
 obtain ⟨j, hj, e⟩ := this
 rw [decide_eq_true (show i < k by omega), Bool.true_and]
theorem below_l0' (l : List PI) (hB : l.length ≤ 200) (i : Nat) (hi : i < l.length) : ∀ (d x : Nat) (acc : List Int), x + d = l.length → acc.length ≤ x →
  Ev (fun k => cohousingref28_below.l0 k l (i : Int) acc (x : Int)) (acc ++ ((List.range' x d).filter (fun k => decide (abP l k = idP l i))).map Int.ofNat) := by
 intro d
 induction d with
 | zero =>
  intro x acc hx _
  have h1 : ¬ ((x : Int) < (l.length : Int)) := by omega
  refine Ev.step ?_
  simp only [cohousingref28_below.l0, h1, if_false, List.range'_zero, List.filter_nil, List.map_nil, List.append_nil]
  exact Ev.pure _
 | succ d ih =>
  intro x acc hx ha
  have h1 : ((x : Int) < (l.length : Int)) := by omega
  have h2 : (0 : Int) ≤ (x : Int) := by omega
  have h3 : (0 : Int) ≤ (i : Int) := by omega
  have h4 : ((i : Int) < (l.length : Int)) := by omega
  refine Ev.step ?_
  rw [List.range'_succ]
  by_cases hc : (rd_T63 l (x : Int)).f1 = (rd_T63 l (i : Int)).f0
  ·have h5 : acc.length < 17592186044416 := by omega
   ·simp only [cohousingref28_below.l0, h1, h2, h3, h4, h5, hc, if_true, wrap_nat (show x ≤ 140737488355328 by omega)]
    rw [List.filter_cons_of_pos (by simpa using hc)]
    have := ih (x + 1) (acc ++ [(x : Int)]) (by omega) (by simp; omega)
    rw [List.append_assoc] at this
    exact this
  ·simp only [cohousingref28_below.l0, h1, h2, h3, h4, hc, if_true, if_false, wrap_nat (show x ≤ 140737488355328 by omega)]
   rw [List.filter_cons_of_neg (by simpa using hc)]
   exact ih (x + 1) acc (by omega) (by omega)
theorem below_f' (l : List PI) (hB : l.length ≤ 200) (i : Nat) (hi : i < l.length) : Ev (fun k => cohousingref28_below.f k l (i : Int)) ((kidsAt l l.length i).map Int.ofNat) := by
 have := below_l0' l hB i hi (l.length - (i + 1)) (i + 1) [] (by omega) (by simp)
 rw [kidsAt_range l i hi]
 unfold cohousingref28_below.f
 rw [wrap_nat (by omega)]
 rw [List.nil_append] at this
 exact this
abbrev rr (r : List RG) (i : Nat) : RG := rd_T38 r i
theorem rv_toI (r : List RG) (i : Nat) : rv (r.map toI) i = toI (rr r i) := by
 simp only [rv, rr, rd_T85, rd_T38, Int.toNat_natCast, List.getD_eq_getElem?_getD, List.getElem?_map]
 cases r[i]? <;> rfl
theorem Lo_toI (r : List RG) (i : Nat) : Lo (r.map toI) i = (rr r i).f0 := by unfold Lo; rw [rv_toI]; rfl
theorem Hi_toI (r : List RG) (i : Nat) : Hi (r.map toI) i = (rr r i).f1 := by unfold Hi; rw [rv_toI]; rfl
theorem empty_l0 (r : List RG) (hB : r.length ≤ 140737488355328) : ∀ (d i : Nat), i + d = r.length → Ev (fun k => cohousingref28_empty.l0 k r (i : Int)) (decide (∃ j, i ≤ j ∧ j < r.length ∧ (rr r j).f1 < (rr r j).f0)) := by
 intro d
 induction d with
 | zero =>
  intro i hi
  have h1 : ¬ ((i : Int) < (r.length : Int)) := by omega
  refine Ev.step ?_
  simp only [cohousingref28_empty.l0, h1, if_false]
  rw [decide_eq_false (by rintro ⟨j, h2, h3, _⟩; omega)]
  exact Ev.pure _
 | succ d ih =>
  intro i hi
  have h1 : ((i : Int) < (r.length : Int)) := by omega
  have h2 : (0 : Int) ≤ (i : Int) := by omega
  refine Ev.step ?_
  by_cases hc : (rd_T38 r (i : Int)).f0 > (rd_T38 r (i : Int)).f1
  ·simp only [cohousingref28_empty.l0, h1, h2, hc, if_true]
   rw [decide_eq_true ⟨i, Nat.le_refl _, by omega, hc⟩]
   exact Ev.pure _
  ·simp only [cohousingref28_empty.l0, h1, h2, hc, if_true, if_false, wrap_nat (show i ≤ 140737488355328 by omega)]
   have := ih (i + 1) (by omega)
   rw [show decide (∃ j, i ≤ j ∧ j < r.length ∧ (rr r j).f1 < (rr r j).f0) = decide (∃ j, i + 1 ≤ j ∧ j < r.length ∧ (rr r j).f1 < (rr r j).f0) from decide_eq_decide.2 ⟨fun ⟨j, h3, h4, h5⟩ => ⟨j, by
    by_cases e : j = i
    ·subst e; exact absurd h5 hc
    ·omega, h4, h5⟩, fun ⟨j, h3, h4, h5⟩ => ⟨j, by omega, h4, h5⟩⟩]
   exact this
theorem empty_f (r : List RG) (hB : r.length ≤ 140737488355328) : Ev (fun k => cohousingref28_empty.f k r) (decide (∃ j, j < r.length ∧ (rr r j).f1 < (rr r j).f0)) := by
 have := empty_l0 r hB r.length 0 (by omega)
 rw [show decide (∃ j, j < r.length ∧ (rr r j).f1 < (rr r j).f0) = decide (∃ j, 0 ≤ j ∧ j < r.length ∧ (rr r j).f1 < (rr r j).f0) from decide_eq_decide.2 ⟨fun ⟨j, h⟩ => ⟨j, Nat.zero_le _, h⟩, fun ⟨j, _, h⟩ => ⟨j, h⟩⟩]
 exact this
theorem same_l0 (a b : List RG) (hB : a.length ≤ 140737488355328) (hl : a.length = b.length) : ∀ (d i : Nat), i + d = a.length → Ev (fun k => cohousingref28_Same.l0 k a b (i : Int)) (decide (∀ j, i ≤ j → j < a.length → rr a j = rr b j)) := by
 intro d
 induction d with
 | zero =>
  intro i hi
  have h1 : ¬ ((i : Int) < (a.length : Int)) := by omega
  refine Ev.step ?_
  simp only [cohousingref28_Same.l0, h1, if_false]
  rw [decide_eq_true (fun j h2 h3 => by omega)]
  exact Ev.pure _
 | succ d ih =>
  intro i hi
  have h1 : ((i : Int) < (a.length : Int)) := by omega
  have h2 : (0 : Int) ≤ (i : Int) := by omega
  have h3 : ((i : Int) < (b.length : Int)) := by omega
  refine Ev.step ?_
  by_cases hc : rr a i = rr b i
  ·have hc' : (!(((rd_T38 a (i : Int)).f0) == ((rd_T38 b (i : Int)).f0)) || (!(((rd_T38 a (i : Int)).f1) == ((rd_T38 b (i : Int)).f1)))) = false := by
    have : rd_T38 a (i : Int) = rd_T38 b (i : Int) := hc
    rw [this]; simp
   simp only [cohousingref28_Same.l0, h1, h2, h3, hc', if_true, if_false, Bool.false_eq_true, wrap_nat (show i ≤ 140737488355328 by omega)]
   have := ih (i + 1) (by omega)
   rw [show decide (∀ j, i ≤ j → j < a.length → rr a j = rr b j) = decide (∀ j, i + 1 ≤ j → j < a.length → rr a j = rr b j) from decide_eq_decide.2 ⟨fun h j h4 h5 => h j (by omega) h5, fun h j h4 h5 => by
    by_cases e : j = i
    ·subst e; exact hc
    ·exact h j (by omega) h5⟩]
   exact this
  ·have hc' : (!(((rd_T38 a (i : Int)).f0) == ((rd_T38 b (i : Int)).f0)) || (!(((rd_T38 a (i : Int)).f1) == ((rd_T38 b (i : Int)).f1)))) = true := by
    rw [Bool.or_eq_true, Bool.not_eq_true', Bool.not_eq_true', beq_eq_false_iff_ne, beq_eq_false_iff_ne]
    by_cases h4 : (rd_T38 a (i : Int)).f0 = (rd_T38 b (i : Int)).f0
    ·refine .inr (fun h5 => hc ?_)
     show rd_T38 a (i : Int) = rd_T38 b (i : Int)
     cases ha : rd_T38 a (i : Int)
     cases hb : rd_T38 b (i : Int)
     rw [ha, hb] at h4 h5
     simp only at h4 h5
     rw [h4, h5]
    ·exact .inl h4
   simp only [cohousingref28_Same.l0, h1, h2, h3, hc', if_true]
   rw [decide_eq_false (fun h => hc (h i (Nat.le_refl _) (by omega)))]
   exact Ev.pure _
theorem rr_ext {a b : List RG} (hl : a.length = b.length) (h : ∀ j, j < a.length → rr a j = rr b j) : a = b := by
 apply List.ext_getElem hl
 intro i h1 h2
 have := h i h1
 simp only [rr, rd_T38, Int.toNat_natCast, List.getD_eq_getElem?_getD, List.getElem?_eq_getElem h1, List.getElem?_eq_getElem h2, Option.getD_some] at this
 exact this
theorem same_f (a b : List RG) (hB : a.length ≤ 140737488355328) : Ev (fun k => cohousingref28_Same.f k a b) (decide (a = b)) := by
 unfold cohousingref28_Same.f
 by_cases hl : a.length = b.length
 ·have h1 : (a.length : Int) = (b.length : Int) := by omega
  simp only [h1, if_true]
  have := same_l0 a b hB hl a.length 0 (by omega)
  rw [show decide (a = b) = decide (∀ j, 0 ≤ j → j < a.length → rr a j = rr b j) from decide_eq_decide.2 ⟨fun h j _ _ => by rw [h], fun h => rr_ext hl (fun j hj => h j (Nat.zero_le _) hj)⟩]
  exact this
 ·have h1 : ¬ (a.length : Int) = (b.length : Int) := by omega
  simp only [h1, if_false]
  rw [decide_eq_false (fun h => hl (by rw [h]))]
  exact Ev.pure _
end Go.Proofs.Ythjjabcbngffoaa.P
end
section
namespace Go.Proofs.Ythjjabcbngffoaa.P
open Go.RowKit Go.Proofs.YthjjabcbngffoaaW.PrintWords Go.Proofs.YthjjabcbngffoaaW.PrintLast Go.Proofs.YthjjabcbngffoaaW.PrintMore Go.Proofs.YthjjabcbngffoaaH Go.Proofs.FlowTree
open Classical
def lo9 (r : List RG) (j : Nat) : Int := (rr r j).f0
def hi9 (r : List RG) (j : Nat) : Int := (rr r j).f1
theorem mx_max (a b : Int) : mx a b = max a b := by unfold mx; split <;> omega
theorem mn_min (a b : Int) : mn a b = min a b := by unfold mn; split <;> omega
section
variable (l : List PI) (r : List RG) (i : Nat)
def sL : Int := sm (lo9 r) (kidsAt l l.length i)
def sH : Int := sm (hi9 r) (kidsAt l l.length i)
def ownA : Int := max (lo9 r i) (sL l r i)
def ownB : Int := min (hi9 r i) (sH l r i + loP l i)
def eqAt (j : Nat) : RG :=
 if j = i then ⟨ownA l r i, ownB l r i⟩ else
 if i < j ∧ abP l j = idP l i then ⟨max (lo9 r j) (ownA l r i - loP l i - (sH l r i - hi9 r j)), min (hi9 r j) (ownB l r i - (sL l r i - lo9 r j))⟩ else rr r j
end
theorem take_sm (f : Nat → Int) (ks : List Nat) (x : Nat) (h : x < ks.length) : sm f (ks.take (x + 1)) = sm f (ks.take x) + f ks[x] := by
 rw [List.take_succ_eq_append_getElem h, sm_append, sm_cons, sm_nil]; omega
theorem rd_ofNat (ks : List Nat) (x : Nat) (h : x < ks.length) : rd (ks.map Int.ofNat) (x : Int) = (ks[x] : Int) := by
 simp [rd, List.getD_eq_getElem?_getD, h]
theorem sm_take_le {f : Nat → Int} {ks : List Nat} {B : Int} (h : ∀ k ∈ ks, 0 ≤ f k ∧ f k ≤ B) (x : Nat) : 0 ≤ sm f (ks.take x) ∧ sm f (ks.take x) ≤ sm f ks := by
 have h1 : 0 ≤ sm f (ks.take x) := sm_nonneg (fun k hk => (h k (List.mem_of_mem_take hk)).1)
 have h2 : 0 ≤ sm f (ks.drop x) := sm_nonneg (fun k hk => (h k (List.mem_of_mem_drop hk)).1)
 have h3 : sm f ks = sm f (ks.take x) + sm f (ks.drop x) := by rw [← sm_append, List.take_append_drop]
 omega
section
variable {l : List PI} {r : List RG} {i : Nat}
theorem sums_bound (hn : l.length ≤ 200) (hv : Vol l.length (lo9 r) (hi9 r)) : (0 ≤ sL l r i ∧ sL l r i ≤ 200000000000) ∧ (0 ≤ sH l r i ∧ sH l r i ≤ 200000000000) := by
 have hk : ∀ k ∈ kidsAt l l.length i, k < l.length := fun k hk => (kidsAt_mem.1 hk).1
 have bL := sm_bound (f := lo9 r) (ks := kidsAt l l.length i) (a := 0) (b := 1000000000) (fun k hk' => by have := hv k (hk k hk'); omega)
 have bH := sm_bound (f := hi9 r) (ks := kidsAt l l.length i) (a := 0) (b := 1000000000) (fun k hk' => by have := hv k (hk k hk'); omega)
 have bl := kids_len l i
 unfold sL sH
 omega
set_option maxHeartbeats 1000000 in
theorem eq_l1 (hok : okL l) (hn : l.length ≤ 200) (hr : r.length = l.length) (hv : Vol l.length (lo9 r) (hi9 r)) (hi : i < l.length) : ∀ (d x : Nat) (acc : List RG), x + d = l.length → acc.length = x →
  Ev (fun k => cohousingref28_equation.l1 k l r (i : Int) (sL l r i) (sH l r i) acc (x : Int) (ownA l r i) (ownB l r i)) (acc ++ (List.range' x d).map (eqAt l r i)) := by
 intro d
 have hb := sums_bound (i := i) hn hv
 have hvi := hv i hi
 have hlo := (hok i hi).2.2.1
 have hoA : 0 ≤ ownA l r i ∧ ownA l r i ≤ 200000000000 := by unfold ownA; omega
 have hoB : 0 ≤ ownB l r i ∧ ownB l r i ≤ 1000000000 := by unfold ownB; omega
 induction d with
 | zero =>
  intro x acc hx _
  have h1 : ¬ ((x : Int) < (r.length : Int)) := by omega
  refine Ev.step ?_
  simp only [cohousingref28_equation.l1, h1, if_false, List.range'_zero, List.map_nil, List.append_nil]
  exact Ev.pure _
 | succ d ih =>
  intro x acc hx ha
  have h1 : ((x : Int) < (r.length : Int)) := by omega
  have h2 : (0 : Int) ≤ (x : Int) := by omega
  have h3 : ((x : Int) < (l.length : Int)) := by omega
  have h4 : (0 : Int) ≤ (i : Int) := by omega
  have h5 : ((i : Int) < (l.length : Int)) := by omega
  have h6 : acc.length < 8796093022208 := by omega
  have hw := wrap_nat (show x ≤ 140737488355328 by omega)
  have key : Ev (fun k => cohousingref28_equation.l1 k l r (i : Int) (sL l r i) (sH l r i) (acc ++ [eqAt l r i x]) ((x + 1 : Nat) : Int) (ownA l r i) (ownB l r i)) (acc ++ (List.range' x (d + 1)).map (eqAt l r i)) := by
   have := ih (x + 1) (acc ++ [eqAt l r i x]) (by omega) (by simp; omega)
   rw [List.append_assoc] at this
   rw [List.range'_succ, List.map_cons]
   exact this
  refine Ev.step ?_
  simp only [cohousingref28_equation.l1, h1, h2, h3, h4, h5, h6, if_true, hw]
  by_cases hxi : x = i
  ·have c1 : (x : Int) = (i : Int) := by rw [hxi]
   have c2 : ¬ ((i : Int) > (i : Int)) := Int.lt_irrefl _
   simp only [c1, c2, if_true, if_false]
   have e : eqAt l r i x = ⟨ownA l r i, ownB l r i⟩ := by unfold eqAt; rw [if_pos hxi]
   rw [e] at key
   exact key
  ·have c1 : ¬ (x : Int) = (i : Int) := fun h => hxi (Int.ofNat_inj.1 h)
   simp only [c1, if_false]
   by_cases hlt : i < x
   ·have c2 : ((x : Int) > (i : Int)) := Int.ofNat_lt.2 hlt
    simp only [c2, if_true]
    by_cases hab : (rd_T63 l (x : Int)).f1 = (rd_T63 l (i : Int)).f0
    ·simp only [hab, if_true, cohousingref28_narrow.f, Option.bind_some]
     have hvx := hv x (by omega)
     have e : eqAt l r i x = ⟨mx (rd_T38 r (x : Int)).f0 (wrap64 (wrap64 (ownA l r i - (rd_T63 l (i : Int)).f2) - wrap64 (sH l r i - (rd_T38 r (x : Int)).f1))), mn (rd_T38 r (x : Int)).f1 (wrap64 (ownB l r i - wrap64 (sL l r i - (rd_T38 r (x : Int)).f0)))⟩ := by
      unfold eqAt
      rw [if_neg hxi, if_pos ⟨hlt, hab⟩, mx_max, mn_min]
      have w1 : (rd_T38 r (x : Int)).f0 = lo9 r x := rfl
      have w2 : (rd_T38 r (x : Int)).f1 = hi9 r x := rfl
      have w3 : (rd_T63 l (i : Int)).f2 = loP l i := rfl
      rw [w1, w2, w3, wrap_id (n := ownA l r i - loP l i) (by omega) (by omega), wrap_id (n := sH l r i - hi9 r x) (by omega) (by omega), wrap_id (n := sL l r i - lo9 r x) (by omega) (by omega), wrap_id (by omega) (by omega), wrap_id (by omega) (by omega)]
     rw [e] at key
     exact key
    ·simp only [hab, if_false]
     have e : eqAt l r i x = ⟨(rd_T38 r (x : Int)).f0, (rd_T38 r (x : Int)).f1⟩ := by
      unfold eqAt
      rw [if_neg hxi, if_neg (fun h => hab h.2)]
     rw [e] at key
     exact key
   ·have c2 : ¬ ((x : Int) > (i : Int)) := fun h => hlt (Int.ofNat_lt.1 h)
    simp only [c2, if_false]
    have e : eqAt l r i x = ⟨(rd_T38 r (x : Int)).f0, (rd_T38 r (x : Int)).f1⟩ := by
     unfold eqAt
     rw [if_neg hxi, if_neg (fun h => hlt h.1)]
    rw [e] at key
    exact key
theorem eq_l0 (hok : okL l) (hn : l.length ≤ 200) (hr : r.length = l.length) (hv : Vol l.length (lo9 r) (hi9 r)) (hi : i < l.length) : ∀ (d x : Nat), x + d = (kidsAt l l.length i).length →
  Ev (fun k => cohousingref28_equation.l0 k l r (i : Int) ((kidsAt l l.length i).map Int.ofNat) (sm (lo9 r) ((kidsAt l l.length i).take x)) (sm (hi9 r) ((kidsAt l l.length i).take x)) (x : Int)) ((List.range l.length).map (eqAt l r i)) := by
 intro d
 have hb := sums_bound (i := i) hn hv
 have hvi := hv i hi
 have hlo := (hok i hi).2.2.1
 have hkl := kids_len l i
 have hkm : ∀ k ∈ kidsAt l l.length i, k < l.length := fun k hk => (kidsAt_mem.1 hk).1
 induction d with
 | zero =>
  intro x hx
  have h1 : ¬ ((x : Int) < (((kidsAt l l.length i).map Int.ofNat).length : Int)) := by rw [List.length_map]; omega
  have h2 : (0 : Int) ≤ (i : Int) := by omega
  have h3 : ((i : Int) < (r.length : Int)) := by omega
  have h4 : ((i : Int) < (l.length : Int)) := by omega
  refine Ev.step ?_
  rw [List.take_of_length_le (by omega)]
  simp only [cohousingref28_equation.l0, h1, h2, h3, h4, if_true, if_false, cohousingref28_narrow.f, Option.bind_some]
  have e1 : mx (rd_T38 r (i : Int)).f0 (sm (lo9 r) (kidsAt l l.length i)) = ownA l r i := by rw [mx_max]; rfl
  have e2 : mn (rd_T38 r (i : Int)).f1 (wrap64 (sm (hi9 r) (kidsAt l l.length i) + (rd_T63 l (i : Int)).f2)) = ownB l r i := by
   rw [mn_min]
   have w1 : (rd_T63 l (i : Int)).f2 = loP l i := rfl
   have w2 : sm (hi9 r) (kidsAt l l.length i) = sH l r i := rfl
   rw [w1, w2, wrap_id (by omega) (by omega)]
   rfl
  rw [e1, e2]
  have := eq_l1 hok hn hr hv hi l.length 0 [] (by omega) rfl
  rw [List.nil_append, ← List.range_eq_range'] at this
  exact this
 | succ d ih =>
  intro x hx
  have hxl : x < (kidsAt l l.length i).length := by omega
  have h1 : ((x : Int) < (((kidsAt l l.length i).map Int.ofNat).length : Int)) := by rw [List.length_map]; omega
  have h2 : (0 : Int) ≤ (x : Int) := by omega
  have hk := hkm _ (List.getElem_mem hxl)
  have h3 : (0 : Int) ≤ (((kidsAt l l.length i)[x] : Nat) : Int) := by omega
  have h4 : ((((kidsAt l l.length i)[x] : Nat) : Int) < (r.length : Int)) := by omega
  have hvk := hv _ hk
  have t1 := sm_take_le (f := lo9 r) (ks := kidsAt l l.length i) (B := 1000000000) (fun k hk' => by have := hv k (hkm k hk'); omega) (x + 1)
  have t2 := sm_take_le (f := hi9 r) (ks := kidsAt l l.length i) (B := 1000000000) (fun k hk' => by have := hv k (hkm k hk'); omega) (x + 1)
  have hb1 : sm (lo9 r) (kidsAt l l.length i) ≤ 200000000000 := hb.1.2
  have hb2 : sm (hi9 r) (kidsAt l l.length i) ≤ 200000000000 := hb.2.2
  refine Ev.step ?_
  simp only [cohousingref28_equation.l0, h1, h2, if_true, rd_ofNat _ _ hxl, h3, h4, wrap_nat (show x ≤ 140737488355328 by omega)]
  have e1 : wrap64 (sm (lo9 r) ((kidsAt l l.length i).take x) + (rd_T38 r (((kidsAt l l.length i)[x] : Nat) : Int)).f0) = sm (lo9 r) ((kidsAt l l.length i).take (x + 1)) := by
   have w1 : (rd_T38 r (((kidsAt l l.length i)[x] : Nat) : Int)).f0 = lo9 r (kidsAt l l.length i)[x] := rfl
   rw [w1, ← take_sm _ _ _ hxl, wrap_id (by omega) (by omega)]
  have e2 : wrap64 (sm (hi9 r) ((kidsAt l l.length i).take x) + (rd_T38 r (((kidsAt l l.length i)[x] : Nat) : Int)).f1) = sm (hi9 r) ((kidsAt l l.length i).take (x + 1)) := by
   have w1 : (rd_T38 r (((kidsAt l l.length i)[x] : Nat) : Int)).f1 = hi9 r (kidsAt l l.length i)[x] := rfl
   rw [w1, ← take_sm _ _ _ hxl, wrap_id (by omega) (by omega)]
  rw [e1, e2]
  exact ih (x + 1) (by omega)
theorem eq_f (hok : okL l) (hn : l.length ≤ 200) (hr : r.length = l.length) (hv : Vol l.length (lo9 r) (hi9 r)) (hi : i < l.length) :
  Ev (fun k => cohousingref28_equation.f k l r (i : Int) ((kidsAt l l.length i).map Int.ofNat)) ((List.range l.length).map (eqAt l r i)) :=
 eq_l0 hok hn hr hv hi (kidsAt l l.length i).length 0 (by omega)
theorem rr_map (f : Nat → RG) (n j : Nat) (h : j < n) : rr ((List.range n).map f) j = f j := by
 simp [rr, rd_T38, List.getD_eq_getElem?_getD, h]
end
end Go.Proofs.Ythjjabcbngffoaa.P
end
section
namespace Go.Proofs.Ythjjabcbngffoaa.P
open Go.RowKit Go.Proofs.YthjjabcbngffoaaW.PrintWords Go.Proofs.YthjjabcbngffoaaW.PrintLast Go.Proofs.YthjjabcbngffoaaW.PrintMore Go.Proofs.YthjjabcbngffoaaH Go.Proofs.FlowTree
open Classical
section
variable {l : List PI}
def Done (l : List PI) (r : List RG) (p : Nat) : Prop := kidsAt l l.length p ≠ [] → (sL l r p ≤ lo9 r p ∧ hi9 r p ≤ sH l r p + loP l p) ∧
 ∀ k ∈ kidsAt l l.length p, lo9 r p - loP l p - (sH l r p - hi9 r k) ≤ lo9 r k ∧ hi9 r k ≤ hi9 r p - (sL l r p - lo9 r k)
structure Narrow (l : List PI) (r e : List RG) : Prop where
 len : e.length = l.length
 rng : ∀ j, j < l.length → lo9 r j ≤ lo9 e j ∧ hi9 e j ≤ hi9 r j
 sol : ∀ x, Sol (netT l) (lo9 r) (hi9 r) x → Sol (netT l) (lo9 e) (hi9 e) x
theorem Narrow.refl {r : List RG} (h : r.length = l.length) : Narrow l r r := ⟨h, fun _ _ => ⟨Int.le_refl _, Int.le_refl _⟩, fun _ hx => hx⟩
theorem Narrow.trans {r e f : List RG} (h : Narrow l r e) (h' : Narrow l e f) : Narrow l r f :=
 ⟨h'.len, fun j hj => by have := h.rng j hj; have := h'.rng j hj; omega, fun x hx => h'.sol x (h.sol x hx)⟩
def Dead (l : List PI) (e : List RG) : Prop := ∃ j, j < l.length ∧ hi9 e j < lo9 e j
theorem vol_not_dead {e : List RG} (h : Vol l.length (lo9 e) (hi9 e)) : ¬ Dead l e := fun ⟨j, hj, hd⟩ => by have := h j hj; omega
theorem dead_no_sol {e : List RG} (h : Dead l e) : ¬ ∃ x, Sol (netT l) (lo9 e) (hi9 e) x := fun ⟨x, hx⟩ => by
 obtain ⟨j, hj, hd⟩ := h
 have := hx.1 j hj
 omega
theorem eq_step (hok : okL l) (hn : l.length ≤ 200) {r : List RG} (hr : r.length = l.length) (hv : Vol l.length (lo9 r) (hi9 r)) {i : Nat} (hi : i < l.length) (hne : kidsAt l l.length i ≠ []) :
  Narrow l r ((List.range l.length).map (eqAt l r i)) ∧ (Dead l ((List.range l.length).map (eqAt l r i)) ∨ Vol l.length (lo9 ((List.range l.length).map (eqAt l r i))) (hi9 ((List.range l.length).map (eqAt l r i)))) ∧
   (((List.range l.length).map (eqAt l r i)) = r → Done l r i) := by
 have hT := netT_ok hok
 have hvi := hv i hi
 have hlo := (hok i hi).2.2.1
 have hat : ∀ j, j < l.length → rr ((List.range l.length).map (eqAt l r i)) j = eqAt l r i j := fun j hj => rr_map _ _ j hj
 obtain ⟨e, he⟩ : ∃ e, e = (List.range l.length).map (eqAt l r i) := ⟨_, rfl⟩
 rw [← he] at hat ⊢
 have hlen : e.length = l.length := by rw [he, List.length_map, List.length_range]
 have hkid : ∀ k ∈ kidsAt l l.length i, i < k ∧ k < l.length := fun k hk' => hT.lt i k hk'
 have hkid' : ∀ k, k < l.length → (i < k ∧ abP l k = idP l i) → k ∈ kidsAt l l.length i := fun k hk h => kidsAt_mem.2 ⟨hk, h.1, h.2⟩
 have hown : lo9 e i = ownA l r i ∧ hi9 e i = ownB l r i := by
  have := hat i hi
  unfold eqAt at this
  rw [if_pos rfl] at this
  exact ⟨by unfold lo9; rw [this], by unfold hi9; rw [this]⟩
 have hk : ∀ k ∈ kidsAt l l.length i, lo9 e k = max (lo9 r k) (ownA l r i - loP l i - (sH l r i - hi9 r k)) ∧ hi9 e k = min (hi9 r k) (ownB l r i - (sL l r i - lo9 r k)) := by
  intro k hk'
  have hm := kidsAt_mem.1 hk'
  have := hat k (hkid k hk').2
  unfold eqAt at this
  rw [if_neg (by omega), if_pos ⟨hm.2.1, hm.2.2⟩] at this
  exact ⟨by unfold lo9; rw [this]; rfl, by unfold hi9; rw [this]; rfl⟩
 have hsame : ∀ j, j < l.length → j ≠ i → j ∉ kidsAt l l.length i → lo9 e j = lo9 r j ∧ hi9 e j = hi9 r j := by
  intro j hj h1 h2
  have := hat j hj
  unfold eqAt at this
  rw [if_neg h1, if_neg (fun h => h2 (hkid' j hj h))] at this
  exact ⟨by unfold lo9; rw [this], by unfold hi9; rw [this]⟩
 have hsplit : ∀ k ∈ kidsAt l l.length i, ∃ a b, sL l r i = lo9 r k + sm (lo9 r) (a ++ b) ∧ sH l r i = hi9 r k + sm (hi9 r) (a ++ b) ∧ (∀ x, sm x (kidsAt l l.length i) = x k + sm x (a ++ b)) ∧ (∀ q ∈ a ++ b, q ∈ kidsAt l l.length i) := by
  intro k hk'
  obtain ⟨a, b, hab, _⟩ := sm_split (lo9 r) hk'
  have hx : ∀ x : Nat → Int, sm x (kidsAt l l.length i) = x k + sm x (a ++ b) := fun x => by rw [hab, sm_append, sm_append, sm_cons]; omega
  refine ⟨a, b, hx _, hx _, hx, fun q hq => ?_⟩
  rw [hab]
  rcases List.mem_append.1 hq with h' | h'
  ·exact List.mem_append.2 (.inl h')
  ·exact List.mem_append.2 (.inr (List.mem_cons_of_mem _ h'))
 have hnar : Narrow l r e := by
  refine ⟨hlen, fun j hj => ?_, fun x hx => ⟨fun j hj => ?_, hx.2⟩⟩
  ·by_cases h1 : j = i
   ·subst h1
    rw [hown.1, hown.2]
    unfold ownA ownB
    omega
   ·by_cases h2 : j ∈ kidsAt l l.length i
    ·have := hk j h2; omega
    ·have := hsame j hj h1 h2; omega
  ·have hxj := hx.1 j hj
   have hxi := hx.1 i hi
   have h4 := hx.2 i hi hne
   simp only [netT] at h4
   have l1 : sL l r i ≤ sm x (kidsAt l l.length i) := sm_le (fun q hq => (hx.1 q (hkid q hq).2).1)
   have l2 : sm x (kidsAt l l.length i) ≤ sH l r i := sm_le (fun q hq => (hx.1 q (hkid q hq).2).2)
   have ho : ownA l r i ≤ x i ∧ x i ≤ ownB l r i := by unfold ownA ownB; omega
   by_cases h1 : j = i
   ·subst h1
    rw [hown.1, hown.2]
    exact ho
   ·by_cases h2 : j ∈ kidsAt l l.length i
    ·obtain ⟨a, b, e1, e2, e3, hq⟩ := hsplit j h2
     have e4 := e3 x
     have m1 : sm (lo9 r) (a ++ b) ≤ sm x (a ++ b) := sm_le (fun q h => (hx.1 q (hkid q (hq q h)).2).1)
     have m2 : sm x (a ++ b) ≤ sm (hi9 r) (a ++ b) := sm_le (fun q h => (hx.1 q (hkid q (hq q h)).2).2)
     have := hk j h2
     omega
    ·have := hsame j hj h1 h2; omega
 refine ⟨hnar, ?_, fun hee => ?_⟩
 ·by_cases hd : ownA l r i ≤ ownB l r i
  ·refine .inr (fun j hj => ?_)
   have hvj := hv j hj
   have hoA : lo9 r i ≤ ownA l r i ∧ sL l r i ≤ ownA l r i := by unfold ownA; omega
   have hoB : ownB l r i ≤ hi9 r i ∧ ownB l r i ≤ sH l r i + loP l i := by unfold ownB; omega
   by_cases h1 : j = i
   ·subst h1
    rw [hown.1, hown.2]
    omega
   ·by_cases h2 : j ∈ kidsAt l l.length i
    ·obtain ⟨a, b, e1, e2, e3, hq⟩ := hsplit j h2
     have m1 : sm (lo9 r) (a ++ b) ≤ sm (hi9 r) (a ++ b) := sm_le (fun q h => (hv q (hkid q (hq q h)).2).2.1)
     have := hk j h2
     omega
    ·have := hsame j hj h1 h2; omega
  ·exact .inl ⟨i, hi, by rw [hown.1, hown.2]; omega⟩
 ·intro _
  have h1 : lo9 r i = ownA l r i ∧ hi9 r i = ownB l r i := by rw [← hown.1, ← hown.2, hee]; exact ⟨rfl, rfl⟩
  refine ⟨?_, fun k hk' => ?_⟩
  ·unfold ownA ownB at h1
   omega
  ·have h2 := hk k hk'
   rw [hee] at h2
   omega
structure OnceAt (l : List PI) (r : List RG) (m : Nat) (e : List RG) : Prop where
 nar : Narrow l r e
 now : Dead l e ∨ Vol l.length (lo9 e) (hi9 e)
 fix : Vol l.length (lo9 e) (hi9 e) → e = r → ∀ p, p < m → Done l r p
theorem nil_len (l : List PI) (p : Nat) (h : kidsAt l l.length p = []) : ∀ r, Done l r p := fun _ hc => absurd h hc
theorem once_dead (hn : l.length ≤ 200) {r : List RG} (hr : r.length = l.length) (hd : Dead l r) : ∀ m, m ≤ l.length → Ev (fun k => cohousingref28_once.l0 k l r ((m : Int) - 1)) r := by
 intro m
 induction m with
 | zero =>
  intro _
  have h1 : ¬ (((0 : Nat) : Int) - 1 ≥ 0) := by omega
  refine Ev.step ?_
  simp only [cohousingref28_once.l0, h1, if_false]
  exact Ev.pure _
 | succ m ih =>
  intro hm
  have e : ((m + 1 : Nat) : Int) - 1 = (m : Int) := by omega
  have h1 : ((m : Int) ≥ 0) := by omega
  have e2 : wrap64 ((m : Int) - 1) = (m : Int) - 1 := wrap_id (by omega) (by omega)
  rw [e]
  refine Ev.step ?_
  simp only [cohousingref28_once.l0, h1, if_true, e2]
  refine Ev.bnd (below_f' l hn m (by omega)) ?_
  have hem := empty_f r (by omega)
  rw [decide_eq_true (show ∃ j, j < r.length ∧ (rr r j).f1 < (rr r j).f0 from by
   obtain ⟨j, hj, h⟩ := hd
   exact ⟨j, by omega, h⟩)] at hem
  by_cases hc : (((kidsAt l l.length m).map Int.ofNat).length : Int) > 0
  ·simp only [hc, if_true]
   refine Ev.bnd hem ?_
   simp only [if_true]
   exact ih (by omega)
  ·simp only [hc, if_false]
   exact ih (by omega)
theorem once_l0 (hok : okL l) (hn : l.length ≤ 200) : ∀ m, m ≤ l.length → ∀ r : List RG, r.length = l.length → Vol l.length (lo9 r) (hi9 r) → ∃ e, Ev (fun k => cohousingref28_once.l0 k l r ((m : Int) - 1)) e ∧ OnceAt l r m e := by
 intro m
 induction m with
 | zero =>
  intro _ r hr hv
  refine ⟨r, ?_, ⟨Narrow.refl hr, .inr hv, fun _ _ p hp => absurd hp (Nat.not_lt_zero _)⟩⟩
  have h1 : ¬ (((0 : Nat) : Int) - 1 ≥ 0) := by omega
  refine Ev.step ?_
  simp only [cohousingref28_once.l0, h1, if_false]
  exact Ev.pure _
 | succ m ih =>
  intro hm r hr hv
  have e : ((m + 1 : Nat) : Int) - 1 = (m : Int) := by omega
  have h1 : ((m : Int) ≥ 0) := by omega
  have e2 : wrap64 ((m : Int) - 1) = (m : Int) - 1 := wrap_id (by omega) (by omega)
  have hem := empty_f r (by omega)
  rw [decide_eq_false (show ¬ ∃ j, j < r.length ∧ (rr r j).f1 < (rr r j).f0 from by
   rintro ⟨j, hj, h⟩
   exact vol_not_dead hv ⟨j, by omega, h⟩)] at hem
  rw [e]
  by_cases hne : kidsAt l l.length m = []
  ·obtain ⟨e', he', ho⟩ := ih (by omega) r hr hv
   refine ⟨e', Ev.step ?_, ⟨ho.nar, ho.now, fun hv' hee p hp => ?_⟩⟩
   ·simp only [cohousingref28_once.l0, h1, if_true, e2]
    refine Ev.bnd (below_f' l hn m (by omega)) ?_
    have hc : ¬ (((kidsAt l l.length m).map Int.ofNat).length : Int) > 0 := by rw [hne]; simp
    simp only [hc, if_false]
    exact he'
   ·by_cases h' : p < m
    ·exact ho.fix hv' hee p h'
    ·rw [show p = m by omega]; exact nil_len l m hne r
  ·have hst := eq_step hok hn hr hv (i := m) (by omega) hne
   obtain ⟨q, hq⟩ : ∃ q, q = (List.range l.length).map (eqAt l r m) := ⟨_, rfl⟩
   rw [← hq] at hst
   have hqf := eq_f hok hn hr hv (i := m) (by omega)
   rw [← hq] at hqf
   have hrest : ∃ e', Ev (fun k => cohousingref28_once.l0 k l q ((m : Int) - 1)) e' ∧ OnceAt l q m e' := by
    rcases hst.2.1 with hd | hv'
    ·exact ⟨q, once_dead hn hst.1.len hd m (by omega), Narrow.refl hst.1.len, .inl hd, fun hv2 _ => absurd hd (vol_not_dead hv2)⟩
    ·exact ih (by omega) q hst.1.len hv'
   obtain ⟨e', he', ho⟩ := hrest
   refine ⟨e', Ev.step ?_, ⟨hst.1.trans ho.nar, ho.now, fun hv' hee p hp => ?_⟩⟩
   ·simp only [cohousingref28_once.l0, h1, if_true, e2]
    refine Ev.bnd (below_f' l hn m (by omega)) ?_
    have hc : (((kidsAt l l.length m).map Int.ofNat).length : Int) > 0 := by
     have := List.length_pos_iff.2 hne
     rw [List.length_map]; omega
    simp only [hc, if_true]
    refine Ev.bnd hem ?_
    simp only [Bool.false_eq_true, if_false]
    exact Ev.bnd hqf he'
   ·have hqr : q = r := by
     apply rr_ext (by rw [hst.1.len, hr])
     intro j hj
     rw [hst.1.len] at hj
     have a1 := hst.1.rng j hj
     have a2 := ho.nar.rng j hj
     rw [hee] at a2
     have b1 : lo9 q j = lo9 r j := by omega
     have b2 : hi9 q j = hi9 r j := by omega
     unfold lo9 at b1
     unfold hi9 at b2
     cases h1 : rr q j
     cases h2 : rr r j
     rw [h1, h2] at b1 b2
     simp only at b1 b2
     rw [b1, b2]
    by_cases h' : p < m
    ·have := ho.fix hv' (hee.trans hqr.symm) p h'
     rw [hqr] at this
     exact this
    ·rw [show p = m by omega]
     exact hst.2.2 hqr
theorem once_f (hok : okL l) (hn : l.length ≤ 200) (r : List RG) (hr : r.length = l.length) (hv : Vol l.length (lo9 r) (hi9 r)) : ∃ e, Ev (fun k => cohousingref28_once.f k l r) e ∧ OnceAt l r l.length e := by
 obtain ⟨e, he, ho⟩ := once_l0 hok hn l.length (Nat.le_refl _) r hr hv
 refine ⟨e, ?_, ho⟩
 unfold cohousingref28_once.f
 rw [wrap_id (by omega) (by omega)]
 exact he
def wide (n : Nat) (e : List RG) : Nat := (List.range n).foldl (fun s j => s + (hi9 e j - lo9 e j).toNat) 0
theorem wide_succ (n : Nat) (e : List RG) : wide (n + 1) e = wide n e + (hi9 e n - lo9 e n).toNat := by
 unfold wide
 rw [List.range_succ, List.foldl_append]
 rfl
theorem wide_le (r e : List RG) : ∀ n, (∀ j, j < n → lo9 r j ≤ lo9 e j ∧ hi9 e j ≤ hi9 r j) → wide n e ≤ wide n r := by
 intro n
 induction n with
 | zero => intro _; exact Nat.le_refl _
 | succ n ih =>
  intro h
  rw [wide_succ, wide_succ]
  have h1 := ih (fun j hj => h j (by omega))
  have h2 := h n (by omega)
  omega
theorem wide_lt (r e : List RG) : ∀ n, (∀ j, j < n → lo9 r j ≤ lo9 e j ∧ hi9 e j ≤ hi9 r j ∧ lo9 e j ≤ hi9 e j) → (∃ j, j < n ∧ (lo9 r j ≠ lo9 e j ∨ hi9 r j ≠ hi9 e j)) → wide n e < wide n r := by
 intro n
 induction n with
 | zero => rintro _ ⟨j, hj, _⟩; omega
 | succ n ih =>
  rintro h ⟨j, hj, hd⟩
  rw [wide_succ, wide_succ]
  have h2 := h n (by omega)
  by_cases hjn : j < n
  ·have h1 := ih (fun j hj => h j (by omega)) ⟨j, hjn, hd⟩
   omega
  ·have e1 : j = n := by omega
   subst e1
   have h1 := wide_le r e j (fun j hj => by have := h j (by omega); omega)
   omega
theorem bounds_l0 (hok : okL l) (hn : l.length ≤ 200) : ∀ (μ : Nat) (r : List RG), wide l.length r = μ → r.length = l.length → Vol l.length (lo9 r) (hi9 r) →
  (Ev (fun k => cohousingref28_bounds.l0 k l r) ([], false) ∧ ¬ ∃ x, Sol (netT l) (lo9 r) (hi9 r) x) ∨
  (∃ d, Ev (fun k => cohousingref28_bounds.l0 k l r) (d, true) ∧ Narrow l r d ∧ Vol l.length (lo9 d) (hi9 d) ∧ ∀ p, p < l.length → Done l d p) := by
 intro μ
 induction μ using Nat.strongRecOn with
 | ind μ ih =>
  intro r hμ hr hv
  obtain ⟨e, he, ho⟩ := once_f hok hn r hr hv
  have hem := empty_f e (by have := ho.nar.len; omega)
  have hsf := same_f e r (by have := ho.nar.len; omega)
  rcases ho.now with hd | hv'
  ·refine .inl ⟨Ev.step ?_, fun ⟨x, hx⟩ => dead_no_sol hd ⟨x, ho.nar.sol x hx⟩⟩
   rw [decide_eq_true (show ∃ j, j < e.length ∧ (rr e j).f1 < (rr e j).f0 from by
    obtain ⟨j, hj, h⟩ := hd
    exact ⟨j, by rw [ho.nar.len]; exact hj, h⟩)] at hem
   simp only [cohousingref28_bounds.l0]
   refine Ev.bnd he (Ev.bnd hem ?_)
   simp only [if_true]
   exact Ev.pure _
  ·rw [decide_eq_false (show ¬ ∃ j, j < e.length ∧ (rr e j).f1 < (rr e j).f0 from by
    rintro ⟨j, hj, h⟩
    exact vol_not_dead hv' ⟨j, by rw [← ho.nar.len]; exact hj, h⟩)] at hem
   by_cases hee : e = r
   ·rw [decide_eq_true hee] at hsf
    refine .inr ⟨e, Ev.step ?_, ho.nar, hv', fun p hp => by rw [hee]; exact ho.fix hv' hee p hp⟩
    simp only [cohousingref28_bounds.l0]
    refine Ev.bnd he (Ev.bnd hem ?_)
    simp only [Bool.false_eq_true, if_false]
    refine Ev.bnd hsf ?_
    simp only [if_true]
    exact Ev.pure _
   ·rw [decide_eq_false hee] at hsf
    have hlt : wide l.length e < μ := by
     rw [← hμ]
     refine wide_lt r e l.length (fun j hj => by have := ho.nar.rng j hj; have := hv' j hj; omega) ?_
     by_cases hex : ∃ j, j < l.length ∧ (lo9 r j ≠ lo9 e j ∨ hi9 r j ≠ hi9 e j)
     ·exact hex
     ·refine absurd (rr_ext (by rw [ho.nar.len, hr]) (fun j hj => ?_)) hee
      rw [ho.nar.len] at hj
      have b1 : lo9 e j = lo9 r j := by
       by_cases h : lo9 r j = lo9 e j
       ·exact h.symm
       ·exact absurd ⟨j, hj, .inl h⟩ hex
      have b2 : hi9 e j = hi9 r j := by
       by_cases h : hi9 r j = hi9 e j
       ·exact h.symm
       ·exact absurd ⟨j, hj, .inr h⟩ hex
      unfold lo9 at b1
      unfold hi9 at b2
      cases h1 : rr e j
      cases h2 : rr r j
      rw [h1, h2] at b1 b2
      simp only at b1 b2
      rw [b1, b2]
    have hrest : ∀ R, Ev (fun k => cohousingref28_bounds.l0 k l e) R → Ev (fun k => cohousingref28_bounds.l0 k l r) R := fun R hR => by
     refine Ev.step ?_
     simp only [cohousingref28_bounds.l0]
     refine Ev.bnd he (Ev.bnd hem ?_)
     simp only [Bool.false_eq_true, if_false]
     refine Ev.bnd hsf ?_
     simp only [Bool.false_eq_true, if_false]
     exact hR
    rcases ih (wide l.length e) hlt e rfl ho.nar.len hv' with ⟨h1, h2⟩ | ⟨d, h1, h2, h3, h4⟩
    ·exact .inl ⟨hrest _ h1, fun ⟨x, hx⟩ => h2 ⟨x, ho.nar.sol x hx⟩⟩
    ·exact .inr ⟨d, hrest _ h1, ho.nar.trans h2, h3, h4⟩
end
end Go.Proofs.Ythjjabcbngffoaa.P
end
section
namespace Go.Proofs.Ythjjabcbngffoaa.P
open Go.RowKit Go.Proofs.YthjjabcbngffoaaW.PrintWords Go.Proofs.YthjjabcbngffoaaW.PrintLast Go.Proofs.YthjjabcbngffoaaW.PrintMore Go.Proofs.YthjjabcbngffoaaH Go.Proofs.FlowTree
open Classical
theorem Lo_map (r : List RG) : Lo (r.map toI) = lo9 r := funext (fun i => Lo_toI r i)
theorem Hi_map (r : List RG) : Hi (r.map toI) = hi9 r := funext (fun i => Hi_toI r i)
theorem rr_toR (d : List IV) (i : Nat) : rr (d.map toR) i = toR (rv d i) := by
 simp only [rv, rr, rd_T85, rd_T38, Int.toNat_natCast, List.getD_eq_getElem?_getD, List.getElem?_map]
 cases d[i]? <;> rfl
theorem belongs_iff (n : Nat) (r : List RG) : belongsB n r = true ↔ r.length = n ∧ Vol n (lo9 r) (hi9 r) := by
 unfold belongsB
 rw [Bool.and_eq_true, decide_eq_true_eq, Bool.not_eq_true', List.any_eq_false]
 constructor
 ·rintro ⟨h1, h2⟩
  refine ⟨h1, fun j hj => ?_⟩
  have hj' : j < r.length := by omega
  have := h2 r[j] (List.getElem_mem hj')
  simp only [oddR, Bool.not_eq_true, decide_eq_false_iff_not, Decidable.not_not] at this
  have e : rr r j = r[j] := by simp [rr, rd_T38, List.getD_eq_getElem?_getD, hj']
  unfold lo9 hi9
  rw [e]
  omega
 ·rintro ⟨h1, h2⟩
  refine ⟨h1, fun x hx => ?_⟩
  obtain ⟨j, hj, rfl⟩ := List.mem_iff_getElem.1 hx
  have := h2 j (by omega)
  have e : rr r j = r[j] := by simp [rr, rd_T38, List.getD_eq_getElem?_getD, hj]
  unfold lo9 hi9 at this
  rw [e] at this
  simp only [oddR, Bool.not_eq_true, decide_eq_false_iff_not, Decidable.not_not]
  omega
structure Good (l : List PI) (r : List RG) : Prop where
 ok : okL l
 n : l.length ≤ 200
 len : r.length = l.length
 vol : Vol l.length (lo9 r) (hi9 r)
theorem good_iff (l : List PI) (r : List RG) : Good l r ↔ (okL l ∧ l.length ≤ 200) ∧ belongsB l.length r = true := by
 rw [belongs_iff]
 exact ⟨fun h => ⟨⟨h.ok, h.n⟩, h.len, h.vol⟩, fun h => ⟨h.1.1, h.1.2, h.2.1, h.2.2⟩⟩
theorem netOk_some {l : List PI} (h : okL l) (hn : l.length ≤ 200) : ∃ kids, netOk l = some kids ∧ ∀ j, j < l.length → rdK kids j = (kidsAt l l.length j).map Int.ofNat := by
 obtain ⟨kids, hk⟩ := openK_of h
 exact ⟨kids, by unfold netOk; rw [if_pos hn, hk], (openK_some hk).2⟩
theorem netOk_none {l : List PI} (h : ¬ (okL l ∧ l.length ≤ 200)) : netOk l = none := by
 unfold netOk
 by_cases hn : l.length ≤ 200
 ·rw [if_pos hn]
  cases ho : openK l with
  | none => rfl
  | some kids => exact absurd ⟨(openK_some ho).1, hn⟩ h
 ·rw [if_neg hn]
theorem exact_uniq {l : List PI} {lo hi : Nat → Int} {d : List IV} (h : Exact l lo hi d) {e : List RG} (he : e.length = l.length) (hs : ∀ x, Sol (netT l) lo hi x → ∀ j, j < l.length → lo9 e j ≤ x j ∧ x j ≤ hi9 e j)
  (hv : Vol l.length (lo9 e) (hi9 e)) (hh : ∀ j, j < l.length → ∀ v, lo9 e j ≤ v → v ≤ hi9 e j → ∃ x, Sol (netT l) lo hi x ∧ x j = v) : e = d.map toR := by
 apply rr_ext (by rw [he, List.length_map, h.len])
 intro j hj
 rw [he] at hj
 have hd := h.rng j hj
 have hvj := hv j hj
 obtain ⟨x1, s1, e1⟩ := h.had j hj (Lo d j) (by omega) (by omega)
 obtain ⟨x2, s2, e2⟩ := h.had j hj (Hi d j) (by omega) (by omega)
 obtain ⟨x3, s3, e3⟩ := hh j hj (lo9 e j) (by omega) (by omega)
 obtain ⟨x4, s4, e4⟩ := hh j hj (hi9 e j) (by omega) (by omega)
 have a1 := hs x1 s1 j hj
 have a2 := hs x2 s2 j hj
 have a3 := h.sol x3 s3 j hj
 have a4 := h.sol x4 s4 j hj
 rw [rr_toR]
 have b1 : (rr e j).f0 = (rv d j).f0 := by unfold lo9 at *; unfold Lo at *; unfold hi9 at *; unfold Hi at *; omega
 have b2 : (rr e j).f1 = (rv d j).f1 := by unfold lo9 at *; unfold Lo at *; unfold hi9 at *; unfold Hi at *; omega
 unfold toR
 rw [← b1, ← b2]
section
variable {l : List PI} {kids : List (List Int)}
theorem ref_bounds (hok : okL l) (hn : l.length ≤ 200) (hk : ∀ j, j < l.length → rdK kids j = (kidsAt l l.length j).map Int.ofNat) {r : List RG} (hr : r.length = l.length) (hv : Vol l.length (lo9 r) (hi9 r)) :
  ((boundsF l kids (r.map toI)).1 = false ∧ (¬ ∃ x, Sol (netT l) (lo9 r) (hi9 r) x) ∧ Ev (fun k => cohousingref28_bounds.f k l r) ([], false)) ∨
  ((boundsF l kids (r.map toI)).1 = true ∧ Exact l (lo9 r) (hi9 r) (boundsF l kids (r.map toI)).2 ∧ Ev (fun k => cohousingref28_bounds.f k l r) ((boundsF l kids (r.map toI)).2.map toR, true)) := by
 have hb := boundsF_spec hok hn hk (r := r.map toI) (by rw [List.length_map, hr]) (by rw [Lo_map, Hi_map]; exact hv)
 rw [Lo_map, Hi_map] at hb
 have href := bounds_l0 hok hn (wide l.length r) r rfl hr hv
 rcases hb with ⟨b1, b2⟩ | ⟨b1, b2⟩
 ·refine .inl ⟨b1, b2, ?_⟩
  rcases href with ⟨h1, _⟩ | ⟨d, h1, h2, h3, h4⟩
  ·exact h1
  ·exfalso
   by_cases hz : 0 < l.length
   ·obtain ⟨x, hx, _⟩ := exact (netT l) (netT_ok hok) (lo9 d) (hi9 d) (lo9 d) (hi9 d) (fun i hi => (h3 i hi).2.1) (fun i hi hne => (h4 i hi hne).1) (fun i hi => ⟨Int.le_refl _, (h3 i hi).2.1, Int.le_refl _⟩)
     (fun i hi k hk' => (h4 i hi (fun hh => by simp only [netT] at hk'; rw [hh] at hk'; cases hk')).2 k hk') 0 hz (lo9 d 0) (Int.le_refl _) (h3 0 hz).2.1
    exact b2 ⟨x, fun i hi => by have := hx.1 i hi; have := h2.rng i hi; omega, hx.2⟩
   ·exact b2 ⟨fun _ => 0, fun i hi => absurd hi (by simp only [netT]; omega), fun i hi => absurd hi (by simp only [netT]; omega)⟩
 ·refine .inr ⟨b1, b2, ?_⟩
  rcases href with ⟨_, h2⟩ | ⟨d, h1, h2, h3, h4⟩
  ·exfalso
   by_cases hz : 0 < l.length
   ·obtain ⟨x, hx, _⟩ := b2.had 0 hz (Lo _ 0) (Int.le_refl _) (b2.rng 0 hz).2.1
    exact h2 ⟨x, hx⟩
   ·exact h2 ⟨fun _ => 0, fun i hi => absurd hi (by simp only [netT]; omega), fun i hi => absurd hi (by simp only [netT]; omega)⟩
  ·have e := exact_uniq b2 (e := d) h2.len (fun x hx => (h2.sol x hx).1) h3 (fun j hj v hv1 hv2 => by
    obtain ⟨x, hx, hxv⟩ := exact (netT l) (netT_ok hok) (lo9 d) (hi9 d) (lo9 d) (hi9 d) (fun i hi => (h3 i hi).2.1) (fun i hi hne => (h4 i hi hne).1) (fun i hi => ⟨Int.le_refl _, (h3 i hi).2.1, Int.le_refl _⟩)
     (fun i hi k hk' => (h4 i hi (fun hh => by simp only [netT] at hk'; rw [hh] at hk'; cases hk')).2 k hk') j hj v hv1 hv2
    exact ⟨x, ⟨fun i hi => by have := hx.1 i hi; have := h2.rng i hi; omega, hx.2⟩, hxv⟩)
   rw [← e]
   exact h1
end
inductive BoundsIs (l : List PI) (r : List RG) : List RG × Int → Prop
 | arg : ¬ Good l r → BoundsIs l r ([], 1)
 | flow : Good l r → (¬ ∃ x, Sol (netT l) (lo9 r) (hi9 r) x) → BoundsIs l r ([], 30)
 | ok (d : List IV) : Good l r → Exact l (lo9 r) (hi9 r) d → BoundsIs l r (d.map toR, 0)
theorem boundsR_is (l : List PI) (r : List RG) : BoundsIs l r (boundsR l r) := by
 unfold boundsR
 by_cases hg : Good l r
 ·obtain ⟨kids, h1, h2⟩ := netOk_some hg.ok hg.n
  rw [h1]
  simp only []
  rw [if_pos ((good_iff l r).1 hg).2]
  rcases ref_bounds hg.ok hg.n h2 hg.len hg.vol with ⟨b1, b2, _⟩ | ⟨b1, b2, _⟩
  ·rw [if_neg (by rw [b1]; decide)]
   exact .flow hg b2
  ·rw [if_pos b1]
   exact .ok _ hg b2
 ·have hno := fun h => hg ((good_iff l r).2 h)
  by_cases hv : okL l ∧ l.length ≤ 200
  ·obtain ⟨kids, h1, h2⟩ := netOk_some hv.1 hv.2
   rw [h1]
   simp only []
   rw [if_neg (fun h => hno ⟨hv, h⟩)]
   exact .arg hg
  ·rw [netOk_none hv]
   exact .arg hg
end Go.Proofs.Ythjjabcbngffoaa.P
end
section
namespace Go.Proofs.Ythjjabcbngffoaa.P
open Go.RowKit Go.Proofs.YthjjabcbngffoaaW.PrintWords Go.Proofs.YthjjabcbngffoaaW.PrintLast Go.Proofs.YthjjabcbngffoaaW.PrintMore Go.Proofs.YthjjabcbngffoaaH Go.Proofs.FlowTree
open Classical
abbrev fx (x : List Int) (j : Nat) : Int := rd x (j : Int)
theorem okIn_iff (r : List RG) (x : List Int) (i : Nat) : okIn r x i = true ↔ lo9 r i ≤ fx x i ∧ fx x i ≤ hi9 r i := by
 unfold okIn lo9 hi9 fx rr
 simp only [Bool.and_eq_true, Bool.not_eq_true', decide_eq_false_iff_not]
 omega
theorem mk_map (x : List Int) (j : Nat) : (rv (x.map mkI) j).f0 = fx x j := by
 simp only [rv, rd_T85, fx, rd, Int.toNat_natCast, List.getD_eq_getElem?_getD, List.getElem?_map]
 cases x[j]? <;> rfl
section
variable {l : List PI} {kids : List (List Int)}
theorem lost_eq (hn : l.length ≤ 200) (hk : ∀ j, j < l.length → rdK kids j = (kidsAt l l.length j).map Int.ofNat) {x : List Int} (hx : ∀ j, j < l.length → 0 ≤ fx x j ∧ fx x j ≤ 1000000000) {i : Nat} (hi : i < l.length) :
  (belowI kids (x.map mkI) i).length = (kidsAt l l.length i).length ∧ lostI kids x i = fx x i - sm (fx x) (kidsAt l l.length i) := by
 have hkm : ∀ k ∈ kidsAt l l.length i, k < l.length := fun k hk' => (kidsAt_mem.1 hk').1
 have hbl := kids_len l i
 have hb := sm_bound (f := fx x) (ks := kidsAt l l.length i) (a := 0) (b := 1000000000) (fun k hk' => hx k (hkm k hk'))
 have hxi := hx i hi
 unfold lostI
 rw [below_eq hk _ i hi, List.length_map]
 refine ⟨rfl, ?_⟩
 rw [total_eq _ _ _ (by omega) (fun k hk' => by rw [mk_map]; exact hx k (hkm k hk'))]
 rw [sm_congr (f := fun k => (rv (x.map mkI) k).f0) (g := fx x) (fun k _ => mk_map x k)]
 show wrap64 (fx x i - sm (fx x) (kidsAt l l.length i)) = _
 exact wrap_id (by omega) (by omega)
theorem okEq_iff (hn : l.length ≤ 200) (hk : ∀ j, j < l.length → rdK kids j = (kidsAt l l.length j).map Int.ofNat) {x : List Int} (hx : ∀ j, j < l.length → 0 ≤ fx x j ∧ fx x j ≤ 1000000000) {i : Nat} (hi : i < l.length) :
  okEq l kids x i = true ↔ (netT l).eq (fx x) i := by
 have h := lost_eq hn hk hx hi
 unfold okEq Net.eq
 rw [h.1, h.2]
 simp only [netT, Bool.or_eq_true, Bool.and_eq_true, Bool.not_eq_true', decide_eq_true_eq, decide_eq_false_iff_not]
 constructor
 ·rintro (h1 | h1) hne
  ·exact absurd (List.length_eq_zero_iff.1 h1) hne
  ·unfold loP; omega
 ·intro h1
  by_cases hne : kidsAt l l.length i = []
  ·exact .inl (by rw [hne]; rfl)
  ·have := h1 hne
   unfold loP at this
   exact .inr (by omega)
theorem cons_sol {r : List RG} (hg : Good l r) (hk : ∀ j, j < l.length → rdK kids j = (kidsAt l l.length j).map Int.ofNat) (x : List Int) :
  ((List.range l.length).all (okIn r x) && (List.range l.length).all (okEq l kids x)) = decide (Sol (netT l) (lo9 r) (hi9 r) (fx x)) := by
 by_cases hin : ∀ i, i < l.length → lo9 r i ≤ fx x i ∧ fx x i ≤ hi9 r i
 ·have hx : ∀ j, j < l.length → 0 ≤ fx x j ∧ fx x j ≤ 1000000000 := fun j hj => by have := hin j hj; have := hg.vol j hj; omega
  rw [all_true (fun i hi => (okIn_iff r x i).2 (hin i hi)), Bool.true_and]
  by_cases heq : ∀ i, i < l.length → (netT l).eq (fx x) i
  ·rw [all_true (fun i hi => (okEq_iff hg.n hk hx hi).2 (heq i hi)), decide_eq_true ⟨hin, heq⟩]
  ·rw [decide_eq_false (fun h => heq h.2)]
   have hex : ∃ i, i < l.length ∧ ¬ (netT l).eq (fx x) i := by
    apply Classical.byContradiction
    intro hc
    exact heq (fun i hi => Classical.byContradiction (fun h => hc ⟨i, hi, h⟩))
   obtain ⟨i, hi, hne⟩ := hex
   exact all_false hi (by rw [Bool.eq_false_iff]; exact fun h => hne ((okEq_iff hg.n hk hx hi).1 h))
 ·rw [decide_eq_false (fun h => hin h.1)]
  have hex : ∃ i, i < l.length ∧ ¬ (lo9 r i ≤ fx x i ∧ fx x i ≤ hi9 r i) := by
   apply Classical.byContradiction
   intro hc
   exact hin (fun i hi => Classical.byContradiction (fun h => hc ⟨i, hi, h⟩))
  obtain ⟨i, hi, hne⟩ := hex
  rw [all_false hi (by rw [Bool.eq_false_iff]; exact fun h => hne ((okIn_iff r x i).1 h)), Bool.false_and]
end
theorem consR_is (l : List PI) (r : List RG) (x : List Int) : consR l r x = if Good l r ∧ x.length = l.length then (decide (Sol (netT l) (lo9 r) (hi9 r) (fx x)), 0) else (false, 1) := by
 unfold consR
 by_cases hg : Good l r
 ·obtain ⟨kids, h1, h2⟩ := netOk_some hg.ok hg.n
  rw [h1]
  simp only []
  rw [if_pos ((good_iff l r).1 hg).2]
  by_cases hx : x.length = l.length
  ·rw [if_pos hx, if_pos ⟨hg, hx⟩, cons_sol hg h2]
  ·rw [if_neg hx, if_neg (fun h => hx h.2)]
 ·rw [if_neg (fun h => hg h.1)]
  have hno := fun h => hg ((good_iff l r).2 h)
  by_cases hv : okL l ∧ l.length ≤ 200
  ·obtain ⟨kids, h1, h2⟩ := netOk_some hv.1 hv.2
   rw [h1]
   simp only []
   rw [if_neg (fun h => hno ⟨hv, h⟩)]
  ·rw [netOk_none hv]
section
variable {l : List PI} {r : List RG} {x : List Int}
end
end Go.Proofs.Ythjjabcbngffoaa.P
end
section
namespace Go.Proofs.Ythjjabcbngffoaa.P
open Go.RowKit Go.Proofs.YthjjabcbngffoaaW.PrintWords Go.Proofs.YthjjabcbngffoaaW.PrintLast Go.Proofs.YthjjabcbngffoaaW.PrintMore Go.Proofs.YthjjabcbngffoaaH Go.Proofs.FlowTree
open Classical
theorem gcd5_l0 : ∀ (b a k : Nat), b < k → cohousingref05_gcd.l0 k (a : Int) (b : Int) = some ((Nat.gcd a b : Nat) : Int) := by
 intro b
 induction b using Nat.strongRecOn with
 | ind b ih =>
  intro a k hk
  obtain ⟨k, rfl⟩ : ∃ m, k = m + 1 := ⟨k - 1, by omega⟩
  simp only [cohousingref05_gcd.l0]
  by_cases h : b = 0
  ·subst h
   rw [if_neg (by omega), Nat.gcd_zero_right]
  ·rw [if_pos (by omega), if_neg (by omega), show Int.tmod (a : Int) (b : Int) = ((a % b : Nat) : Int) from by rw [Int.tmod_eq_emod_of_nonneg (by omega)]; rfl]
   rw [ih (a % b) (Nat.mod_lt _ (by omega)) b k (by have := Nat.mod_lt a (show 0 < b by omega); omega)]
   rw [Nat.gcd_comm a b, Nat.gcd_rec b a, Nat.gcd_comm]
theorem common1_l0 : ∀ (b a k : Nat), b < k → cohousingref01_common.l0 k (a : Int) (b : Int) = some ((Nat.gcd a b : Nat) : Int) := by
 intro b
 induction b using Nat.strongRecOn with
 | ind b ih =>
  intro a k hk
  obtain ⟨k, rfl⟩ : ∃ m, k = m + 1 := ⟨k - 1, by omega⟩
  simp only [cohousingref01_common.l0]
  by_cases h : b = 0
  ·subst h
   rw [if_pos (by rfl), Nat.gcd_zero_right]
  ·rw [if_neg (by omega), show Int.tmod (a : Int) (b : Int) = ((a % b : Nat) : Int) from by rw [Int.tmod_eq_emod_of_nonneg (by omega)]; rfl]
   rw [ih (a % b) (Nat.mod_lt _ (by omega)) b k (by have := Nat.mod_lt a (show 0 < b by omega); omega)]
   rw [Nat.gcd_comm a b, Nat.gcd_rec b a, Nat.gcd_comm]
theorem u64_id {n : Int} (h0 : 0 ≤ n) (h1 : n ≤ 9223372036854775807) : IntKind.u64.wrap n = n := by
 simp only [IntKind.wrap, IntKind.signed, IntKind.bits, Bool.false_and, Bool.false_eq_true, if_false]
 omega
theorem size1_f {n : Int} (h0 : 0 ≤ n) (h1 : n ≤ 1000000000) : cohousingref01_size.f n = some n := by
 unfold cohousingref01_size.f
 rw [if_neg (by omega), u64_id h0 (by omega)]
theorem valid1_f {n d : Nat} (h1 : 1 ≤ d) (h2 : d ≤ 1000000000) (h3 : n ≤ d) (hg : Nat.gcd n d = 1) : Ev (fun k => cohousingref01_Valid.f k (n : Int) (d : Int)) true := by
 unfold cohousingref01_Valid.f
 have e1 : ¬ ((d : Int) < 1) := by omega
 simp only [e1, if_false]
 have hm : Ev (fun k => cohousingref01_Make.f k (n : Int) (d : Int)) ((n : Int), (d : Int), 0) := by
  unfold cohousingref01_Make.f
  have e2 : ¬ ((d : Int) = 0) := by omega
  have hcm : Ev (fun k => cohousingref01_common.f k (n : Int) (d : Int)) 1 := ⟨d + 1, fun k hk => by show cohousingref01_common.l0 k (n : Int) (d : Int) = some 1; rw [common1_l0 d n k (by omega), hg]; rfl⟩
  simp only [e2, if_false, size1_f (show 0 ≤ (n : Int) by omega) (by omega), size1_f (show 0 ≤ (d : Int) by omega) (by omega), Option.bind_some]
  refine Ev.bnd hcm ?_
  have e3 : ¬ ((1 : Int) = 0) := by omega
  have e4 : Int.tdiv (n : Int) 1 = n := Int.tdiv_one _
  have e5 : Int.tdiv (d : Int) 1 = d := Int.tdiv_one _
  have e6 : ¬ ((n : Int) > 1000000000) := by omega
  have e7 : decide ((d : Int) > 1000000000) = false := decide_eq_false (by omega)
  have e8 : decide ((n : Int) < 0) = false := decide_eq_false (by omega)
  have e9 : decide ((d : Int) < 0) = false := decide_eq_false (by omega)
  simp only [e3, if_false, e4, e5, u64_id (show 0 ≤ (n : Int) by omega) (by omega), u64_id (show 0 ≤ (d : Int) by omega) (by omega), e6, e7]
  refine Ev.step ?_
  simp only [cohousingref01_Make.j0, Bool.false_eq_true, if_false, e8, e9, bne_self_eq_false, wrap_id' (show -9223372036854775808 ≤ (n : Int) by omega) (by omega), wrap_id' (show -9223372036854775808 ≤ (d : Int) by omega) (by omega)]
  exact Ev.pure _
 refine Ev.bnd hm ?_
 simp only [if_true, beq_self_eq_true, Bool.and_self]
 exact Ev.pure _
theorem amount2_f {c : Int} (h0 : -1000000000 ≤ c) (h1 : c ≤ 1000000000) : cohousingref02_Amount.f c = some true := by
 unfold cohousingref02_Amount.f
 simp [h0, h1]
theorem scale2_f {c : Int} {n d : Nat} (hc : 0 ≤ c) (hc1 : c ≤ 1000000000) (h1 : 1 ≤ d) (h2 : d ≤ 1000000000) (h3 : n ≤ d) (hg : Nat.gcd n d = 1) : Ev (fun k => cohousingref02_Scale.f k c (n : Int) (d : Int)) ((2 * (c * n) + d) / (2 * d), 0) := by
 have hcn0 : 0 ≤ c * n := Int.mul_nonneg hc (by omega)
 have hcn1 : c * n ≤ 1000000000 * d := Int.le_trans (Int.mul_le_mul_of_nonneg_right hc1 (by omega)) (Int.mul_le_mul_of_nonneg_left (by omega) (by omega))
 unfold cohousingref02_Scale.f
 simp only [amount2_f (show -1000000000 ≤ c by omega) hc1, Option.bind_some]
 refine Ev.bnd (valid1_f h1 h2 h3 hg) ?_
 simp only [if_true, Bool.not_true]
 have w1 : wrap64 (c * n) = c * n := wrap_id' (by omega) (by omega)
 have e1 : ¬ ((d : Int) = 0) := by omega
 have e2 : Int.tmod (c * n) d = (c * n) % d := Int.tmod_eq_emod_of_nonneg hcn0
 have e3 : Int.tdiv (c * n) d = (c * n) / d := Int.tdiv_eq_ediv_of_nonneg hcn0
 have hr0 : 0 ≤ (c * n) % d := Int.emod_nonneg _ (by omega)
 have hr1 : (c * n) % d < d := Int.emod_lt_of_pos _ (by omega)
 have hdm : (d : Int) * ((c * n) / d) + (c * n) % d = c * n := Int.mul_ediv_add_emod _ _
 obtain ⟨q, hq⟩ : ∃ q, q = (c * n) / d := ⟨_, rfl⟩
 obtain ⟨r, hr⟩ : ∃ r, r = (c * n) % d := ⟨_, rfl⟩
 have hq0 : 0 ≤ q := by rw [hq]; exact Int.ediv_nonneg hcn0 (by omega)
 have hq1 : q ≤ 1000000000 := by
  have : q < 1000000001 := by rw [hq]; exact Int.ediv_lt_of_lt_mul (by omega) (by omega)
  omega
 rw [← hq, ← hr] at hdm
 rw [← hr] at hr0 hr1
 have hres : (2 * (c * n) + d) / (2 * d) = if 2 * r ≥ d then q + 1 else q := by
  have e : 2 * (c * n) + d = (2 * r + d) + (2 * d) * q := by
   rw [← hdm, Int.mul_add, Int.mul_assoc]; omega
  rw [e, Int.add_mul_ediv_left _ _ (by omega)]
  split
  ·rw [show (2 * r + d) / (2 * (d : Int)) = 1 from by rw [show 2 * r + d = (2 * r - d) + (2 * (d : Int)) * 1 by omega, Int.add_mul_ediv_left _ _ (by omega), Int.ediv_eq_zero_of_lt (by omega) (by omega)]; rfl]; omega
  ·rw [Int.ediv_eq_zero_of_lt (by omega) (by omega)]; omega
 have hfin : (if 2 * r ≥ (d : Int) then q + 1 else q) ≤ 1000000000 ∧ 0 ≤ (if 2 * r ≥ (d : Int) then q + 1 else q) := by
  have hb0 : 0 ≤ (2 * (c * n) + d) / (2 * d) := Int.ediv_nonneg (by omega) (by omega)
  have hb1 : (2 * (c * n) + d) / (2 * d) < 1000000001 := Int.ediv_lt_of_lt_mul (by omega) (by omega)
  rw [hres] at hb0 hb1
  omega
 rw [hres]
 refine Ev.step ?_
 have w2 : wrap64 q = q := wrap_id' (by omega) (by omega)
 have e4 : ¬ (r < 0) := by omega
 simp only [cohousingref02_Scale.j0, Bool.false_eq_true, if_false, e1, w1, e2, e3, ← hr, ← hq, w2, e4]
 refine Ev.step ?_
 simp only [cohousingref02_Scale.j1, Bool.false_eq_true, if_false]
 refine Ev.step ?_
 have w3 : wrap64 (2 * r) = 2 * r := wrap_id' (by omega) (by omega)
 by_cases c1 : 2 * r ≥ (d : Int)
 ·rw [if_pos c1] at hfin ⊢
  have c2 : r > 0 := by omega
  have w4 : wrap64 (q + 1) = q + 1 := wrap_id' (by omega) (by omega)
  have c3 : decide (2 * r ≥ (d : Int)) = true := decide_eq_true c1
  simp only [cohousingref02_Scale.j2, c2, if_true, w3, c3]
  refine Ev.step ?_
  simp only [cohousingref02_Scale.j3, if_true, w4, amount2_f (show -1000000000 ≤ q + 1 by omega) hfin.1, Option.bind_some]
  exact Ev.pure _
 ·rw [if_neg c1] at hfin ⊢
  have c3 : decide (2 * r ≥ (d : Int)) = false := decide_eq_false c1
  have hj : Ev (fun k => cohousingref02_Scale.j3 k q false) (q, 0) := by
   refine Ev.step ?_
   simp only [cohousingref02_Scale.j3, Bool.false_eq_true, if_false, amount2_f (show -1000000000 ≤ q by omega) hq1, Option.bind_some, if_true]
   exact Ev.pure _
  by_cases c2 : r > 0
  ·simp only [cohousingref02_Scale.j2, c2, if_true, w3, c3]
   exact hj
  ·simp only [cohousingref02_Scale.j2, c2, if_false]
   exact hj
theorem right_ref {c t v : Int} (hc : 0 ≤ c) (hc1 : c ≤ 1000000000) (ht : 1 ≤ t) (ht1 : t ≤ 1000000000) (hv0 : 0 ≤ v) (hv : v ≤ t) : Ev (fun k => cohousingref29_Right.f k c t v) (rightV c t v) := by
 obtain ⟨t, rfl⟩ := Int.eq_ofNat_of_zero_le (show 0 ≤ t by omega)
 obtain ⟨v, rfl⟩ := Int.eq_ofNat_of_zero_le hv0
 obtain ⟨a, ha⟩ : ∃ a, a = Nat.gcd v t := ⟨_, rfl⟩
 have ha0 : 0 < a := by rw [ha]; exact Nat.gcd_pos_of_pos_right _ (by omega)
 have dt : a ∣ t := by rw [ha]; exact Nat.gcd_dvd_right _ _
 have dv : a ∣ v := by rw [ha]; exact Nat.gcd_dvd_left _ _
 obtain ⟨n, hn⟩ := dv
 obtain ⟨d, hd⟩ := dt
 have en : Int.tdiv (v : Int) (a : Int) = (n : Int) := by rw [Int.tdiv_eq_ediv_of_nonneg (by omega), hn]; exact_mod_cast Nat.mul_div_cancel_left n ha0
 have ed : Int.tdiv (t : Int) (a : Int) = (d : Int) := by rw [Int.tdiv_eq_ediv_of_nonneg (by omega), hd]; exact_mod_cast Nat.mul_div_cancel_left d ha0
 have hd0 : 0 < d := Nat.pos_of_ne_zero (fun e => by rw [e] at hd; omega)
 have hdt : d ≤ t := by rw [hd]; exact Nat.le_mul_of_pos_left d ha0
 have hnd : n ≤ d := Nat.le_of_mul_le_mul_left (by rw [← hn, ← hd]; omega) ha0
 have hco : Nat.gcd n d = 1 := by
  have : a * Nat.gcd n d = a * 1 := by rw [← Nat.gcd_mul_left, ← hn, ← hd, ← ha]; omega
  exact Nat.eq_of_mul_eq_mul_left ha0 this
 have hrv : rightV c t v = (2 * (c * n) + d) / (2 * d) := by
  unfold rightV
  rw [hn, hd]
  have e1 : 2 * (c * ((a * n : Nat) : Int)) + ((a * d : Nat) : Int) = (a : Int) * (2 * (c * n) + d) := by
   rw [Int.natCast_mul, Int.natCast_mul, Int.mul_add, ← Int.mul_assoc c, Int.mul_comm c (a : Int), Int.mul_assoc (a : Int) c, ← Int.mul_assoc 2, Int.mul_comm 2 (a : Int), Int.mul_assoc (a : Int) 2]
  have e2 : 2 * ((a * d : Nat) : Int) = (a : Int) * (2 * d) := by
   rw [Int.natCast_mul, ← Int.mul_assoc, Int.mul_comm 2 (a : Int), Int.mul_assoc]
  rw [e1, e2, Int.mul_ediv_mul_of_pos _ _ (by omega)]
 rw [hrv]
 have hg : Ev (fun k => cohousingref05_gcd.f k (v : Int) (t : Int)) (a : Int) := ⟨t + 1, fun k hk => by show cohousingref05_gcd.l0 k (v : Int) (t : Int) = some (a : Int); rw [gcd5_l0 t v k (by omega), ha]⟩
 have hred : Ev (fun k => cohousingref05_Reduce.f k (v : Int) (t : Int)) ((n : Int), (d : Int)) := by
  unfold cohousingref05_Reduce.f
  have e1 : ¬ ((v : Int) < 0) := by omega
  simp only [e1, if_false]
  refine Ev.bnd hg ?_
  have e2 : ¬ ((a : Int) = 0) := by omega
  simp only [e2, if_false, en, ed, wrap_id' (show -9223372036854775808 ≤ (n : Int) by omega) (by omega), wrap_id' (show -9223372036854775808 ≤ (d : Int) by omega) (by omega)]
  exact Ev.pure _
 unfold cohousingref29_Right.f
 refine Ev.bnd hred ?_
 refine Ev.bnd (scale2_f hc hc1 (by omega) (by omega) hnd hco) ?_
 exact Ev.pure _
end Go.Proofs.Ythjjabcbngffoaa.P
end
section
namespace Go.Proofs.Ythjjabcbngffoaa.P
open Go.RowKit Go.Proofs.YthjjabcbngffoaaW.PrintWords Go.Proofs.YthjjabcbngffoaaW.PrintLast Go.Proofs.YthjjabcbngffoaaW.PrintMore Go.Proofs.YthjjabcbngffoaaH Go.Proofs.FlowTree
open Classical
theorem leaf_ev (p : List PI) (hn : p.length ≤ 200) (i : Nat) (hi : i < p.length) : Ev (fun k => cohousingref28_Leaf.f k p (i : Int)) (decide (kidsAt p p.length i = [])) := by
 unfold cohousingref28_Leaf.f
 refine Ev.bnd (below_f' p hn i hi) ?_
 have e : ((((kidsAt p p.length i).map Int.ofNat).length : Int) == 0) = decide (kidsAt p p.length i = []) := by
  rw [List.length_map]
  cases h : kidsAt p p.length i with
  | nil => simp
  | cons a s => simp; omega
 rw [e]
 exact Ev.pure _
def leavesN (l : List PI) (m : Nat) : List Nat := (List.range m).filter (fun j => decide (kidsAt l l.length j = []))
theorem leavesN_succ (l : List PI) (m : Nat) : leavesN l (m + 1) = leavesN l m ++ (if kidsAt l l.length m = [] then [m] else []) := by
 unfold leavesN
 rw [List.range_succ, List.filter_append]
 congr 1
 by_cases h : kidsAt l l.length m = [] <;> simp [h]
theorem leavesN_len (l : List PI) (m : Nat) : (leavesN l m).length ≤ m := by
 unfold leavesN
 have := List.length_filter_le (fun j => decide (kidsAt l l.length j = [])) (List.range m)
 rw [List.length_range] at this
 exact this
theorem leavesN_mem {l : List PI} {m j : Nat} : j ∈ leavesN l m ↔ j < m ∧ kidsAt l l.length j = [] := by simp [leavesN]
theorem abv_iff {l : List PI} (hok : okL l) {j : Nat} (hj : j < l.length) : abvB l l.length (idP l j) = true ↔ kidsAt l l.length j ≠ [] := by
 unfold abvB
 rw [List.any_eq_true]
 constructor
 ·rintro ⟨i, hi, h⟩ hnil
  have hi' := List.mem_range.1 hi
  have h' : idP l j = abP l i := of_decide_eq_true h
  obtain ⟨j', hj', e⟩ := (hok i hi').2.2.2 (by have := (hok j hj).1; rw [← h']; omega)
  have : j' = j := id_inj (m := l.length) hok (by omega) hj (by rw [e, h'])
  have hm : i ∈ kidsAt l l.length j := kidsAt_mem.2 ⟨hi', by omega, h'.symm⟩
  rw [hnil] at hm
  cases hm
 ·intro hne
  cases hk : kidsAt l l.length j with
  | nil => exact absurd hk hne
  | cons i is =>
   have hm : i ∈ kidsAt l l.length j := by rw [hk]; simp
   have := kidsAt_mem.1 hm
   exact ⟨i, List.mem_range.2 this.1, decide_eq_true this.2.2.symm⟩
theorem parts_at {l : List PI} (hok : okL l) (bs : List RGE) : ∀ m, m ≤ l.length → partsN l bs m = (leavesN l m).map (qq bs) := by
 intro m
 induction m with
 | zero => intro _; rfl
 | succ m ih =>
  intro hm
  have e : partsN l bs (m + 1) = if abvB l l.length (idP l m) = true then partsN l bs m else partsN l bs m ++ [⟨(qq bs m).f0, (qq bs m).f1⟩] := foldl_rng _ _ _
  rw [e, ih (by omega), leavesN_succ]
  by_cases h : kidsAt l l.length m = []
  ·rw [if_neg (fun h2 => (abv_iff hok (by omega)).1 h2 h), if_pos h, List.map_append]
   rfl
  ·rw [if_pos ((abv_iff hok (by omega)).2 h), if_neg h, List.append_nil]
theorem leaves_l0 (l : List PI) (hn : l.length ≤ 200) : ∀ d i : Nat, i + d = l.length → Ev (fun k => cohousingref29_Leaves.l0 k l ((leavesN l i).map Int.ofNat) (i : Int)) ((leavesN l l.length).map Int.ofNat) := by
 intro d
 induction d with
 | zero =>
  intro i hi
  have e : i = l.length := by omega
  subst e
  have h1 : ¬ ((l.length : Int) < (l.length : Int)) := by omega
  refine Ev.step ?_
  simp only [cohousingref29_Leaves.l0, h1, if_false]
  exact Ev.pure _
 | succ d ih =>
  intro i hi
  have h1 : ((i : Int) < (l.length : Int)) := by omega
  have h2 : ((leavesN l i).map Int.ofNat).length < 17592186044416 := by rw [List.length_map]; have := leavesN_len l i; omega
  have hw := wrap_nat (show i ≤ 140737488355328 by omega)
  refine Ev.step ?_
  simp only [cohousingref29_Leaves.l0, h1, if_true]
  refine Ev.bnd (leaf_ev l hn i (by omega)) ?_
  have := ih (i + 1) (by omega)
  rw [leavesN_succ] at this
  by_cases h : kidsAt l l.length i = []
  ·rw [decide_eq_true h]
   rw [if_pos h, List.map_append] at this
   simp only [if_true, h2, hw]
   exact this
  ·rw [decide_eq_false h]
   rw [if_neg h, List.append_nil] at this
   simp only [Bool.false_eq_true, if_false, hw]
   exact this
theorem leaves_ev (l : List PI) (hn : l.length ≤ 200) : Ev (fun k => cohousingref29_Leaves.f k l) ((leavesN l l.length).map Int.ofNat) := leaves_l0 l hn l.length 0 (by omega)
theorem roots_at (l : List PI) (hn : l.length ≤ 5864062014805) : ∀ i, i ≤ l.length → 0 ≤ rootsN l i ∧ rootsN l i ≤ i ∧ (i < l.length → rootsN l (i + 1) = rootsN l i + if abP l i = 0 then 1 else 0) := by
 intro i
 have step : ∀ i, i < l.length → 0 ≤ rootsN l i → rootsN l i ≤ i → rootsN l (i + 1) = rootsN l i + if abP l i = 0 then 1 else 0 := by
  intro i hi h0 h1
  have e : rootsN l (i + 1) = if abP l i = 0 then wrap64 (rootsN l i + 1) else rootsN l i := foldl_rng _ _ _
  rw [e]
  split
  ·rw [wrap_id' (by omega) (by omega)]
  ·omega
 induction i with
 | zero => intro _; exact ⟨Int.le_refl _, Int.le_refl _, fun h => step 0 h (Int.le_refl _) (Int.le_refl _)⟩
 | succ i ih =>
  intro hi
  obtain ⟨h0, h1, h2⟩ := ih (by omega)
  have h3 := h2 (by omega)
  have hb : 0 ≤ rootsN l (i + 1) ∧ rootsN l (i + 1) ≤ ((i + 1 : Nat) : Int) := by rw [h3]; split <;> omega
  exact ⟨hb.1, hb.2, fun h => step (i + 1) h hb.1 hb.2⟩
theorem roots_mono (l : List PI) (hn : l.length ≤ 5864062014805) : ∀ d i, i + d ≤ l.length → rootsN l i ≤ rootsN l (i + d) := by
 intro d
 induction d with
 | zero => intro i _; exact Int.le_refl _
 | succ d ih =>
  intro i h
  have h1 := ih i (by omega)
  have h2 := (roots_at l hn (i + d) (by omega)).2.2 (by omega)
  rw [show i + (d + 1) = i + d + 1 by omega, h2]
  split <;> omega
theorem tot_succ (l : List PI) (bs : List RGE) (i : Nat) : totN l bs (i + 1) = if abP l i = 0 then ⟨(qq bs i).f0, (qq bs i).f1⟩ else totN l bs i := foldl_rng _ _ _
def RootOf (l : List PI) (i : Nat) (r : Int) : Prop := (rootsN l i = 0 ∧ r = -1) ∨ (rootsN l i = 1 ∧ ∃ m : Nat, m < i ∧ r = (m : Int) ∧ abP l m = 0 ∧ ∀ bs : List RGE, totN l bs i = qq bs m)
theorem root_l0 (l : List PI) (hn : l.length ≤ 5864062014805) : ∀ (d i : Nat) (r0 : Int), i + d = l.length → RootOf l i r0 → ∃ r, Ev (fun k => cohousingref29_Root.l0 k l r0 (i : Int)) r ∧ ((rootsN l l.length ≠ 1 ∧ r = -1) ∨ RootOf l l.length r) := by
 intro d
 induction d with
 | zero =>
  intro i r0 hi h
  have e : i = l.length := by omega
  subst e
  have h1 : ¬ ((l.length : Int) < (l.length : Int)) := by omega
  refine ⟨r0, Ev.step ?_, .inr h⟩
  simp only [cohousingref29_Root.l0, h1, if_false]
  exact Ev.pure _
 | succ d ih =>
  intro i r0 hi h
  have h1 : ((i : Int) < (l.length : Int)) := by omega
  have h2 : (0 : Int) ≤ (i : Int) := by omega
  have hw := wrap_nat (show i ≤ 140737488355328 by omega)
  have hs := (roots_at l hn i (by omega)).2.2 (by omega)
  have q : (rd_T63 l (i : Int)).f1 = abP l i := rfl
  by_cases c : abP l i = 0
  ·rw [if_pos c] at hs
   rcases h with ⟨h0, rfl⟩ | ⟨h0, m, hm, rfl, hab, htot⟩
   ·have e1 : ¬ ((-1 : Int) ≥ 0) := by omega
    obtain ⟨r, hr, hR⟩ := ih (i + 1) (i : Int) (by omega) (.inr ⟨by omega, i, Nat.lt_succ_self _, rfl, c, fun bs => by rw [tot_succ, if_pos c]⟩)
    refine ⟨r, Ev.step ?_, hR⟩
    simp only [cohousingref29_Root.l0, h1, h2, if_true, q, c, e1, if_false, hw]
    exact hr
   ·have e1 : ((m : Int) ≥ 0) := by omega
    have hmo := roots_mono l hn (l.length - (i + 1)) (i + 1) (by omega)
    rw [show i + 1 + (l.length - (i + 1)) = l.length by omega] at hmo
    refine ⟨-1, Ev.step ?_, .inl ⟨by omega, rfl⟩⟩
    simp only [cohousingref29_Root.l0, h1, h2, if_true, q, c, e1]
    exact Ev.pure _
  ·rw [if_neg c] at hs
   obtain ⟨r, hr, hR⟩ := ih (i + 1) r0 (by omega) (by
    rcases h with ⟨h0, h'⟩ | ⟨h0, m, hm, h', hab, htot⟩
    ·exact .inl ⟨by omega, h'⟩
    ·exact .inr ⟨by omega, m, by omega, h', hab, fun bs => by rw [tot_succ, if_neg c, htot]⟩)
   refine ⟨r, Ev.step ?_, hR⟩
   simp only [cohousingref29_Root.l0, h1, h2, if_true, q, c, if_false, hw]
   exact hr
theorem root_ev (l : List PI) (hn : l.length ≤ 5864062014805) : ∃ r, Ev (fun k => cohousingref29_Root.f k l) r ∧ ((rootsN l l.length ≠ 1 ∧ r = -1) ∨ (rootsN l l.length = 1 ∧ ∃ m : Nat, m < l.length ∧ r = (m : Int) ∧ abP l m = 0 ∧ ∀ bs : List RGE, totN l bs l.length = qq bs m)) := by
 obtain ⟨r, hr, h⟩ := root_l0 l hn l.length 0 (-1) (by omega) (.inl ⟨rfl, rfl⟩)
 refine ⟨r, hr, ?_⟩
 rcases h with h | h | h
 ·exact .inl h
 ·exact .inl ⟨by rw [h.1]; decide, h.2⟩
 ·exact .inr h
theorem qq_toR (d : List IV) (j : Nat) : qq (d.map toR) j = toR (rv d j) := rr_toR d j
structure NetOk (c : Int) (l : List PI) (known : List RG) (homes : List Int) (q : List CH × Int × Int) (d : List IV) (m : Nat) (p : List CH × Int) : Prop where
 good : Good l known
 bounds : boundsR l known = (d.map toR, 0)
 exact : Exact l (lo9 known) (hi9 known) d
 root : m < l.length
 one : rootsN l l.length = 1
 tot : ∀ bs : List RGE, totN l bs l.length = qq bs m
 same : Lo d m = Hi d m
 pos : 1 ≤ Lo d m
 parts : PartsOk c (Lo d m) ((leavesN l l.length).map (fun j => toR (rv d j)))
 low : LowAt homes c (Lo d m) ((leavesN l l.length).map (fun j => toR (rv d j))) ((leavesN l l.length).map (fun j => toR (rv d j))).length p
 flow : ¬ Lo d m < leastN ((leavesN l l.length).map (fun j => toR (rv d j))) ((leavesN l l.length).map (fun j => toR (rv d j))).length
 res : q = (p.1, c - p.2, 0)
theorem network_ok {c : Int} {l : List PI} {known : List RG} {homes : List Int} (h : (networkC c l known homes).2.2 = 0) : ∃ d m p, NetOk c l known homes (networkC c l known homes) d m p := by
 have hb := boundsR_is l known
 have e0 : (1 : Int) ≠ 0 := by decide
 have e30 : (30 : Int) ≠ 0 := by decide
 generalize hq : boundsR l known = q at hb
 cases hb with
 | arg _ =>
  have : networkC c l known homes = ([], 0, 1) := by unfold networkC; rw [hq, if_neg e0]
  rw [this] at h
  exact absurd h e0
 | flow _ _ =>
  have : networkC c l known homes = ([], 0, 30) := by unfold networkC; rw [hq, if_neg e30]
  rw [this] at h
  exact absurd h e30
 | ok d hg hd =>
  have e1 : networkC c l known homes = (if c < 0 ∨ 1000000000 < c ∨ rootsN l l.length ≠ 1 ∨ homes.length ≠ (partsN l (d.map toR) l.length).length ∨ homesB 0 homes = false then ([], 0, 1)
    else if (totN l (d.map toR) l.length).f0 ≠ (totN l (d.map toR) l.length).f1 ∨ (totN l (d.map toR) l.length).f0 = 0 then ([], 0, 3)
    else shareC c (totN l (d.map toR) l.length).f0 homes (partsN l (d.map toR) l.length)) := by unfold networkC; rw [hq, if_pos rfl]
  rw [e1] at h ⊢
  by_cases c1 : c < 0 ∨ 1000000000 < c ∨ rootsN l l.length ≠ 1 ∨ homes.length ≠ (partsN l (d.map toR) l.length).length ∨ homesB 0 homes = false
  ·rw [if_pos c1] at h; exact absurd h e0
  rw [if_neg c1] at h ⊢
  by_cases c2 : (totN l (d.map toR) l.length).f0 ≠ (totN l (d.map toR) l.length).f1 ∨ (totN l (d.map toR) l.length).f0 = 0
  ·rw [if_pos c2] at h; exact absurd h (by decide)
  rw [if_neg c2] at h ⊢
  have hr1 : rootsN l l.length = 1 := Classical.byContradiction fun hn => c1 (.inr (.inr (.inl hn)))
  obtain ⟨r, _, hR⟩ := root_ev l (by have := hg.n; omega)
  rcases hR with ⟨hne, _⟩ | ⟨_, m, hm, _, hab, htot⟩
  ·exact absurd hr1 hne
  rw [htot, qq_toR] at c2
  have hs : Lo d m = Hi d m := Classical.byContradiction fun hn => c2 (.inl hn)
  have hz : ¬ Lo d m = 0 := fun hn => c2 (.inr hn)
  have hrng := hd.rng m hm
  rw [parts_at hg.ok _ _ (Nat.le_refl _), htot, qq_toR] at h ⊢
  have eP : (leavesN l l.length).map (qq (d.map toR)) = (leavesN l l.length).map (fun j => toR (rv d j)) := List.map_congr_left (fun j _ => qq_toR d j)
  rw [eP] at h ⊢
  have et : (toR (rv d m)).f0 = Lo d m := rfl
  rw [et] at h ⊢
  have hsh := shareC_is c (Lo d m) homes ((leavesN l l.length).map (fun j => toR (rv d j)))
  generalize hq2 : shareC c (Lo d m) homes ((leavesN l l.length).map (fun j => toR (rv d j))) = q2 at hsh h ⊢
  cases hsh with
  | arg _ => exact absurd h e0
  | flow _ _ _ _ => exact absurd h e30
  | ok p hp _ _ hl hlow _ => exact ⟨d, m, p, hg, hq, hd, hm, hr1, htot, hs, by omega, hp, hlow, hl, rfl⟩
end Go.Proofs.Ythjjabcbngffoaa.P
end
section
namespace Go.Proofs.Ythjjabcbngffoaa.P
open Go.RowKit Go.Proofs.YthjjabcbngffoaaW.PrintWords Go.Proofs.YthjjabcbngffoaaW.PrintLast Go.Proofs.YthjjabcbngffoaaW.PrintMore Go.Proofs.YthjjabcbngffoaaH Go.Proofs.FlowTree
open Classical
theorem gB_f {l : List PI} {r : List RG} (hl : l.length ≤ 200) (hr : r.length ≤ 200) : flow_Bounds.f l r = some (boundsR l r) := by unfold flow_Bounds.f; rw [if_pos ⟨by omega, by omega⟩]
theorem gC_f {l : List PI} {r : List RG} {x : List Int} (hl : l.length ≤ 200) (hr : r.length ≤ 200) (hx : x.length ≤ 200) : flow_Consistent.f l r x = some (consR l r x) := by unfold flow_Consistent.f; rw [if_pos ⟨by omega, by omega, by omega⟩]
theorem gN_f {c : Int} {l : List PI} {r : List RG} {h : List Int} (hl : l.length ≤ 200) (hr : r.length ≤ 200) : charges_Network.f c l r h = some (networkC c l r h) := by unfold charges_Network.f; rw [if_pos ⟨by omega, by omega⟩]
section
variable {c : Int} {l : List PI} {known : List RG} {homes : List Int} {q : List CH × Int × Int} {d : List IV} {m : Nat} {p : List CH × Int}
def lf (l : List PI) (i : Nat) : Nat := (leavesN l l.length).getD i 0
theorem lf_rd (l : List PI) {i : Nat} (h : i < (leavesN l l.length).length) : rd ((leavesN l l.length).map Int.ofNat) (i : Int) = (lf l i : Int) := by
 rw [rd_ofNat _ _ h]
 simp [lf, List.getD_eq_getElem?_getD, h]
theorem lf_lt (l : List PI) {i : Nat} (h : i < (leavesN l l.length).length) : lf l i < l.length := by
 have : lf l i ∈ leavesN l l.length := by simp [lf, List.getD_eq_getElem?_getD, h]
 exact (leavesN_mem.1 this).1
theorem parts_q (l : List PI) (d : List IV) {i : Nat} (h : i < (leavesN l l.length).length) : qq ((leavesN l l.length).map (fun j => toR (rv d j))) i = toR (rv d (lf l i)) := by
 simp [qq, rd_T38, lf, List.getD_eq_getElem?_getD, h]
theorem parts_b (l : List PI) (d : List IV) (c t : Int) {i : Nat} (h : i < (leavesN l l.length).length) : bLo c t ((leavesN l l.length).map (fun j => toR (rv d j))) i = rightV c t (Lo d (lf l i)) ∧ bHi c t ((leavesN l l.length).map (fun j => toR (rv d j))) i = rightV c t (Hi d (lf l i)) := by
 unfold bLo bHi
 rw [parts_q l d h]
 exact ⟨rfl, rfl⟩
theorem right_at (h : NetOk c l known homes q d m p) {x : List Int} (hx : Sol (netT l) (lo9 known) (hi9 known) (fx x)) {i : Nat} (hi : i < (leavesN l l.length).length) :
  fx x m = Lo d m ∧ Lo d (lf l i) ≤ fx x (lf l i) ∧ fx x (lf l i) ≤ Hi d (lf l i) ∧ 0 ≤ Lo d (lf l i) ∧ Hi d (lf l i) ≤ Lo d m ∧ Ev (fun k => cohousingref29_Right.f k c (fx x m) (fx x (lf l i))) (rightV c (Lo d m) (fx x (lf l i))) := by
 have h1 := h.exact.sol (fx x) hx m h.root
 have h2 := h.exact.sol (fx x) hx (lf l i) (lf_lt l hi)
 have h3 := h.same
 have h4 := h.parts.2.2.2.2.2 i (by rw [List.length_map]; exact hi)
 rw [parts_q l d hi] at h4
 have h5 : (toR (rv d (lf l i))).f0 = Lo d (lf l i) := rfl
 have h6 : (toR (rv d (lf l i))).f1 = Hi d (lf l i) := rfl
 rw [h5, h6] at h4
 have e : fx x m = Lo d m := by omega
 refine ⟨e, h2.1, h2.2, h4.1, h4.2.2, ?_⟩
 rw [e]
 exact right_ref h.parts.1 h.parts.2.1 h.pos h.parts.2.2.2.1 (by omega) (by omega)
end
end Go.Proofs.Ythjjabcbngffoaa.P
end
section
namespace Go.Proofs.Ythjjabcbngffoaa.P
open Go.RowKit Go.Proofs.YthjjabcbngffoaaW.PrintWords Go.Proofs.YthjjabcbngffoaaW.PrintLast Go.Proofs.YthjjabcbngffoaaW.PrintMore Go.Proofs.YthjjabcbngffoaaH Go.Proofs.FlowTree
theorem rd_cons0 (h : Int) (l : List Int) : rd (h :: l) ((0 : Nat) : Int) = h := by simp [rd]
theorem rd_consS (h : Int) (l : List Int) (j : Nat) : rd (h :: l) ((j + 1 : Nat) : Int) = rd l (j : Int) := by
 simp only [rd, Int.toNat_natCast, List.getD_eq_getElem?_getD, List.getElem?_cons_succ]
theorem homesB_at : ∀ (l : List Int) (last : Int), homesB last l = true → ∀ j : Nat, j < l.length → last < rd l (j : Int) ∧ rd l (j : Int) ≤ 64 ∧ ∀ i : Nat, i < j → rd l (i : Int) < rd l (j : Int)
 | [], _, _, _, hj => absurd hj (Nat.not_lt_zero _)
 | h :: tl, last, hh, j, hj => by
  simp only [homesB] at hh
  by_cases c1 : h ≤ last ∨ h > 64
  ·rw [if_pos c1] at hh; cases hh
  rw [if_neg c1] at hh
  cases j with
  | zero =>
   rw [rd_cons0]
   exact ⟨by omega, by omega, fun i hi => absurd hi (Nat.not_lt_zero _)⟩
  | succ j =>
   have ih := homesB_at tl h hh j (by simpa using hj)
   rw [rd_consS]
   refine ⟨by omega, ih.2.1, fun i hi => ?_⟩
   cases i with
   | zero => rw [rd_cons0]; exact ih.1
   | succ i => rw [rd_consS]; exact ih.2.2 i (by omega)
theorem amtB_of {l : List Int} (h : ∀ x ∈ l, -1000000000 ≤ x ∧ x ≤ 1000000000) : amtB l = true := by
 unfold amtB
 rw [List.all_eq_true]
 intro x hx
 have := h x hx
 simp [this]
section
variable {c t : Int} {l : List RGE} {homes : List Int} {p : List CH × Int}
theorem chgs_ok (h : PartsOk c t l) (hlen : homes.length = l.length) (hh : homesB 0 homes = true) (h64 : l.length ≤ 64) (hp : LowAt homes c t l l.length p) : chgsB p.1 = true := by
 unfold chgsB
 rw [Bool.and_eq_true, decide_eq_true_eq, List.all_eq_true]
 refine ⟨by rw [hp.len]; exact h64, fun j hj => ?_⟩
 have hj' : j < l.length := by have := List.mem_range.1 hj; rw [hp.len] at this; exact this
 have hf := hp.form j hj'
 have hb := b_bd h j hj'
 have hc := h.2.1
 have hc0 := h.1
 have hr := homesB_at homes 0 hh j (by omega)
 have g1 := hf.ge
 have g2 := hf.le
 have e1 : (rd_T40 p.1 (j : Int)).f0 = rd homes (j : Int) := hf.home
 have e2 : (rd_T40 p.1 (j : Int)).f2.f0 = bLo c t l j := hf.lo
 have e3 : (rd_T40 p.1 (j : Int)).f2.f1 = bHi c t l j := hf.hi
 have e4 : (rd_T40 p.1 (j : Int)).f3 = (bLo c t l j == bHi c t l j) := hf.sure
 have g1' : bLo c t l j ≤ (rd_T40 p.1 (j : Int)).f1 := g1
 have g2' : (rd_T40 p.1 (j : Int)).f1 ≤ bHi c t l j := g2
 rw [Bool.and_eq_true, Bool.not_eq_true']
 constructor
 ·unfold oneB
  rw [e1, e2, e3, e4]
  simp only [Bool.and_eq_true, decide_eq_true_eq, beq_iff_eq]
  refine ⟨⟨by omega, hr.2.1⟩, amtB_of (fun x hx => ?_), ⟨g1', g2'⟩, ?_⟩
  ·simp at hx
   omega
  ·exact BEq.comm
 ·unfold seenB
  rw [List.any_eq_false]
  intro i hi
  have hij := List.mem_range.1 hi
  have hfi := hp.form i (by omega)
  have e5 : (rd_T40 p.1 (i : Int)).f0 = rd homes (i : Int) := hfi.home
  rw [e1, e5]
  have := hr.2.2 i hij
  simp only [decide_eq_true_eq]
  omega
theorem sum_l0 {l : List CH} (hn : l.length ≤ 64) (hv : ∀ j, j < l.length → 0 ≤ (cc l j).f1 ∧ (cc l j).f1 ≤ 1000000000) {s0 : Int} (hs0 : -1000000000000 ≤ s0) (hs1 : s0 ≤ 1000000000000) : ∀ d i k : Nat, i + d = l.length → d < k →
  settle_sum.l0 k (s0 + sm (fun j => (cc l j).f1) (List.range i)) l (l.length : Int) (i : Int) = some (s0 + sm (fun j => (cc l j).f1) (List.range l.length)) := by
 intro d
 induction d with
 | zero =>
  intro i k hi hk
  obtain ⟨k, rfl⟩ : ∃ m, k = m + 1 := ⟨k - 1, by omega⟩
  have e : i = l.length := by omega
  subst e
  simp only [settle_sum.l0, Int.lt_irrefl, if_false]
 | succ d ih =>
  intro i k hi hk
  obtain ⟨k, rfl⟩ : ∃ m, k = m + 1 := ⟨k - 1, by omega⟩
  have h1 : ((i : Int) < (l.length : Int)) := by omega
  have h2 : (0 : Int) ≤ (i : Int) := by omega
  have hb := sm_bound (f := fun j => (cc l j).f1) (ks := List.range i) (a := 0) (b := 1000000000) (fun j hj => hv j (by have := List.mem_range.1 hj; omega))
  rw [List.length_range] at hb
  have hvi := hv i (by omega)
  have w : wrap64 (s0 + sm (fun j => (cc l j).f1) (List.range i) + (rd_T40 l (i : Int)).f1) = s0 + sm (fun j => (cc l j).f1) (List.range (i + 1)) := by
   have e : (rd_T40 l (i : Int)).f1 = (cc l i).f1 := rfl
   rw [e, wrap_id' (by omega) (by omega), List.range_succ, sm_append, sm_cons, sm_nil]
   omega
  simp only [settle_sum.l0, h1, h2, if_true, w, wrap_nat (show i ≤ 140737488355328 by omega)]
  exact ih (i + 1) k (by omega) (by omega)
theorem sum_f {l : List CH} (hn : l.length ≤ 64) (hv : ∀ j, j < l.length → 0 ≤ (cc l j).f1 ∧ (cc l j).f1 ≤ 1000000000) {s0 : Int} (hs0 : -1000000000000 ≤ s0) (hs1 : s0 ≤ 1000000000000) : settle_sum.f 65 l s0 = some (s0 + sm (fun j => (cc l j).f1) (List.range l.length)) := by
 have := sum_l0 hn hv hs0 hs1 l.length 0 65 (by omega) (by omega)
 rw [List.range_zero, sm_nil, Int.add_zero] at this
 exact this
end
section
variable {c t : Int} {lA lB : List RGE} {homes : List Int} {pA pB : List CH × Int}
theorem low_vals {l : List RGE} {p : List CH × Int} (h : PartsOk c t l) (hp : LowAt homes c t l l.length p) : ∀ j, j < p.1.length → 0 ≤ (cc p.1 j).f1 ∧ (cc p.1 j).f1 ≤ 1000000000 := fun j hj => by
 rw [hp.len] at hj
 have h1 := hp.form j hj
 have h2 := b_bd h j hj
 have h3 := h1.ge
 have h4 := h1.le
 have := h.2.1
 omega
theorem sm_le {f g : Nat → Int} : ∀ n : Nat, (∀ j, j < n → f j ≤ g j) → sm f (List.range n) ≤ sm g (List.range n) := by
 intro n
 induction n with
 | zero => intro _; exact Int.le_refl _
 | succ n ih =>
  intro h
  have h1 := ih (fun j hj => h j (by omega))
  have h2 := h n (by omega)
  rw [List.range_succ, sm_append, sm_append, sm_cons, sm_cons, sm_nil, sm_nil]
  omega
theorem sm_half {f : Nat → Int} : ∀ n : Nat, (∀ j, j < n → 0 ≤ f j) → sm f (List.range n) ≤ 2 * sm (fun j => f j / 2) (List.range n) + n := by
 intro n
 induction n with
 | zero => intro _; simp [sm_nil]
 | succ n ih =>
  intro h
  have h1 := ih (fun j hj => h j (by omega))
  have h2 := h n (by omega)
  rw [List.range_succ, sm_append, sm_append, sm_cons, sm_cons, sm_nil, sm_nil]
  omega
theorem sums_near (hA : PartsOk c t lA) (hB : PartsOk c t lB) (hn : lA.length ≤ 20) (hl : lB.length = lA.length) (hlB : ¬ t < leastN lB lB.length)
  (hpA : LowAt homes c t lA lA.length pA) (hpB : LowAt homes c t lB lB.length pB) (hin : ∀ j, j < lA.length → bLo c t lA j ≤ bLo c t lB j ∧ bHi c t lB j ≤ bHi c t lA j) :
  -1000000000 ≤ pA.2 - pB.2 ∧ pA.2 - pB.2 ≤ 1000000000 := by
 have hc := hA.2.1
 have hc0 := hA.1
 have a1 := hpA.bd
 have b1 := hpB.bd
 have hgB := house_ge hB hlB hpB
 have sA := hpA.sum
 have sB := hpB.sum
 constructor
 ·rcases hpA.mid with h | h
  ·omega
  ·by_cases hcb : pB.2 ≤ 1000000000
   ·omega
   have h1 : sm (fun j => (cc pB.1 j).f1) (List.range lA.length) ≤ sm (fun j => bLo c t lA j + bHi c t lA j) (List.range lA.length) := sm_le _ (fun j hj => by
    have h2 := (hpB.form j (by omega)).le
    have h3 := hin j hj
    have h4 := b_bd hA j hj
    omega)
   have h2 := sm_half (f := fun j => bLo c t lA j + bHi c t lA j) lA.length (fun j hj => by have h4 := b_bd hA j hj; show 0 ≤ bLo c t lA j + bHi c t lA j; omega)
   rw [hl] at sB
   rw [← sB] at h1
   rw [← h] at h2
   omega
 ·by_cases h : pA.2 ≤ c
  ·omega
  ·have h1 : sm (fun j => (cc pA.1 j).f1) (List.range lA.length) ≤ sm (fun j => (cc pB.1 j).f1) (List.range lA.length) := sm_le _ (fun j hj => by
    have h2 := hpA.low (by omega) j hj (by omega)
    have h3 := (hpB.form j (by omega)).ge
    have h4 := hin j hj
    omega)
   rw [hl] at sB
   rw [← sA, ← sB] at h1
   omega
theorem settle_ok (hA : PartsOk c t lA) (hB : PartsOk c t lB) (hn : lA.length ≤ 20) (hl : lB.length = lA.length) (hhl : homes.length = lA.length) (hh : homesB 0 homes = true) (hlA : ¬ t < leastN lA lA.length) (hlB : ¬ t < leastN lB lB.length)
  (hpA : LowAt homes c t lA lA.length pA) (hpB : LowAt homes c t lB lB.length pB) (hin : ∀ j, j < lA.length → bLo c t lA j ≤ bLo c t lB j ∧ bHi c t lB j ≤ bHi c t lA j) :
  settleB pA.1 pB.1 (c - pA.2) (c - pB.2) = true := by
 have hc := hA.2.1
 have hc0 := hA.1
 have a1 := hpA.bd
 have b1 := hpB.bd
 have hgA := house_ge hA hlA hpA
 have hgB := house_ge hB hlB hpB
 have hnear := sums_near hA hB hn hl hlB hpA hpB hin
 have hlenA := hpA.len
 have hlenB := hpB.len
 have q1 := chgs_ok hA hhl hh (by omega) hpA
 have q2 := chgs_ok hB (by omega) hh (by omega) hpB
 have q3 : sameHB pA.1 pB.1 = true := by
  unfold sameHB
  rw [Bool.and_eq_true, decide_eq_true_eq, List.all_eq_true]
  refine ⟨by omega, fun j hj => ?_⟩
  have hj' := List.mem_range.1 hj
  have e1 : (rd_T40 pA.1 (j : Int)).f0 = rd homes (j : Int) := (hpA.form j (by omega)).home
  have e2 : (rd_T40 pB.1 (j : Int)).f0 = rd homes (j : Int) := (hpB.form j (by omega)).home
  rw [e1, e2]
  exact beq_self_eq_true _
 have q4 : allB inB pA.1 pB.1 = true := by
  unfold allB
  rw [List.all_eq_true]
  intro j hj
  have hj' := List.mem_range.1 hj
  have e1 : (rd_T40 pA.1 (j : Int)).f2.f0 = bLo c t lA j := (hpA.form j (by omega)).lo
  have e2 : (rd_T40 pA.1 (j : Int)).f2.f1 = bHi c t lA j := (hpA.form j (by omega)).hi
  have e3 : (rd_T40 pB.1 (j : Int)).f2.f0 = bLo c t lB j := (hpB.form j (by omega)).lo
  have e4 : (rd_T40 pB.1 (j : Int)).f2.f1 = bHi c t lB j := (hpB.form j (by omega)).hi
  have := hin j (by omega)
  unfold inB
  simp only [e1, e2, e3, e4, Bool.and_eq_true, decide_eq_true_eq]
  exact this
 have q5 : amtB [c - pA.2, c - pB.2] = true := amtB_of (fun x hx => by
  simp at hx
  omega)
 have q6 : settle_sum.f 65 pA.1 (c - pA.2) = some c := by
  rw [sum_f (by omega) (low_vals hA hpA) (by omega) (by omega), hlenA, ← hpA.sum]
  congr 1
  omega
 have q7 : settle_sum.f 65 pB.1 (c - pB.2) = some c := by
  rw [sum_f (by omega) (low_vals hB hpB) (by omega) (by omega), hlenB, ← hpB.sum]
  congr 1
  omega
 have q8 : amtB [c - pB.2 - (c - pA.2)] = true := amtB_of (fun x hx => by
  simp at hx
  omega)
 have q9 : allB amt3 pA.1 pB.1 = true := by
  unfold allB
  rw [List.all_eq_true]
  intro j hj
  have hj' := List.mem_range.1 hj
  have fA := low_vals hA hpA j (by omega)
  have fB := low_vals hB hpB j (by omega)
  have bb := b_bd hB j (by omega)
  have e3 : (rd_T40 pB.1 (j : Int)).f2.f0 = bLo c t lB j := (hpB.form j (by omega)).lo
  have e4 : (rd_T40 pB.1 (j : Int)).f2.f1 = bHi c t lB j := (hpB.form j (by omega)).hi
  unfold amt3
  refine amtB_of (fun x hx => ?_)
  simp only [outC, e3, e4, List.mem_cons, List.not_mem_nil, or_false] at hx
  have fA' : 0 ≤ (rd_T40 pA.1 (j : Int)).f1 ∧ (rd_T40 pA.1 (j : Int)).f1 ≤ 1000000000 := fA
  have fB' : 0 ≤ (rd_T40 pB.1 (j : Int)).f1 ∧ (rd_T40 pB.1 (j : Int)).f1 ≤ 1000000000 := fB
  omega
 unfold settleB pairB
 rw [q1, q2, q3, q4, q5, q6, q7, q8, q9]
 simp
theorem settled_l0 (hA : PartsOk c t lA) (hB : PartsOk c t lB) (hn : lA.length ≤ 20) (hl : lB.length = lA.length) (hpA : LowAt homes c t lA lA.length pA) (hpB : LowAt homes c t lB lB.length pB) (hin : ∀ j, j < lA.length → bLo c t lA j ≤ bLo c t lB j ∧ bHi c t lB j ≤ bHi c t lA j)
  {out : List CH} (ho : out.length = lA.length) (hout : ∀ j, j < lA.length → cc out j = outC (cc pA.1 j, cc pB.1 j)) {s0 : Int} (hs : s0 = pA.2 - pB.2) : ∀ d i : Nat, i + d = lA.length →
  Ev (fun k => cohousingtop_w17Settled.l0 k pA.1 pB.1 out (s0 + (sm (fun j => (cc pB.1 j).f1) (List.range i) - sm (fun j => (cc pA.1 j).f1) (List.range i))) (out.length : Int) (i : Int)) true := by
 have hlenA := hpA.len
 have hlenB := hpB.len
 have a1 := hpA.bd
 have b1 := hpB.bd
 intro d
 induction d with
 | zero =>
  intro i hi
  have e : i = lA.length := by omega
  subst e
  have h1 : ¬ ((lA.length : Int) < (out.length : Int)) := by omega
  have e0 : (s0 + (sm (fun j => (cc pB.1 j).f1) (List.range lA.length) - sm (fun j => (cc pA.1 j).f1) (List.range lA.length)) == 0) = true := by
   rw [beq_iff_eq]
   have h2 := hpB.sum
   rw [hl] at h2
   rw [← hpA.sum, ← h2]
   omega
  refine Ev.step ?_
  simp only [cohousingtop_w17Settled.l0, h1, if_false, e0]
  exact Ev.pure _
 | succ d ih =>
  intro i hi
  have hil : i < lA.length := by omega
  have h1 : ((i : Int) < (out.length : Int)) := by omega
  have h2 : (0 : Int) ≤ (i : Int) := by omega
  have h3 : ((i : Int) < (pA.1.length : Int)) := by omega
  have h4 : ((i : Int) < (pB.1.length : Int)) := by omega
  have fA := low_vals hA hpA i (by omega)
  have fB := low_vals hB hpB i (by omega)
  have gA := hpA.form i hil
  have gB := hpB.form i (by omega)
  have hii := hin i hil
  have ho_ := hout i hil
  have o1 : (rd_T40 out (i : Int)).f1 = (cc pB.1 i).f1 - (cc pA.1 i).f1 := by show (cc out i).f1 = _; rw [ho_]; rfl
  have o2 : (rd_T40 out (i : Int)).f3 = (cc pB.1 i).f3 := by show (cc out i).f3 = _; rw [ho_]; rfl
  have rA : rd_T40 pA.1 (i : Int) = cc pA.1 i := rfl
  have rB : rd_T40 pB.1 (i : Int) = cc pB.1 i := rfl
  have w1 : wrap64 ((cc pA.1 i).f1 + ((cc pB.1 i).f1 - (cc pA.1 i).f1)) = (cc pB.1 i).f1 := by rw [wrap_id' (by omega) (by omega)]; omega
  have c1 : ¬ ((cc pB.1 i).f1 < (cc pA.1 i).f2.f0) := by have := gB.ge; rw [gA.lo]; omega
  have c2 : ¬ ((cc pB.1 i).f1 > (cc pA.1 i).f2.f1) := by have := gB.le; rw [gA.hi]; omega
  have hbA := sm_bound (f := fun j => (cc pA.1 j).f1) (ks := List.range i) (a := 0) (b := 1000000000) (fun j hj => low_vals hA hpA j (by have := List.mem_range.1 hj; omega))
  have hbB := sm_bound (f := fun j => (cc pB.1 j).f1) (ks := List.range i) (a := 0) (b := 1000000000) (fun j hj => low_vals hB hpB j (by have := List.mem_range.1 hj; omega))
  rw [List.length_range] at hbA hbB
  have w2 : wrap64 (s0 + (sm (fun j => (cc pB.1 j).f1) (List.range i) - sm (fun j => (cc pA.1 j).f1) (List.range i)) + ((cc pB.1 i).f1 - (cc pA.1 i).f1)) = s0 + (sm (fun j => (cc pB.1 j).f1) (List.range (i + 1)) - sm (fun j => (cc pA.1 j).f1) (List.range (i + 1))) := by
   rw [wrap_id' (by omega) (by omega), List.range_succ, sm_append, sm_append, sm_cons, sm_cons, sm_nil, sm_nil]
   omega
  refine Ev.step ?_
  simp only [cohousingtop_w17Settled.l0, h1, h2, h3, h4, if_true, o1, o2, rA, rB, w1, bne_self_eq_false, Bool.false_eq_true, if_false, c1, c2, w2, wrap_nat (show i ≤ 140737488355328 by omega)]
  exact ih (i + 1) (by omega)
theorem settled_ (hA : PartsOk c t lA) (hB : PartsOk c t lB) (hn : lA.length ≤ 20) (hl : lB.length = lA.length) (hhl : homes.length = lA.length) (hh : homesB 0 homes = true) (hlA : ¬ t < leastN lA lA.length) (hlB : ¬ t < leastN lB lB.length)
  (hpA : LowAt homes c t lA lA.length pA) (hpB : LowAt homes c t lB lB.length pB) (hq : ∀ j, j < lA.length → (qq lA j).f0 ≤ (qq lB j).f0 ∧ (qq lB j).f1 ≤ (qq lA j).f1) :
  Ev (fun k => cohousingtop_w17Settled.f k pA.1 pB.1 (c - pA.2) (c - pB.2)) true := by
 have hin : ∀ j, j < lA.length → bLo c t lA j ≤ bLo c t lB j ∧ bHi c t lB j ≤ bHi c t lA j := fun j hj => ⟨right_mono hA.1 hA.2.2.1 (hq j hj).1, right_mono hA.1 hA.2.2.1 (hq j hj).2⟩
 have hS := settle_ok hA hB hn hl hhl hh hlA hlB hpA hpB hin
 obtain ⟨s1, s2, s3, s4, s5, s6⟩ := settleB_at hS
 have hlenA := hpA.len
 have hlenB := hpB.len
 have eW : settle_Within.f pA.1 pB.1 = some (true, 0) := by unfold settle_Within.f; rw [s1, s2]; rfl
 obtain ⟨out, hout⟩ : ∃ out, out = (List.range pA.1.length).map (fun j => outC (rd_T40 pA.1 (j : Nat), rd_T40 pB.1 (j : Nat))) := ⟨_, rfl⟩
 have eS : settle_Settle.f pA.1 pB.1 (c - pA.2) (c - pB.2) = some (out, c - pB.2 - (c - pA.2), 0) := by unfold settle_Settle.f; rw [if_pos hS, hout]
 have ho : out.length = lA.length := by rw [hout, List.length_map, List.length_range, hlenA]
 have e1 : ((out.length : Int) = (pA.1.length : Int)) := by omega
 have e2 : ((pB.1.length : Int) != (pA.1.length : Int)) = false := by rw [bne_eq_false_iff_eq]; omega
 unfold cohousingtop_w17Settled.f
 simp only [eW, eS, Option.bind_some, if_true, e1, e2]
 refine Ev.step ?_
 simp only [cohousingtop_w17Settled.j0, Bool.false_eq_true, if_false]
 have := settled_l0 hA hB hn hl hpA hpB hin ho (fun j hj => by
  rw [hout]
  simp [cc, rd_T40, List.getD_eq_getElem?_getD, show j < pA.1.length by omega]) (s0 := c - pB.2 - (c - pA.2)) (by omega) lA.length 0 (by omega)
 rw [List.range_zero, sm_nil, sm_nil, Int.sub_zero, Int.add_zero] at this
 exact this
end
end Go.Proofs.Ythjjabcbngffoaa.P
end
section
namespace Go.Proofs.Ythjjabcbngffoaa.P
open Go.RowKit Go.Proofs.YthjjabcbngffoaaW.PrintWords Go.Proofs.YthjjabcbngffoaaW.PrintLast Go.Proofs.YthjjabcbngffoaaW.PrintMore Go.Proofs.YthjjabcbngffoaaH Go.Proofs.FlowTree
open Classical
theorem pipes_f : cohousingtop_w17Pipes.f = some true := by kernel_rfl
theorem sm_add (f g : Nat → Int) : ∀ n, sm (fun i => f i + g i) (List.range n) = sm f (List.range n) + sm g (List.range n) := by
 intro n
 induction n with
 | zero => rfl
 | succ n ih =>
  rw [List.range_succ, sm_append, sm_append, sm_append, sm_cons, sm_cons, sm_cons, sm_nil, sm_nil, sm_nil, ih]
  omega
theorem sm_zero : ∀ n, sm (fun _ => 0) (List.range n) = 0 := by
 intro n
 induction n with
 | zero => rfl
 | succ n ih => rw [List.range_succ, sm_append, sm_cons, sm_nil, ih]; rfl
theorem sm_one (g : Nat → Int) (i n : Nat) (hi : i < n) (h : ∀ j, j ≠ i → g j = 0) : sm g (List.range n) = g i := by
 rw [sm_upd (fun _ => 0) g i (g i) (fun j hj => h j hj) (by omega) n, sm_zero, if_pos hi]
 omega
theorem kids_all {l : List PI} (hok : okL l) (x : Nat → Int) : ∀ q, q ≤ l.length → sm (fun i => sm x (kidsAt l q i)) (List.range l.length) = sm (fun k => if abP l k = 0 then 0 else x k) (List.range q) := by
 intro q
 induction q with
 | zero =>
  intro _
  rw [sm_congr (g := fun _ => 0) (fun i _ => by show sm x (kidsAt l 0 i) = 0; simp [kidsAt, sm_nil]), sm_zero]
  rfl
 | succ q ih =>
  intro hq
  have e1 : sm (fun i => sm x (kidsAt l (q + 1) i)) (List.range l.length) = sm (fun i => sm x (kidsAt l q i) + (if i < q ∧ abP l q = idP l i then x q else 0)) (List.range l.length) := sm_congr (fun i _ => by
   show sm x (kidsAt l (q + 1) i) = _
   rw [kidsAt_succ, sm_append]
   by_cases h : i < q ∧ abP l q = idP l i
   ·rw [if_pos h, if_pos h, sm_cons, sm_nil]; omega
   ·rw [if_neg h, if_neg h, sm_nil])
  rw [e1, sm_add, ih (by omega), List.range_succ, sm_append, sm_cons, sm_nil]
  congr 1
  by_cases h0 : abP l q = 0
  ·rw [if_pos h0]
   rw [sm_congr (g := fun _ => 0) (fun i hi => by
    have hi' := List.mem_range.1 hi
    have := (hok i hi').1
    rw [if_neg (fun h => by have := h.2; omega)]), sm_zero]
   rfl
  ·rw [if_neg h0]
   obtain ⟨j, hj, e⟩ := (hok q (by omega)).2.2.2 h0
   rw [sm_one _ j l.length (by omega) (fun i hi => by
    rw [if_neg]
    rintro ⟨hiq, hid⟩
    exact hi (id_inj (m := l.length) hok (by omega) (by omega) (by rw [e, hid]))), if_pos ⟨hj, e.symm⟩]
   omega
theorem leaves_sum (l : List PI) (x : Nat → Int) : ∀ m, sm x (leavesN l m) = sm (fun i => if kidsAt l l.length i = [] then x i else 0) (List.range m) := by
 intro m
 induction m with
 | zero => rfl
 | succ m ih =>
  rw [leavesN_succ, sm_append, ih, List.range_succ, sm_append, sm_cons, sm_nil]
  by_cases h : kidsAt l l.length m = []
  ·rw [if_pos h, if_pos h, sm_cons, sm_nil]
  ·rw [if_neg h, if_neg h, sm_nil]; rfl
theorem root_one {l : List PI} (hn : l.length ≤ 5864062014805) (hone : rootsN l l.length = 1) {a b : Nat} (hab : a < b) (hb : b < l.length) (h0 : abP l a = 0) (h1 : abP l b = 0) : False := by
 have r1 := (roots_at l hn a (by omega)).2.2 (by omega)
 have r0 := (roots_at l hn a (by omega)).1
 have r2 := (roots_at l hn b (by omega)).2.2 hb
 have m1 := roots_mono l hn (b - (a + 1)) (a + 1) (by omega)
 have m2 := roots_mono l hn (l.length - (b + 1)) (b + 1) (by omega)
 rw [show a + 1 + (b - (a + 1)) = b by omega] at m1
 rw [show b + 1 + (l.length - (b + 1)) = l.length by omega] at m2
 rw [if_pos h0] at r1
 rw [if_pos h1] at r2
 omega
theorem leaves_le {l : List PI} (hok : okL l) (hn : l.length ≤ 200) (hone : rootsN l l.length = 1) {m : Nat} (hm : m < l.length) (h0 : abP l m = 0) {x : Nat → Int} (hx : ∀ i, i < l.length → (netT l).eq x i) : sm x (leavesN l l.length) ≤ x m := by
 have k1 := kids_all hok x l.length (Nat.le_refl _)
 have k2 : sm (fun i => sm x (kidsAt l l.length i)) (List.range l.length) ≤ sm (fun i => if kidsAt l l.length i = [] then 0 else x i) (List.range l.length) := sm_le _ (fun i hi => by
  show sm x (kidsAt l l.length i) ≤ _
  by_cases h : kidsAt l l.length i = []
  ·rw [if_pos h, h, sm_nil]; exact Int.le_refl _
  ·rw [if_neg h]
   have := hx i hi h
   have e : (netT l).kid i = kidsAt l l.length i := rfl
   rw [e] at this
   omega)
 have k3 := leaves_sum l x l.length
 have k4 := sm_add (fun i => if kidsAt l l.length i = [] then x i else 0) (fun i => if kidsAt l l.length i = [] then 0 else x i) l.length
 have k5 := sm_add (fun i => if abP l i = 0 then 0 else x i) (fun i => if abP l i = 0 then x i else 0) l.length
 have e4 : sm (fun i => (if kidsAt l l.length i = [] then x i else 0) + (if kidsAt l l.length i = [] then 0 else x i)) (List.range l.length) = sm x (List.range l.length) := sm_congr (fun i _ => by split <;> omega)
 have e5 : sm (fun i => (if abP l i = 0 then 0 else x i) + (if abP l i = 0 then x i else 0)) (List.range l.length) = sm x (List.range l.length) := sm_congr (fun i _ => by split <;> omega)
 rw [e4] at k4
 rw [e5] at k5
 have k6 : sm (fun i => if abP l i = 0 ∧ i < l.length then x i else 0) (List.range l.length) = x m := by
  have := sm_one (fun i => if abP l i = 0 ∧ i < l.length then x i else 0) m l.length hm (fun j hj => by
   rw [if_neg]
   rintro ⟨hj0, hjl⟩
   rcases Nat.lt_trichotomy j m with h | h | h
   ·exact root_one (by omega) hone h hm hj0 h0
   ·exact hj h
   ·exact root_one (by omega) hone h hjl h0 hj0)
  rw [this, if_pos ⟨h0, hm⟩]
 have k7 : sm (fun i => if abP l i = 0 then x i else 0) (List.range l.length) = sm (fun i => if abP l i = 0 ∧ i < l.length then x i else 0) (List.range l.length) := sm_congr (fun i hi => by
  have := List.mem_range.1 hi
  by_cases h : abP l i = 0
  ·rw [if_pos h, if_pos ⟨h, this⟩]
  ·rw [if_neg h, if_neg (fun hh => h hh.1)])
 omega
theorem sm_list (F : Nat → Int) (L : List Nat) : sm (fun j => F (L.getD j 0)) (List.range L.length) = sm F L := by
 have e : (List.range L.length).map (fun j => F (L.getD j 0)) = L.map F := by
  apply List.ext_getElem
  ·simp
  ·intro i h1 h2
   have hi : i < L.length := by simpa using h2
   simp [hi]
 unfold sm
 rw [e]
def Within (l : List PI) (r r' : List RG) : Prop := ∀ j, j < l.length → lo9 r j ≤ lo9 r' j ∧ hi9 r' j ≤ hi9 r j
theorem within_sol {l : List PI} {r r' : List RG} (h : Within l r r') {x : Nat → Int} (hx : Sol (netT l) (lo9 r') (hi9 r') x) : Sol (netT l) (lo9 r) (hi9 r) x :=
 ⟨fun i hi => by have h1 := h i hi; have h2 := hx.1 i hi; omega, hx.2⟩
theorem within_exact {l : List PI} {r r' : List RG} (h : Within l r r') {d d' : List IV} (hd : Exact l (lo9 r) (hi9 r) d) (hd' : Exact l (lo9 r') (hi9 r') d') : ∀ j, j < l.length → Lo d j ≤ Lo d' j ∧ Hi d' j ≤ Hi d j := fun j hj => by
 have hr := hd'.rng j hj
 obtain ⟨x, hx, e⟩ := hd'.had j hj (Lo d' j) (Int.le_refl _) hr.2.1
 obtain ⟨y, hy, e'⟩ := hd'.had j hj (Hi d' j) hr.2.1 (Int.le_refl _)
 have h1 := hd.sol x (within_sol h hx) j hj
 have h2 := hd.sol y (within_sol h hy) j hj
 omega
theorem network_homes {c : Int} {l : List PI} {known : List RG} {homes : List Int} {d : List IV} (h : (networkC c l known homes).2.2 = 0) (hb : boundsR l known = (d.map toR, 0)) :
  (0 ≤ c ∧ c ≤ 1000000000) ∧ homes.length = (partsN l (d.map toR) l.length).length ∧ homesB 0 homes = true := by
 unfold networkC at h
 rw [hb, if_pos rfl] at h
 by_cases c1 : c < 0 ∨ 1000000000 < c ∨ rootsN l l.length ≠ 1 ∨ homes.length ≠ (partsN l (d.map toR) l.length).length ∨ homesB 0 homes = false
 ·rw [if_pos c1] at h; exact absurd h (by decide)
 refine ⟨⟨by omega, by omega⟩, Classical.byContradiction fun hn => c1 (.inr (.inr (.inr (.inl hn)))), ?_⟩
 cases hx : homesB 0 homes with
 | true => rfl
 | false => exact absurd (.inr (.inr (.inr (.inr hx)))) c1
def parts (l : List PI) (d : List IV) : List RGE := (leavesN l l.length).map (fun j => toR (rv d j))
theorem parts_len (l : List PI) (d : List IV) : (parts l d).length = (leavesN l l.length).length := by unfold parts; rw [List.length_map]
theorem net_second {c : Int} {l : List PI} {known : List RG} {homes : List Int} {q : List CH × Int × Int} {d : List IV} {m : Nat} {p : List CH × Int} (hN : NetOk c l known homes q d m p) (hq : (networkC c l known homes).2.2 = 0)
  {r : List RG} (hw : Within l known r) {d' : List IV} (hb : boundsR l r = (d'.map toR, 0)) (hd : Exact l (lo9 r) (hi9 r) d') :
  ∃ p', networkC c l r homes = (p'.1, c - p'.2, 0) ∧ PartsOk c (Lo d m) (parts l d') ∧ LowAt homes c (Lo d m) (parts l d') (parts l d').length p' ∧ ¬ Lo d m < leastN (parts l d') (parts l d').length ∧ homes.length = (parts l d').length ∧ homesB 0 homes = true := by
 have hn := hN.good.n
 obtain ⟨hc, hlen, hh⟩ := network_homes hq hN.bounds
 have hin := within_exact hw hN.exact hd
 have hok := hN.good.ok
 have hm := hin m hN.root
 have hrm := hd.rng m hN.root
 have hsame := hN.same
 have hpos := hN.pos
 have e1 : Lo d' m = Lo d m := by omega
 have e2 : Hi d' m = Lo d m := by omega
 have hlen2 : homes.length = (parts l d').length := by rw [hlen, parts_at hok _ _ (Nat.le_refl _), List.length_map, parts_len]
 have hP : PartsOk c (Lo d m) (parts l d') := by
  refine ⟨hc.1, hc.2, hpos, hN.parts.2.2.2.1, by rw [parts_len]; exact Nat.le_trans (leavesN_len l l.length) hn, fun j hj => ?_⟩
  rw [parts_len] at hj
  have hlt := lf_lt l hj
  have h1 := hin (lf l j) hlt
  have h2 := hd.rng (lf l j) hlt
  have h3 := hN.parts.2.2.2.2.2 j (by rw [List.length_map]; exact hj)
  rw [parts_q l d hj] at h3
  show 0 ≤ (qq ((leavesN l l.length).map (fun j => toR (rv d' j))) j).f0 ∧ _
  have hgoal := parts_q l d' hj
  unfold parts
  rw [hgoal]
  have h4 : (toR (rv d (lf l j))).f0 = Lo d (lf l j) := rfl
  have h5 : (toR (rv d (lf l j))).f1 = Hi d (lf l j) := rfl
  have h6 : (toR (rv d' (lf l j))).f0 = Lo d' (lf l j) := rfl
  have h7 : (toR (rv d' (lf l j))).f1 = Hi d' (lf l j) := rfl
  rw [h4, h5] at h3
  rw [h6, h7]
  omega
 have hL : ¬ Lo d m < leastN (parts l d') (parts l d').length := by
  have h1 := (least_at hP (parts l d').length (Nat.le_refl _)).1
  obtain ⟨rt, _, hR⟩ := root_ev l (by omega)
  rcases hR with ⟨hne, _⟩ | ⟨_, m', hm', _, hab, htot⟩
  ·exact absurd hN.one hne
  have hmm : Hi d' m' = Hi d' m := by
   have h2 := (htot (d'.map toR)).symm.trans (hN.tot (d'.map toR))
   rw [qq_toR, qq_toR] at h2
   have h3 : (toR (rv d' m')).f1 = (toR (rv d' m)).f1 := by rw [h2]
   exact h3
  have hrm' := hd.rng m' hm'
  obtain ⟨x, hx, _⟩ := hd.had m' hm' (Lo d' m') (Int.le_refl _) hrm'.2.1
  have h4 := leaves_le hok hn hN.one hm' hab (x := x) hx.2
  have h5 := hd.sol x hx m' hm'
  have h6 : sm (fun j => (qq (parts l d') j).f0) (List.range (parts l d').length) = sm (Lo d') (leavesN l l.length) := by
   rw [← sm_list (Lo d') (leavesN l l.length), parts_len]
   refine sm_congr (fun j hj => ?_)
   have hj' := List.mem_range.1 hj
   show (qq ((leavesN l l.length).map (fun j => toR (rv d' j))) j).f0 = _
   rw [parts_q l d' hj']
   rfl
  have h7 : sm (Lo d') (leavesN l l.length) ≤ sm x (leavesN l l.length) := by
   rw [← sm_list (Lo d') (leavesN l l.length), ← sm_list x (leavesN l l.length)]
   exact sm_le _ (fun j hj => (hd.sol x hx (lf l j) (lf_lt l hj)).1)
  rw [h1, h6]
  omega
 have hs := shareC_is c (Lo d m) homes (parts l d')
 have eN : networkC c l r homes = shareC c (Lo d m) homes (parts l d') := by
  unfold networkC
  rw [hb, if_pos rfl]
  have eP : partsN l (d'.map toR) l.length = parts l d' := by
   rw [parts_at hok _ _ (Nat.le_refl _)]
   exact List.map_congr_left (fun j _ => qq_toR d' j)
  have eT : (totN l (d'.map toR) l.length) = toR (rv d' m) := by rw [hN.tot, qq_toR]
  have t1 : (toR (rv d' m)).f0 = Lo d m := e1
  have t2 : (toR (rv d' m)).f1 = Lo d m := e2
  have c1 : ¬ (c < 0 ∨ 1000000000 < c ∨ rootsN l l.length ≠ 1 ∨ homes.length ≠ (partsN l (d'.map toR) l.length).length ∨ homesB 0 homes = false) := by
   rw [eP, hh]
   rintro (h | h | h | h | h)
   ·omega
   ·omega
   ·exact h hN.one
   ·exact h hlen2
   ·cases h
  rw [if_neg c1, eT, eP, t1, t2, if_neg (by omega)]
 generalize hq2 : shareC c (Lo d m) homes (parts l d') = q2 at hs eN
 cases hs with
 | arg hno => exact absurd ⟨hP, hlen2, hh⟩ hno
 | flow _ _ _ hlt => exact absurd hlt hL
 | ok p' _ _ _ _ hlow _ => exact ⟨p', eN, hP, hlow, hL, hlen2, hh⟩
theorem net_settled {c t : Int} {l : List PI} {homes : List Int} (hn : l.length ≤ 20) {d d' : List IV} {p p' : List CH × Int} (hin : ∀ j, j < l.length → Lo d j ≤ Lo d' j ∧ Hi d' j ≤ Hi d j)
  (hP : PartsOk c t (parts l d)) (hP' : PartsOk c t (parts l d')) (hlow : LowAt homes c t (parts l d) (parts l d).length p) (hlow' : LowAt homes c t (parts l d') (parts l d').length p')
  (hL : ¬ t < leastN (parts l d) (parts l d).length) (hL' : ¬ t < leastN (parts l d') (parts l d').length) (hlen : homes.length = (parts l d).length) (hh : homesB 0 homes = true) :
  Ev (fun k => cohousingtop_w17Settled.f k p.1 p'.1 (c - p.2) (c - p'.2)) true := by
 refine settled_ hP hP' (by rw [parts_len]; exact Nat.le_trans (leavesN_len l l.length) hn) (by rw [parts_len, parts_len]) hlen hh hL hL' hlow hlow' (fun j hj => ?_)
 rw [parts_len] at hj
 have h1 := hin (lf l j) (lf_lt l hj)
 have e1 := parts_q l d hj
 have e2 := parts_q l d' hj
 show (qq ((leavesN l l.length).map (fun j => toR (rv d j))) j).f0 ≤ (qq ((leavesN l l.length).map (fun j => toR (rv d' j))) j).f0 ∧ (qq ((leavesN l l.length).map (fun j => toR (rv d' j))) j).f1 ≤ (qq ((leavesN l l.length).map (fun j => toR (rv d j))) j).f1
 rw [e1, e2]
 exact h1
end Go.Proofs.Ythjjabcbngffoaa.P
end
section
namespace Go.Proofs.Ythjjabcbngffoaa.P
open Go.RowKit Go.Proofs.YthjjabcbngffoaaW.PrintWords Go.Proofs.YthjjabcbngffoaaW.PrintLast Go.Proofs.YthjjabcbngffoaaW.PrintMore Go.Proofs.YthjjabcbngffoaaH Go.Proofs.FlowTree
open Classical
theorem rx_rng (f : Nat → RG) (n j : Nat) (h : j < n) : rr ((List.range n).map f) j = f j := by
 simp [rr, rd_T38, List.getD_eq_getElem?_getD, h]
theorem Within.trans {l : List PI} {r r' r'' : List RG} (h : Within l r r') (h' : Within l r' r'') : Within l r r'' := fun j hj => by
 have := h j hj
 have := h' j hj
 omega
end Go.Proofs.Ythjjabcbngffoaa.P
end
section
namespace Go.Proofs.YthjjabcbngffoaaH
open Go.RowKit Go.ChangeShapes Go.WideShapes Go.Proofs.YthjjabcbngffoaaW.PrintWords
def Opens {α : Type} (P : Program) (d : Kd α) (t : TypeId) : Prop :=
 ∀ {H : Type} {enc : TypeId × Value → H} {w : World} {base : Nat} {spare : Nat → Bool} {held : Bool} {fuel : Nat} {cs : List Value} {x : DataW H × List MemPlace}, DataW.trod enc P w base spare held fuel t cs = some x → ∃ a : α, d.K w a cs
theorem Opens.int {P : Program} {t : TypeId} {k : IntKind} (h : P.underlying t = some (.int k)) : Opens P (Kd.int k) t := by
 intro H enc w base spare held fuel cs x hx
 obtain ⟨n, rfl, _, _⟩ := DataW.trod_int h hx
 exact ⟨n, rfl⟩
theorem Opens.iso {α β : Type} {P : Program} {d : Kd α} {t : TypeId} (f : β → α) (g : α → β) (hfg : ∀ a, f (g a) = a) (h : Opens P d t) : Opens P (Kd.iso d f) t := by
 intro H enc w base spare held fuel cs x hx
 obtain ⟨a, ha⟩ := h hx
 refine ⟨g a, ?_⟩
 show d.K w (f (g a)) cs
 rw [hfg]
 exact ha
def Segs {β : Type} (P : Program) (d : Kd β) (fs : List Field) (o z : Nat) : Prop :=
 ∀ {H : Type} {enc : TypeId × Value → H} {w : World} {base : Nat} {spare : Nat → Bool} {held : Bool} {fuel : Nat} {cs : List Value}, cs.length = z →
  (∀ f ∈ fs, ∃ x : DataW H × List MemPlace, DataW.trod enc P w base spare held fuel f.type ((cs.drop f.offset).take (P.cellsOf f.type)) = some x) → ∃ b : β, d.K w b (cs.drop o)
theorem Segs.one {α : Type} {P : Program} {d : Kd α} {f : Field} {o z : Nat} (h : Opens P d f.type) (ho : f.offset = o) (hz : z = o + P.cellsOf f.type) : Segs P d [f] o z := by
 intro H enc w base spare held fuel cs hl hf
 obtain ⟨x, hx⟩ := hf f (by simp)
 obtain ⟨a, ha⟩ := h hx
 refine ⟨a, ?_⟩
 rw [ho, List.take_of_length_le (by rw [List.length_drop]; omega)] at ha
 exact ha
theorem Segs.cons {α β : Type} {P : Program} {d : Kd α} {d' : Kd β} {f : Field} {fs : List Field} {o o' z : Nat} (h : Opens P d f.type) (ho : f.offset = o) (ho' : o' = o + P.cellsOf f.type) (hr : Segs P d' fs o' z) : Segs P (Kd.pair d d') (f :: fs) o z := by
 intro H enc w base spare held fuel cs hl hf
 obtain ⟨x, hx⟩ := hf f (by simp)
 obtain ⟨a, ha⟩ := h hx
 obtain ⟨b, hb⟩ := hr hl (fun f' h' => hf f' (List.mem_cons_of_mem _ h'))
 refine ⟨(a, b), _, _, ?_, ha, hb⟩
 rw [ho, ho', ← List.drop_drop, List.take_append_drop]
theorem Opens.struct {β : Type} {P : Program} {d : Kd β} {t : TypeId} {fs : Array Field} (h : P.underlying t = some (.struct fs)) (hr : Segs P d fs.toList 0 (P.cellsOf t)) : Opens P d t := by
 intro H enc w base spare held fuel cs x hx
 obtain ⟨xs, n, _, _, hl, hxl, hf⟩ := DataW.trod_struct h hx
 have := hr (enc := enc) (w := w) (base := base) (spare := spare) (held := held) (fuel := n) (cs := cs) hl (fun f hm => by
  obtain ⟨i, hi, rfl⟩ := List.mem_iff_getElem.1 hm
  have hi' : i < fs.size := by simpa using hi
  have h1 := hf i fs[i] (by simp [hi'])
  refine ⟨xs[i]'(by omega), ?_⟩
  rw [Array.getElem_toList]
  rw [h1]
  simp [hxl, hi'])
 rw [List.drop_zero] at this
 exact this
theorem Opens.row {α : Type} {P : Program} {d : Kd α} {t e : TypeId} (ht : P.underlying t = some (.slice e)) (hsz : P.cellsOf e = d.sz) (he : Opens P d e) {H : Type} {enc : TypeId × Value → H} {w : World} {base : Nat} {spare : Nat → Bool} {held : Bool} {fuel : Nat} {cs : List Value} {x : DataW H × List MemPlace}
  (hx : DataW.trod enc P w base spare held fuel t cs = some x) : ∃ A len cap, cs = [.slice A len cap] ∧ ∃ xs : List α, xs.length = len ∧ len ≤ cap ∧ d.C w A len xs := by
 rcases Deep.open_slice ht hx with ⟨rfl, _⟩ | ⟨a, len, cap, m, n, D, Pl, rfl, _, hl, hm, hmm, _, hel⟩
 ·exact ⟨none, 0, 0, rfl, [], rfl, Nat.le_refl _, rfl, by omega, fun h => absurd h (Nat.lt_irrefl _)⟩
 ·have hlm : len ≤ m := by rw [hmm]; split <;> omega
  have each : ∀ i, i < len → ∃ a' : α, ∃ cs', cs'.length = d.sz ∧ d.K w a' cs' ∧ ∀ j u, cs'[j]? = some u → w.cell? (a.add (i * d.sz + j)) = some u := by
   intro i hi
   obtain ⟨cs', h1, h2⟩ := hel i (by omega)
   obtain ⟨a', ha'⟩ := he h2
   obtain ⟨_, hlen, hcell⟩ := World.cells?_some h1
   refine ⟨a', cs', by omega, ha', fun j u hj => ?_⟩
   have hjl : j < cs'.length := (List.getElem?_eq_some_iff.1 hj).1
   have := hcell j (by omega)
   rw [Deep.add_add, hsz] at this
   rw [this, hj]
  obtain ⟨xs, hxs⟩ : ∃ xs : List α, xs.length = len ∧ ∀ i (h : i < xs.length), ∃ cs', cs'.length = d.sz ∧ d.K w xs[i] cs' ∧ ∀ j u, cs'[j]? = some u → w.cell? (a.add (i * d.sz + j)) = some u := by
   have key : ∀ k, k ≤ len → ∃ xs : List α, xs.length = k ∧ ∀ i (h : i < xs.length), ∃ cs', cs'.length = d.sz ∧ d.K w xs[i] cs' ∧ ∀ j u, cs'[j]? = some u → w.cell? (a.add (i * d.sz + j)) = some u := by
    intro k
    induction k with
    | zero => intro _; exact ⟨[], rfl, fun i h => absurd h (Nat.not_lt_zero _)⟩
    | succ k ih =>
     intro hk
     obtain ⟨xs, hl, hxs⟩ := ih (by omega)
     obtain ⟨a', ha'⟩ := each k (by omega)
     refine ⟨xs ++ [a'], by simp [hl], fun i h => ?_⟩
     by_cases hi : i < xs.length
     ·rw [List.getElem_append_left hi]
      exact hxs i hi
     ·have e : i = xs.length := by simp at h; omega
      subst e
      rw [List.getElem_append_right (Nat.le_refl _)]
      simp only [Nat.sub_self, List.getElem_cons_zero]
      rw [hl]
      exact ha'
   exact key len (Nat.le_refl _)
  refine ⟨some a, len, cap, rfl, xs, hxs.1, hl, hxs.1, ?_, fun _ => ⟨a, rfl, fun j p hj => ?_⟩⟩
  ·have : maxLen = 2 ^ 63 - 1 := rfl
   omega
  ·obtain ⟨hjl, rfl⟩ := List.getElem?_eq_some_iff.1 hj
   exact hxs.2 j hjl
theorem Opens.slice {α : Type} {P : Program} {d : Kd α} {t e : TypeId} (ht : P.underlying t = some (.slice e)) (hsz : P.cellsOf e = d.sz) (he : Opens P d e) : Opens P (Kd.slice e d) t := by
 intro H enc w base spare held fuel cs x hx
 obtain ⟨A, len, cap, rfl, xs, rfl, hl, hC⟩ := Opens.row ht hsz he hx
 exact ⟨xs, A, cap, rfl, hl, hC⟩
theorem open_arg {α : Type} {P : Program} {d : Kd α} {t e : TypeId} (ht : P.underlying t = some (.slice e)) (hsz : P.cellsOf e = d.sz) (he : Opens P d e) {H : Type} {enc : TypeId × Value → H} {w : World} {base : Nat} {spare : Nat → Bool} {held : Bool} {A : Option Addr} {len cap : Nat} {x : DataW H} {ps : List MemPlace}
  (hx : DataW.Trod enc P w base spare held t (.slice A len cap) x ps) : ∃ xs : List α, xs.length = len ∧ len ≤ cap ∧ d.C w A len xs := by
 obtain ⟨fuel, hf⟩ := hx
 obtain ⟨A', len', cap', e1, r⟩ := Opens.row ht hsz he hf
 simp [Value.cells] at e1
 obtain ⟨rfl, rfl, rfl⟩ := e1
 exact r
theorem sized_arg {H : Type} {enc : TypeId × Value → H} {P : Program} {W : World} {base : Nat} {spare : Nat → Bool} {held : Bool} {t e : TypeId} {a : Option Addr} {len cap : Nat} {d : DataW H} {ps : List MemPlace} {ts : List TypeId} {ds : List (DataW H)} {j : Nat}
  (hsz : (DataW.weightsEach P ts ds).all (· ≤ reachBytes) = true) (ht : ts[j]? = some t) (hd : ds[j]? = some d) (hu : P.underlying t = some (.slice e)) {B : Nat} (hB : P.bytesOf e = B)
  (h : DataW.Trod enc P W base spare held t (.slice a len cap) d ps) : len * B ≤ 140737488351232 := by
 obtain ⟨fuel, hf⟩ := h
 rcases Deep.open_slice hu hf with ⟨hcs, _⟩ | ⟨x, l, c, m, n, D, Pl, hcs, _, hl, _, hm, hx, _⟩
 ·simp [Value.cells] at hcs
  obtain ⟨rfl, rfl, rfl⟩ := hcs
  simp
 ·simp [Value.cells] at hcs
  obtain ⟨rfl, rfl, rfl⟩ := hcs
  obtain ⟨hx, _⟩ := Prod.mk.inj hx
  subst hx
  have z := sized_slice hsz ht hd hu
  rw [hB] at z
  simp only [List.length_map, List.length_range] at z
  exact Nat.le_trans (Nat.mul_le_mul_right _ (Nat.le_add_right _ _)) z
end Go.Proofs.YthjjabcbngffoaaH
end
