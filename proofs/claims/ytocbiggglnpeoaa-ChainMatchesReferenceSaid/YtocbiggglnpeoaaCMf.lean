/- Part 6 of the base that the seat's proofs share: words, walks and plain laws. -/
import Derived.Test.YtocbiggglnpeoaaCMe
set_option linter.unusedVariables false
set_option linter.unusedSimpArgs false
section
namespace Go.Proofs.Ytocbiggglnpeoaa.M
open Go.RowKit Go.Proofs.YtocbiggglnpeoaaW.PrintWords Go.Proofs.YtocbiggglnpeoaaW.PrintLast Go.Proofs.YtocbiggglnpeoaaW.PrintMore
attribute [local go_sem] max2_int min2_int max_two min_two max_three min_three max_four min_four
set_option linter.unusedVariables false
set_option linter.unusedSimpArgs false
def cohousinglaw26_head.j0 : Nat → List (S49) → List (S51) → List Int → List (S51) → List Int → List (S51) → List Int → Bool → List (S84) → List (S46) → Option (Bool)
 | 0, _, _, _, _, _, _, _, _, _, _ => none
 | k + 1, x2, x4, x5, x7, x8, x15, x16, x18, x156000, x156001 => if x18 = true then ((cohousingref26_SameMoves.f k x4 (([(⟨5, 1, 3⟩ : S51)] : List (S51)))).bind fun t183 => (if t183 = true then ((cohousingref23_SameInts.f k x5 (([0] : List Int))).bind fun t187 => (if t187 = true then (if 0 < (x2.length : Int) then ((cohousingref26_SameMoves.f k x7 ((rd_T49 x2 0).f1)).bind fun t189 => (if t189 = true then (if (x8.length : Int) = 0 then (if (x156001.length : Int) = 3 then (if 0 < (x156001.length : Int) then (if ((rd_T46 x156001 0).f1) = 3 then (if 1 < (x156001.length : Int) then (if ((rd_T46 x156001 1).f1) = 2 then (if (x15.length : Int) = 0 then ((cohousingref23_SameInts.f k x16 (([0] : List Int))).bind fun t195 => (some t195)) else (some false)) else (some false)) else (none)) else (some false)) else (none)) else (some false)) else (some false)) else (some false))) else (none)) else (some false))) else (some false))) else (some false)
def cohousinglaw26_head.f (k : Nat)  : Option (Bool) := (cohousinglaw26_example.f).bind fun bt121 => ((some (([(⟨1, 5, 1⟩ : S55), (⟨2, 6, 2⟩ : S55), (⟨1, 7, 2⟩ : S55), (⟨1, 6, 4⟩ : S55)] : List (S55)) : List (S55))).bind fun y131 => ((chain_Run.f bt121.1 bt121.2.1 bt121.2.2 3 y131).bind fun bt134 => ((chain_Run.f bt121.1 bt121.2.1 bt121.2.2 4 y131).bind fun bt141 => ((chain_Next.f bt121.1 bt121.2.1 bt134.1 ([] : List Int)).bind fun bt148 => ((chain_Next.f bt121.1 bt121.2.1 (([(⟨7, 0, 2⟩ : S51)] : List (S51))) ([] : List Int)).bind fun bt159 => ((chain_Run.f bt121.1 bt121.2.1 (([(⟨false, (([(⟨5, 1, 2⟩ : S51), (⟨6, 2, 1⟩ : S51)] : List (S51)))⟩ : S49)] : List (S49))) 3 y131).bind fun bt173 => (if bt134.2.2 = 0 then (if bt141.2.2 = 0 then (if bt148.2.2 = 0 then (if bt159.2.2 = 22 then (cohousinglaw26_head.j0 k bt121.2.2 bt134.1 bt134.2.1 bt141.1 bt141.2.1 bt173.1 bt173.2.1 (bt173.2.2 == 0) bt148.1 bt148.2.1) else (cohousinglaw26_head.j0 k bt121.2.2 bt134.1 bt134.2.1 bt141.1 bt141.2.1 bt173.1 bt173.2.1 false bt148.1 bt148.2.1)) else (cohousinglaw26_head.j0 k bt121.2.2 bt134.1 bt134.2.1 bt141.1 bt141.2.1 bt173.1 bt173.2.1 false bt148.1 bt148.2.1)) else (cohousinglaw26_head.j0 k bt121.2.2 bt134.1 bt134.2.1 bt141.1 bt141.2.1 bt173.1 bt173.2.1 false bt148.1 bt148.2.1)) else (cohousinglaw26_head.j0 k bt121.2.2 bt134.1 bt134.2.1 bt141.1 bt141.2.1 bt173.1 bt173.2.1 false bt148.1 bt148.2.1))))))))
theorem cohousinglaw26_head.mono_l : ∀ k, (∀ y0 y1 y2 y3 y4 y5 y6 y7 y8 y9, LeO (cohousinglaw26_head.j0 k y0 y1 y2 y3 y4 y5 y6 y7 y8 y9) (cohousinglaw26_head.j0 (k + 1) y0 y1 y2 y3 y4 y5 y6 y7 y8 y9))
 | 0 => fun _ _ _ _ _ _ _ _ _ _ r h => by simp [cohousinglaw26_head.j0] at h
 | k + 1 => by
  have ih0 := cohousinglaw26_head.mono_l k
  ·intro y0 y1 y2 y3 y4 y5 y6 y7 y8 y9
   unfold cohousinglaw26_head.j0
   repeat' first
   | (with_reducible exact ih0 _ _ _ _ _ _ _ _ _ _)
   | (with_reducible exact cohousingref23_SameInts.mono _ _ _)
   | (with_reducible exact cohousingref26_SameMoves.mono _ _ _)
   | (with_reducible exact LeO.refl _)
   | (with_reducible exact LeO.none _)
   | (with_reducible refine LeO.ite ?_ ?_)
   | (with_reducible refine LeO.bind ?_ (fun _ => ?_))
   | exact ih0 _ _ _ _ _ _ _ _ _ _
   | exact cohousingref23_SameInts.mono _ _ _
   | exact cohousingref26_SameMoves.mono _ _ _
   | exact LeO.none _
   | refine LeO.ite ?_ ?_
   | refine LeO.bind ?_ (fun _ => ?_)
theorem cohousinglaw26_head.mono : ∀ k, LeO (cohousinglaw26_head.f k ) (cohousinglaw26_head.f (k + 1) ) := by
 intro  k
 have ih0 := cohousinglaw26_head.mono_l k
 unfold cohousinglaw26_head.f
 repeat' first
   | (with_reducible exact ih0 _ _ _ _ _ _ _ _ _ _)
   | (with_reducible exact cohousingref23_SameInts.mono _ _ _)
   | (with_reducible exact cohousingref26_SameMoves.mono _ _ _)
   | (with_reducible exact LeO.refl _)
   | (with_reducible exact LeO.none _)
   | (with_reducible refine LeO.ite ?_ ?_)
   | (with_reducible refine LeO.bind ?_ (fun _ => ?_))
   | exact ih0 _ _ _ _ _ _ _ _ _ _
   | exact cohousingref23_SameInts.mono _ _ _
   | exact cohousingref26_SameMoves.mono _ _ _
   | exact LeO.none _
   | refine LeO.ite ?_ ?_
   | refine LeO.bind ?_ (fun _ => ?_)
theorem cohousinglaw26_head.yes : ∀ k r, cohousinglaw26_head.f k = some r → r = true := fun k r h => by
 have h1 : cohousinglaw26_head.f 60 = some true := by kernel_rfl
 have up : ∀ (d a : Nat) (x : Bool), cohousinglaw26_head.f a = some x → cohousinglaw26_head.f (a + d) = some x := fun d => by
  induction d with
  | zero => intro a x hx; exact hx
  | succ d ih => intro a x hx; exact cohousinglaw26_head.mono _ _ (ih a x hx)
 have h2 := up 60 k r h
 have h3 := up k 60 true h1
 rw [Nat.add_comm] at h3
 rw [h2] at h3
 exact Option.some.inj h3
set_option maxHeartbeats 8000000 in
set_option maxRecDepth 100000 in
theorem cohousinglaw26_head.calls (k : Nat)  (r : Bool) (w : World) (h : cohousinglaw26_head.f k  = some r) :
  Calls Try.prog 10 #[] w fun e w' => e = .returned (.bool r) ∧ Below w.heap.size w w' := by
 have hr_ := cohousinglaw26_head.yes k r h
 subst hr_
 have hu25 := Try.underlying25
 have hu55 := Try.underlying55
 have hu51 := Try.underlying51
 have hu49 := Try.underlying49
 have HB := mk_ (Below.refl w.heap.size w)
 have H : ((cohousinglaw26_example.f).bind fun bt121 => ((some (([(⟨1, 5, 1⟩ : S55), (⟨2, 6, 2⟩ : S55), (⟨1, 7, 2⟩ : S55), (⟨1, 6, 4⟩ : S55)] : List (S55)) : List (S55))).bind fun y131 => ((chain_Run.f bt121.1 bt121.2.1 bt121.2.2 3 y131).bind fun bt134 => ((chain_Run.f bt121.1 bt121.2.1 bt121.2.2 4 y131).bind fun bt141 => ((chain_Next.f bt121.1 bt121.2.1 bt134.1 ([] : List Int)).bind fun bt148 => ((chain_Next.f bt121.1 bt121.2.1 (([(⟨7, 0, 2⟩ : S51)] : List (S51))) ([] : List Int)).bind fun bt159 => ((chain_Run.f bt121.1 bt121.2.1 (([(⟨false, (([(⟨5, 1, 2⟩ : S51), (⟨6, 2, 1⟩ : S51)] : List (S51)))⟩ : S49)] : List (S49))) 3 y131).bind fun bt173 => (if bt134.2.2 = 0 then (if bt141.2.2 = 0 then (if bt148.2.2 = 0 then (if bt159.2.2 = 22 then (cohousinglaw26_head.j0 k bt121.2.2 bt134.1 bt134.2.1 bt141.1 bt141.2.1 bt173.1 bt173.2.1 (bt173.2.2 == 0) bt148.1 bt148.2.1) else (cohousinglaw26_head.j0 k bt121.2.2 bt134.1 bt134.2.1 bt141.1 bt141.2.1 bt173.1 bt173.2.1 false bt148.1 bt148.2.1)) else (cohousinglaw26_head.j0 k bt121.2.2 bt134.1 bt134.2.1 bt141.1 bt141.2.1 bt173.1 bt173.2.1 false bt148.1 bt148.2.1)) else (cohousinglaw26_head.j0 k bt121.2.2 bt134.1 bt134.2.1 bt141.1 bt141.2.1 bt173.1 bt173.2.1 false bt148.1 bt148.2.1)) else (cohousinglaw26_head.j0 k bt121.2.2 bt134.1 bt134.2.1 bt141.1 bt141.2.1 bt173.1 bt173.2.1 false bt148.1 bt148.2.1))))))))) = some true := h
 clear h
 replace H := Option.bind_eq_some_iff.mp H
 obtain ⟨⟨t121, t124, t127⟩, A10, H⟩ := H
 replace H : ((some (([(⟨1, 5, 1⟩ : S55), (⟨2, 6, 2⟩ : S55), (⟨1, 7, 2⟩ : S55), (⟨1, 6, 4⟩ : S55)] : List (S55)) : List (S55))).bind fun y131 => ((chain_Run.f t121 t124 t127 3 y131).bind fun bt134 => ((chain_Run.f t121 t124 t127 4 y131).bind fun bt141 => ((chain_Next.f t121 t124 bt134.1 ([] : List Int)).bind fun bt148 => ((chain_Next.f t121 t124 (([(⟨7, 0, 2⟩ : S51)] : List (S51))) ([] : List Int)).bind fun bt159 => ((chain_Run.f t121 t124 (([(⟨false, (([(⟨5, 1, 2⟩ : S51), (⟨6, 2, 1⟩ : S51)] : List (S51)))⟩ : S49)] : List (S49))) 3 y131).bind fun bt173 => (if bt134.2.2 = 0 then (if bt141.2.2 = 0 then (if bt148.2.2 = 0 then (if bt159.2.2 = 22 then (cohousinglaw26_head.j0 k t127 bt134.1 bt134.2.1 bt141.1 bt141.2.1 bt173.1 bt173.2.1 (bt173.2.2 == 0) bt148.1 bt148.2.1) else (cohousinglaw26_head.j0 k t127 bt134.1 bt134.2.1 bt141.1 bt141.2.1 bt173.1 bt173.2.1 false bt148.1 bt148.2.1)) else (cohousinglaw26_head.j0 k t127 bt134.1 bt134.2.1 bt141.1 bt141.2.1 bt173.1 bt173.2.1 false bt148.1 bt148.2.1)) else (cohousinglaw26_head.j0 k t127 bt134.1 bt134.2.1 bt141.1 bt141.2.1 bt173.1 bt173.2.1 false bt148.1 bt148.2.1)) else (cohousinglaw26_head.j0 k t127 bt134.1 bt134.2.1 bt141.1 bt141.2.1 bt173.1 bt173.2.1 false bt148.1 bt148.2.1)))))))) = some true := H
 have A1 := mk_ A10
 clear A10
 obtain ⟨y131, hy131⟩ : ∃ y_ : List (S55), y_ = (([(⟨1, 5, 1⟩ : S55), (⟨2, 6, 2⟩ : S55), (⟨1, 7, 2⟩ : S55), (⟨1, 6, 4⟩ : S55)] : List (S55))) := ⟨_, rfl⟩
 replace H : ((chain_Run.f t121 t124 t127 3 y131).bind fun bt134 => ((chain_Run.f t121 t124 t127 4 y131).bind fun bt141 => ((chain_Next.f t121 t124 bt134.1 ([] : List Int)).bind fun bt148 => ((chain_Next.f t121 t124 (([(⟨7, 0, 2⟩ : S51)] : List (S51))) ([] : List Int)).bind fun bt159 => ((chain_Run.f t121 t124 (([(⟨false, (([(⟨5, 1, 2⟩ : S51), (⟨6, 2, 1⟩ : S51)] : List (S51)))⟩ : S49)] : List (S49))) 3 y131).bind fun bt173 => (if bt134.2.2 = 0 then (if bt141.2.2 = 0 then (if bt148.2.2 = 0 then (if bt159.2.2 = 22 then (cohousinglaw26_head.j0 k t127 bt134.1 bt134.2.1 bt141.1 bt141.2.1 bt173.1 bt173.2.1 (bt173.2.2 == 0) bt148.1 bt148.2.1) else (cohousinglaw26_head.j0 k t127 bt134.1 bt134.2.1 bt141.1 bt141.2.1 bt173.1 bt173.2.1 false bt148.1 bt148.2.1)) else (cohousinglaw26_head.j0 k t127 bt134.1 bt134.2.1 bt141.1 bt141.2.1 bt173.1 bt173.2.1 false bt148.1 bt148.2.1)) else (cohousinglaw26_head.j0 k t127 bt134.1 bt134.2.1 bt141.1 bt141.2.1 bt173.1 bt173.2.1 false bt148.1 bt148.2.1)) else (cohousinglaw26_head.j0 k t127 bt134.1 bt134.2.1 bt141.1 bt141.2.1 bt173.1 bt173.2.1 false bt148.1 bt148.2.1))))))) = some true := by first | (rw [hy131]; with_reducible exact H) | (have H2_ := (Option.bind_some _ _).symm.trans H; rw [hy131]; with_reducible exact H2_) | (have H2_ := (Option.bind_some _ _).symm.trans H; with_reducible exact H2_) | with_reducible exact H | (rw [hy131]; exact H) | exact H
 have Ny131 := mk_ hy131
 clear hy131
 replace H := Option.bind_eq_some_iff.mp H
 obtain ⟨⟨t134, t137, t140⟩, A20, H⟩ := H
 replace H : ((chain_Run.f t121 t124 t127 4 y131).bind fun bt141 => ((chain_Next.f t121 t124 t134 ([] : List Int)).bind fun bt148 => ((chain_Next.f t121 t124 (([(⟨7, 0, 2⟩ : S51)] : List (S51))) ([] : List Int)).bind fun bt159 => ((chain_Run.f t121 t124 (([(⟨false, (([(⟨5, 1, 2⟩ : S51), (⟨6, 2, 1⟩ : S51)] : List (S51)))⟩ : S49)] : List (S49))) 3 y131).bind fun bt173 => (if t140 = 0 then (if bt141.2.2 = 0 then (if bt148.2.2 = 0 then (if bt159.2.2 = 22 then (cohousinglaw26_head.j0 k t127 t134 t137 bt141.1 bt141.2.1 bt173.1 bt173.2.1 (bt173.2.2 == 0) bt148.1 bt148.2.1) else (cohousinglaw26_head.j0 k t127 t134 t137 bt141.1 bt141.2.1 bt173.1 bt173.2.1 false bt148.1 bt148.2.1)) else (cohousinglaw26_head.j0 k t127 t134 t137 bt141.1 bt141.2.1 bt173.1 bt173.2.1 false bt148.1 bt148.2.1)) else (cohousinglaw26_head.j0 k t127 t134 t137 bt141.1 bt141.2.1 bt173.1 bt173.2.1 false bt148.1 bt148.2.1)) else (cohousinglaw26_head.j0 k t127 t134 t137 bt141.1 bt141.2.1 bt173.1 bt173.2.1 false bt148.1 bt148.2.1)))))) = some true := H
 have A2 := mk_ A20
 clear A20
 replace H := Option.bind_eq_some_iff.mp H
 obtain ⟨⟨t141, t144, t147⟩, A30, H⟩ := H
 replace H : ((chain_Next.f t121 t124 t134 ([] : List Int)).bind fun bt148 => ((chain_Next.f t121 t124 (([(⟨7, 0, 2⟩ : S51)] : List (S51))) ([] : List Int)).bind fun bt159 => ((chain_Run.f t121 t124 (([(⟨false, (([(⟨5, 1, 2⟩ : S51), (⟨6, 2, 1⟩ : S51)] : List (S51)))⟩ : S49)] : List (S49))) 3 y131).bind fun bt173 => (if t140 = 0 then (if t147 = 0 then (if bt148.2.2 = 0 then (if bt159.2.2 = 22 then (cohousinglaw26_head.j0 k t127 t134 t137 t141 t144 bt173.1 bt173.2.1 (bt173.2.2 == 0) bt148.1 bt148.2.1) else (cohousinglaw26_head.j0 k t127 t134 t137 t141 t144 bt173.1 bt173.2.1 false bt148.1 bt148.2.1)) else (cohousinglaw26_head.j0 k t127 t134 t137 t141 t144 bt173.1 bt173.2.1 false bt148.1 bt148.2.1)) else (cohousinglaw26_head.j0 k t127 t134 t137 t141 t144 bt173.1 bt173.2.1 false bt148.1 bt148.2.1)) else (cohousinglaw26_head.j0 k t127 t134 t137 t141 t144 bt173.1 bt173.2.1 false bt148.1 bt148.2.1))))) = some true := H
 have A3 := mk_ A30
 clear A30
 replace H := Option.bind_eq_some_iff.mp H
 obtain ⟨⟨t148, t151, t154⟩, A40, H⟩ := H
 replace H : ((chain_Next.f t121 t124 (([(⟨7, 0, 2⟩ : S51)] : List (S51))) ([] : List Int)).bind fun bt159 => ((chain_Run.f t121 t124 (([(⟨false, (([(⟨5, 1, 2⟩ : S51), (⟨6, 2, 1⟩ : S51)] : List (S51)))⟩ : S49)] : List (S49))) 3 y131).bind fun bt173 => (if t140 = 0 then (if t147 = 0 then (if t154 = 0 then (if bt159.2.2 = 22 then (cohousinglaw26_head.j0 k t127 t134 t137 t141 t144 bt173.1 bt173.2.1 (bt173.2.2 == 0) t148 t151) else (cohousinglaw26_head.j0 k t127 t134 t137 t141 t144 bt173.1 bt173.2.1 false t148 t151)) else (cohousinglaw26_head.j0 k t127 t134 t137 t141 t144 bt173.1 bt173.2.1 false t148 t151)) else (cohousinglaw26_head.j0 k t127 t134 t137 t141 t144 bt173.1 bt173.2.1 false t148 t151)) else (cohousinglaw26_head.j0 k t127 t134 t137 t141 t144 bt173.1 bt173.2.1 false t148 t151)))) = some true := H
 have A4 := mk_ A40
 clear A40
 obtain ⟨y156, hy156⟩ : ∃ y_ : List (S51), y_ = (([(⟨7, 0, 2⟩ : S51)] : List (S51))) := ⟨_, rfl⟩
 replace H : ((chain_Next.f t121 t124 y156 ([] : List Int)).bind fun bt159 => ((chain_Run.f t121 t124 (([(⟨false, (([(⟨5, 1, 2⟩ : S51), (⟨6, 2, 1⟩ : S51)] : List (S51)))⟩ : S49)] : List (S49))) 3 y131).bind fun bt173 => (if t140 = 0 then (if t147 = 0 then (if t154 = 0 then (if bt159.2.2 = 22 then (cohousinglaw26_head.j0 k t127 t134 t137 t141 t144 bt173.1 bt173.2.1 (bt173.2.2 == 0) t148 t151) else (cohousinglaw26_head.j0 k t127 t134 t137 t141 t144 bt173.1 bt173.2.1 false t148 t151)) else (cohousinglaw26_head.j0 k t127 t134 t137 t141 t144 bt173.1 bt173.2.1 false t148 t151)) else (cohousinglaw26_head.j0 k t127 t134 t137 t141 t144 bt173.1 bt173.2.1 false t148 t151)) else (cohousinglaw26_head.j0 k t127 t134 t137 t141 t144 bt173.1 bt173.2.1 false t148 t151)))) = some true := by first | (rw [hy156]; with_reducible exact H) | (have H2_ := (Option.bind_some _ _).symm.trans H; rw [hy156]; with_reducible exact H2_) | (have H2_ := (Option.bind_some _ _).symm.trans H; with_reducible exact H2_) | with_reducible exact H | (rw [hy156]; exact H) | exact H
 have Ny156 := mk_ hy156
 clear hy156
 replace H := Option.bind_eq_some_iff.mp H
 obtain ⟨⟨t159, t162, t165⟩, A50, H⟩ := H
 replace H : ((chain_Run.f t121 t124 (([(⟨false, (([(⟨5, 1, 2⟩ : S51), (⟨6, 2, 1⟩ : S51)] : List (S51)))⟩ : S49)] : List (S49))) 3 y131).bind fun bt173 => (if t140 = 0 then (if t147 = 0 then (if t154 = 0 then (if t165 = 22 then (cohousinglaw26_head.j0 k t127 t134 t137 t141 t144 bt173.1 bt173.2.1 (bt173.2.2 == 0) t148 t151) else (cohousinglaw26_head.j0 k t127 t134 t137 t141 t144 bt173.1 bt173.2.1 false t148 t151)) else (cohousinglaw26_head.j0 k t127 t134 t137 t141 t144 bt173.1 bt173.2.1 false t148 t151)) else (cohousinglaw26_head.j0 k t127 t134 t137 t141 t144 bt173.1 bt173.2.1 false t148 t151)) else (cohousinglaw26_head.j0 k t127 t134 t137 t141 t144 bt173.1 bt173.2.1 false t148 t151))) = some true := H
 have A5 := mk_ A50
 clear A50
 obtain ⟨y167, hy167⟩ : ∃ y_ : List (S51), y_ = (([(⟨5, 1, 2⟩ : S51), (⟨6, 2, 1⟩ : S51)] : List (S51))) := ⟨_, rfl⟩
 replace H : ((chain_Run.f t121 t124 (([(⟨false, y167⟩ : S49)] : List (S49))) 3 y131).bind fun bt173 => (if t140 = 0 then (if t147 = 0 then (if t154 = 0 then (if t165 = 22 then (cohousinglaw26_head.j0 k t127 t134 t137 t141 t144 bt173.1 bt173.2.1 (bt173.2.2 == 0) t148 t151) else (cohousinglaw26_head.j0 k t127 t134 t137 t141 t144 bt173.1 bt173.2.1 false t148 t151)) else (cohousinglaw26_head.j0 k t127 t134 t137 t141 t144 bt173.1 bt173.2.1 false t148 t151)) else (cohousinglaw26_head.j0 k t127 t134 t137 t141 t144 bt173.1 bt173.2.1 false t148 t151)) else (cohousinglaw26_head.j0 k t127 t134 t137 t141 t144 bt173.1 bt173.2.1 false t148 t151))) = some true := by first | (rw [hy167]; with_reducible exact H) | (have H2_ := (Option.bind_some _ _).symm.trans H; rw [hy167]; with_reducible exact H2_) | (have H2_ := (Option.bind_some _ _).symm.trans H; with_reducible exact H2_) | with_reducible exact H | (rw [hy167]; exact H) | exact H
 have Ny167 := mk_ hy167
 clear hy167
 obtain ⟨y170, hy170⟩ : ∃ y_ : List (S49), y_ = (([(⟨false, y167⟩ : S49)] : List (S49))) := ⟨_, rfl⟩
 replace H : ((chain_Run.f t121 t124 y170 3 y131).bind fun bt173 => (if t140 = 0 then (if t147 = 0 then (if t154 = 0 then (if t165 = 22 then (cohousinglaw26_head.j0 k t127 t134 t137 t141 t144 bt173.1 bt173.2.1 (bt173.2.2 == 0) t148 t151) else (cohousinglaw26_head.j0 k t127 t134 t137 t141 t144 bt173.1 bt173.2.1 false t148 t151)) else (cohousinglaw26_head.j0 k t127 t134 t137 t141 t144 bt173.1 bt173.2.1 false t148 t151)) else (cohousinglaw26_head.j0 k t127 t134 t137 t141 t144 bt173.1 bt173.2.1 false t148 t151)) else (cohousinglaw26_head.j0 k t127 t134 t137 t141 t144 bt173.1 bt173.2.1 false t148 t151))) = some true := by first | (rw [hy170]; with_reducible exact H) | (have H2_ := (Option.bind_some _ _).symm.trans H; rw [hy170]; with_reducible exact H2_) | (have H2_ := (Option.bind_some _ _).symm.trans H; with_reducible exact H2_) | with_reducible exact H | (rw [hy170]; exact H) | exact H
 have Ny170 := mk_ hy170
 clear hy170
 replace H := Option.bind_eq_some_iff.mp H
 obtain ⟨⟨t173, t176, t179⟩, A60, H⟩ := H
 replace H : (if t140 = 0 then (if t147 = 0 then (if t154 = 0 then (if t165 = 22 then (cohousinglaw26_head.j0 k t127 t134 t137 t141 t144 t173 t176 (t179 == 0) t148 t151) else (cohousinglaw26_head.j0 k t127 t134 t137 t141 t144 t173 t176 false t148 t151)) else (cohousinglaw26_head.j0 k t127 t134 t137 t141 t144 t173 t176 false t148 t151)) else (cohousinglaw26_head.j0 k t127 t134 t137 t141 t144 t173 t176 false t148 t151)) else (cohousinglaw26_head.j0 k t127 t134 t137 t141 t144 t173 t176 false t148 t151)) = some true := H
 have A6 := mk_ A60
 clear A60
 have HC7 := mk_ H
 clear H
 go_enter Try.func10, Try.ntmps10
 go_upto_region 9 with (first | ((with_reducible refine gate_callee (f := 29) rfl ?_); refine gl_ (some 20) Try.func29 #[] ?_; (with_reducible refine (cohousinglaw26_example.calls  t121 t124 t127 _ A1.out).mono ?_); rintro e w8 ⟨v122, v125, v128, rfl, ho0, ho1, ho2, hb⟩; refine ⟨_, rfl, ?_⟩; have n0_ := mk_ (Kd.R_lower (Kd.R_mono (ok' := fun k_ => True) ho0 (fun _ hk_ => trivial)) (below_size (bb_ HB))); have n1_ := mk_ (Kd.N_lower (Kd.N_mono (ok' := fun k_ => some k_ ≠ (v122 : Value).ownBlock ∧ some k_ ≠ (v128 : Value).ownBlock) ho1 (fun k_ hk_ => ⟨hk_.2.1, hk_.2.2⟩)) (below_size (bb_ HB))); have n2_ := mk_ (Kd.N_lower (Kd.N_mono (ok' := fun k_ => some k_ ≠ (v122 : Value).ownBlock ∧ some k_ ≠ (v125 : Value).ownBlock) ho2 (fun k_ hk_ => ⟨hk_.2.1, hk_.2.2⟩)) (below_size (bb_ HB))); have n3_ := mk_ (below_step (bb_ HB) hb); clear HB; revert n0_ n1_ n2_ n3_; intro HO123 HO126 HO129 HB; (try clear hb); (try clear hb2); (try clear hk); (try clear hi); (try clear ho0); (try clear ho1); (try clear ho2)) | ((with_reducible refine gate_dst (N := 1) rfl ?_); (try (refine gate_guard (by rfl) ?_; dsimp only)); refine box_event ?hg (N := 1) ?hd (cs := #[.slice none 0 0, .slice none 0 0]) (t := 25) ?hr ?_; (case hd => rfl); (case hg => rfl); (case hr => first | (go_simp; done) | (go_simp; rfl)); intro gb130 hg w9 hbox hb; have n0_ := mk_ (Kd.R_below (rr_ HO123) hb); have n1_ := mk_ (Kd.N_below (Kd.N_elderB (nn_ HO126) gb130 (Nat.le_of_eq hg.symm)) hb); have n2_ := mk_ (Kd.N_below (Kd.N_elderB (nn_ HO129) gb130 (Nat.le_of_eq hg.symm)) hb); have n3_ := mk_ (below_step (bb_ HB) hb); have n4_ := mk_ (hbox); have n5_ := mk_ (bz_ hg (bb_ HB)); have n6_ := mk_ (bz_ hg (bb_ HB)); clear HO123 HO126 HO129 HB; revert n0_ n1_ n2_ n3_ n4_ n5_ n6_; intro HO123 HO126 HO129 HB BK130 GW130 GE130; clear hb hbox hg; obtain ⟨Ao10, co10, eo10⟩ := Kd.R_slice HO123.out; subst eo10; have hcz11_0 := bc0_ BK130.out; have hcz11_1 := bc1_ BK130.out; have hfz11_0 := blk_frozen BK130.out 0; have hfz11_1 := blk_frozen BK130.out 1; obtain ⟨Ao12, co12, eo12⟩ := Kd.N_slice HO126.out; subst eo12) | ((with_reducible refine gate_dst (N := 27) rfl ?_); (try (refine gate_guard (by rfl) ?_; dsimp only)); refine Kd.R_lit k55 _ 55 ?hg (N := 27) ?hd (xs := ([(⟨1, 5, 1⟩ : S55), (⟨2, 6, 2⟩ : S55), (⟨1, 7, 2⟩ : S55), (⟨1, 6, 4⟩ : S55)] : List (S55))) (inner := [.int .i64 1, .int .i64 5, .int .i64 1, .int .i64 2, .int .i64 6, .int .i64 2, .int .i64 1, .int .i64 7, .int .i64 2, .int .i64 1, .int .i64 6, .int .i64 4]) (ok := fun _ => True) (okp := fun _ => True) ?hr ?hp (fun _ hk => hk) trivial (Below.refl _ _) (Nat.le_refl _) (by simp) ?_; (case hd => rfl); (case hg => rfl); (case hr => first | (go_simp; done) | (go_simp; rfl)); (case hp => exact (Reps.c3 (show Kd.M k55 _ _ _ (⟨1, 5, 1⟩ : S55) [.int .i64 1, .int .i64 5, .int .i64 1] from (k55_mkM _ _ _ (⟨1, 5, 1⟩ : S55) )) (Reps.c3 (show Kd.M k55 _ _ _ (⟨2, 6, 2⟩ : S55) [.int .i64 2, .int .i64 6, .int .i64 2] from (k55_mkM _ _ _ (⟨2, 6, 2⟩ : S55) )) (Reps.c3 (show Kd.M k55 _ _ _ (⟨1, 7, 2⟩ : S55) [.int .i64 1, .int .i64 7, .int .i64 2] from (k55_mkM _ _ _ (⟨1, 7, 2⟩ : S55) )) (Reps.c3 (show Kd.M k55 _ _ _ (⟨1, 6, 4⟩ : S55) [.int .i64 1, .int .i64 6, .int .i64 4] from (k55_mkM _ _ _ (⟨1, 6, 4⟩ : S55) )) (Reps.none _ _)))))); intro v132 w13 ho14 hb hg_ hnew_; clear hg_ hnew_; (first | rw [← Ny131.out] at ho14 | (simp only [Int.reduceToNat] at ho14; rw [← Ny131.out] at ho14)); have n0_ := mk_ (Kd.R_below (by (with_reducible repeat (first | apply Kd.R_alloc | apply Kd.R_drewN | apply Kd.R_drew)); exact (Kd.R_mono (Kd.R_far (p := ⟨gb130, 1, none⟩) (Kd.R_far (p := ⟨gb130, 0, none⟩) (Kd.R_types HO123.out BK130.out (by decide)) (fun _ hk => hk.2) (.slice Ao10 t121.length co10)) (fun _ hk => hk.2) (.slice Ao12 t124.length co12)) (fun _ h_ => h_.1))) hb); have n1_ := mk_ (Kd.N_elder' (by (with_reducible repeat (first | apply Kd.N_alloc | apply Kd.N_drewN | apply Kd.N_drew)); exact (Kd.N_mono (Kd.N_far (p := ⟨gb130, 1, none⟩) (Kd.N_far (p := ⟨gb130, 0, none⟩) (Kd.N_mono HO126.out (fun k_ hk => (⟨hk, hk.2⟩ : _ ∧ k_ ≠ gb130))) (fun _ hk => hk.2) (.slice Ao10 t121.length co10)) (fun _ hk => hk.2) (.slice Ao12 t124.length co12)) (fun _ h_ => h_.1))) (Kd.R_base ho14) hb); have n2_ := mk_ (Kd.N_elder' (by (with_reducible repeat (first | apply Kd.N_alloc | apply Kd.N_drewN | apply Kd.N_drew)); exact (Kd.N_mono (Kd.N_far (p := ⟨gb130, 1, none⟩) (Kd.N_far (p := ⟨gb130, 0, none⟩) (Kd.N_mono HO129.out (fun k_ hk => (⟨hk, hk.2⟩ : _ ∧ k_ ≠ gb130))) (fun _ hk => hk.2) (.slice Ao10 t121.length co10)) (fun _ hk => hk.2) (.slice Ao12 t124.length co12)) (fun _ h_ => h_.1))) (Kd.R_base ho14) hb); have n3_ := mk_ (Kd.R_lower ho14 (below_size (bs_ HB GE130.out))); have n4_ := mk_ (blk_below (g := gb130) (o := .cells #[.slice Ao10 t121.length co10, .slice Ao12 t124.length co12] 25 (0, 0)) (by (with_reducible repeat (first | refine blk_drewN ?_ _ | refine blk_drew ?_ | refine blk_alloc ?_ _)); refine blk_put (cs := #[.slice Ao10 t121.length co10, .slice none 0 0]) ?_ 1 _ rfl; (with_reducible repeat (first | refine blk_drewN ?_ _ | refine blk_drew ?_ | refine blk_alloc ?_ _)); refine blk_put (cs := #[.slice none 0 0, .slice none 0 0]) ?_ 0 _ rfl; (with_reducible repeat (first | refine blk_drewN ?_ _ | refine blk_drew ?_ | refine blk_alloc ?_ _)); exact BK130.out) hb); have n5_ := mk_ (below_step (bs_ HB GE130.out) hb); clear HO123 HO126 HO129 BK130 HB; revert n0_ n1_ n2_ n3_ n4_ n5_; intro HO123 HO126 HO129 HO133 BK130 HB; clear hb ho14; have hcz15_0 := bc0_ BK130.out; have hcz15_1 := bc1_ BK130.out; have hfz15_0 := blk_frozen BK130.out 0; have hfz15_1 := blk_frozen BK130.out 1; obtain ⟨Ao16, co16, eo16⟩ := Kd.N_slice HO129.out; subst eo16; obtain ⟨Ao17, co17, eo17⟩ := Kd.R_slice HO133.out; subst eo17) | ((with_reducible refine gate_callee (f := 13) rfl ?_); refine gl_ (some 32) Try.func13 #[.agg #[.slice Ao10 t121.length co10, .slice Ao12 t124.length co12], .slice Ao16 t127.length co16, .int .i64 3, .slice Ao17 y131.length co17] ?_; (with_reducible refine (chain_Run.calls _ _ t121 _ _ t124 _ _ t127 3 _ _ y131 t134 t137 t140 _ ?side1 ?side2 ?side3 ?side4 ?side5 ?side6 ?side7 ?side8 A2.out).mono ?_); (case side1 => exact cc_ ((Kd.R_reads' HO123.out).2.2)); (case side2 => exact (Kd.R_reads' HO123.out).2.1); (case side3 => exact cc_ ((Kd.N_reads' HO126.out).2.2)); (case side4 => exact (Kd.N_reads' HO126.out).2.1); (case side5 => exact cc_ ((Kd.N_reads' HO129.out).2.2)); (case side6 => exact (Kd.N_reads' HO129.out).2.1); (case side7 => exact cc_ ((Kd.R_reads' HO133.out).2.2)); (case side8 => exact (Kd.R_reads' HO133.out).2.1); rintro e w18 ⟨v135, v138, rfl, ho0, ho1, hb⟩; refine ⟨_, rfl, ?_⟩; have n0_ := mk_ (Kd.R_below (rr_ HO123) hb); have n1_ := mk_ (Kd.N_mono (Kd.N_told (Kd.N_told (Kd.N_old (nn_ HO126) hb) (Kd.R_base ho0)) (Kd.R_base ho1)) (fun _ h_ => h_.1)); have n2_ := mk_ (Kd.N_mono (Kd.N_told (Kd.N_told (Kd.N_old (nn_ HO129) hb) (Kd.R_base ho0)) (Kd.R_base ho1)) (fun _ h_ => h_.1)); have n3_ := mk_ (Kd.R_below (rr_ HO133) hb); have n4_ := mk_ (Kd.R_lower ho0 (below_size (bs_ HB GE130.out))); have n5_ := mk_ (Kd.R_lower ho1 (below_size (bs_ HB GE130.out))); have n6_ := mk_ (blk_below (kk_ BK130) hb); have n7_ := mk_ (below_step (bs_ HB GE130.out) hb); clear HO123 HO126 HO129 HO133 BK130 HB; revert n0_ n1_ n2_ n3_ n4_ n5_ n6_ n7_; intro HO123 HO126 HO129 HO133 HO136 HO139 BK130 HB; (try clear hb); (try clear hb2); (try clear hk); (try clear hi); (try clear ho0); (try clear ho1); have hcz19_0 := bc0_ BK130.out; have hcz19_1 := bc1_ BK130.out; have hfz19_0 := blk_frozen BK130.out 0; have hfz19_1 := blk_frozen BK130.out 1) | ((with_reducible refine gate_callee (f := 13) rfl ?_); refine gl_ (some 40) Try.func13 #[.agg #[.slice Ao10 t121.length co10, .slice Ao12 t124.length co12], .slice Ao16 t127.length co16, .int .i64 4, .slice Ao17 y131.length co17] ?_; (with_reducible refine (chain_Run.calls _ _ t121 _ _ t124 _ _ t127 4 _ _ y131 t141 t144 t147 _ ?side1 ?side2 ?side3 ?side4 ?side5 ?side6 ?side7 ?side8 A3.out).mono ?_); (case side1 => exact cc_ ((Kd.R_reads' HO123.out).2.2)); (case side2 => exact (Kd.R_reads' HO123.out).2.1); (case side3 => exact cc_ ((Kd.N_reads' HO126.out).2.2)); (case side4 => exact (Kd.N_reads' HO126.out).2.1); (case side5 => exact cc_ ((Kd.N_reads' HO129.out).2.2)); (case side6 => exact (Kd.N_reads' HO129.out).2.1); (case side7 => exact cc_ ((Kd.R_reads' HO133.out).2.2)); (case side8 => exact (Kd.R_reads' HO133.out).2.1); rintro e w20 ⟨v142, v145, rfl, ho0, ho1, hb⟩; refine ⟨_, rfl, ?_⟩; have n0_ := mk_ (Kd.R_below (rr_ HO123) hb); have n1_ := mk_ (Kd.N_mono (Kd.N_told (Kd.N_told (Kd.N_old (nn_ HO126) hb) (Kd.R_base ho0)) (Kd.R_base ho1)) (fun _ h_ => h_.1)); have n2_ := mk_ (Kd.N_mono (Kd.N_told (Kd.N_told (Kd.N_old (nn_ HO129) hb) (Kd.R_base ho0)) (Kd.R_base ho1)) (fun _ h_ => h_.1)); have n3_ := mk_ (Kd.R_below (rr_ HO133) hb); have n4_ := mk_ (Kd.R_elder' (rr_ HO136) (Kd.R_base ho0) hb); have n5_ := mk_ (Kd.R_elder' (rr_ HO139) (Kd.R_base ho1) hb); have n6_ := mk_ (Kd.R_lower (Kd.R_new' ho0 (Kd.R_lt (rr_ HO136))) (below_size (bs_ HB GE130.out))); have n7_ := mk_ (Kd.R_lower (Kd.R_new' ho1 (Kd.R_lt (rr_ HO139))) (below_size (bs_ HB GE130.out))); have n8_ := mk_ (blk_below (kk_ BK130) hb); have n9_ := mk_ (below_step (bs_ HB GE130.out) hb); clear HO123 HO126 HO129 HO133 HO136 HO139 BK130 HB; revert n0_ n1_ n2_ n3_ n4_ n5_ n6_ n7_ n8_ n9_; intro HO123 HO126 HO129 HO133 HO136 HO139 HO143 HO146 BK130 HB; (try clear hb); (try clear hb2); (try clear hk); (try clear hi); (try clear ho0); (try clear ho1); have hcz21_0 := bc0_ BK130.out; have hcz21_1 := bc1_ BK130.out; have hfz21_0 := blk_frozen BK130.out 0; have hfz21_1 := blk_frozen BK130.out 1; obtain ⟨Ao22, co22, eo22⟩ := Kd.R_slice HO136.out; subst eo22) | ((with_reducible refine gate_callee (f := 15) rfl ?_); refine gl_ (some 47) Try.func15 #[.agg #[.slice Ao10 t121.length co10, .slice Ao12 t124.length co12], .slice Ao22 t134.length co22, .slice none 0 0] ?_; (refine (chain_Next.calls _ _ t121 _ _ t124 _ _ t134 _ _ ([] : List Int) t148 t151 t154 _ ?side1 ?side2 ?side3 ?side4 ?side5 ?side6 ?side7 ?side8 A4.out).mono ?_); (case side1 => exact cc_ ((Kd.R_reads' HO123.out).2.2)); (case side2 => exact (Kd.R_reads' HO123.out).2.1); (case side3 => exact cc_ ((Kd.N_reads' HO126.out).2.2)); (case side4 => exact (Kd.N_reads' HO126.out).2.1); (case side5 => exact cc_ ((Kd.R_reads' HO136.out).2.2)); (case side6 => exact (Kd.R_reads' HO136.out).2.1); (case side7 => exact Kd.C_nil _ _); (case side8 => exact Nat.le_refl _); rintro e w23 ⟨v149, v152, rfl, ho0, ho1, hb⟩; refine ⟨_, rfl, ?_⟩; have n0_ := mk_ (Kd.R_elder' (rr_ HO123) (Kd.R_base ho0) hb); have n1_ := mk_ (Kd.N_mono (Kd.N_told (Kd.N_told (Kd.N_old (nn_ HO126) hb) (Kd.R_base ho0)) (Kd.S_base ho1)) (fun _ h_ => h_.1)); have n2_ := mk_ (Kd.N_mono (Kd.N_told (Kd.N_told (Kd.N_old (nn_ HO129) hb) (Kd.R_base ho0)) (Kd.S_base ho1)) (fun _ h_ => h_.1)); have n3_ := mk_ (Kd.R_below (rr_ HO133) hb); have n4_ := mk_ (Kd.R_below (rr_ HO136) hb); have n5_ := mk_ (Kd.R_below (rr_ HO139) hb); have n6_ := mk_ (Kd.R_below (rr_ HO143) hb); have n7_ := mk_ (Kd.R_below (rr_ HO146) hb); have n8_ := mk_ (Kd.R_lower (Kd.R_new' ho0 (Kd.R_lt (rr_ HO123))) (below_size (bs_ HB GE130.out))); have n9_ := mk_ (Kd.N_lower (Kd.N_mono (ok' := fun k_ => some k_ ≠ (v149 : Value).ownBlock ∧ some k_ ≠ (.slice Ao10 t121.length co10 : Value).ownBlock ∧ some k_ ≠ (.slice Ao12 t124.length co12 : Value).ownBlock ∧ some k_ ≠ (.slice Ao16 t127.length co16 : Value).ownBlock ∧ some k_ ≠ (.slice Ao17 y131.length co17 : Value).ownBlock ∧ some k_ ≠ (.slice Ao22 t134.length co22 : Value).ownBlock ∧ some k_ ≠ (v138 : Value).ownBlock ∧ some k_ ≠ (v142 : Value).ownBlock ∧ some k_ ≠ (v145 : Value).ownBlock ∧ k_ ≠ gb130) (Kd.S_N (Kd.S_bound (Kd.S_apart' ho1 (Kd.R_typed ho0) (by decide)))) (fun k_ hk_ => ⟨hk_.1.2, (Kd.fresh' (Kd.R_lt (rr_ HO123)) k_ hk_.2.1), (Kd.fresh' (Kd.N_lt (nn_ HO126)) k_ hk_.2.1), (Kd.fresh' (Kd.N_lt (nn_ HO129)) k_ hk_.2.1), (Kd.fresh' (Kd.R_lt (rr_ HO133)) k_ hk_.2.1), (Kd.fresh' (Kd.R_lt (rr_ HO136)) k_ hk_.2.1), (Kd.fresh' (Kd.R_lt (rr_ HO139)) k_ hk_.2.1), (Kd.fresh' (Kd.R_lt (rr_ HO143)) k_ hk_.2.1), (Kd.fresh' (Kd.R_lt (rr_ HO146)) k_ hk_.2.1), (Kd.freshB (g := gb130) (o := .cells #[.slice Ao10 t121.length co10, .slice Ao12 t124.length co12] 25 (0, 0)) (kk_ BK130) k_ hk_.2.1)⟩)) (below_size (bs_ HB GE130.out))); have n10_ := mk_ (blk_below (kk_ BK130) hb); have n11_ := mk_ (below_step (bs_ HB GE130.out) hb); clear HO123 HO126 HO129 HO133 HO136 HO139 HO143 HO146 BK130 HB; revert n0_ n1_ n2_ n3_ n4_ n5_ n6_ n7_ n8_ n9_ n10_ n11_; intro HO123 HO126 HO129 HO133 HO136 HO139 HO143 HO146 HO150 HO153 BK130 HB; (try clear hb); (try clear hb2); (try clear hk); (try clear hi); (try clear ho0); (try clear ho1)) | ((with_reducible refine gate_dst (N := 10) rfl ?_); (try (refine gate_guard (by rfl) ?_; dsimp only)); refine box_event ?hg (N := 10) ?hd (cs := #[.slice none 0 0, .slice none 0 0]) (t := 25) ?hr ?_; (case hd => rfl); (case hg => rfl); (case hr => first | (go_simp; done) | (go_simp; rfl)); intro gb155 hg w24 hbox hb; have n0_ := mk_ (Kd.R_below (rr_ HO123) hb); have n1_ := mk_ (Kd.N_below (Kd.N_elderB (nn_ HO126) gb155 (Nat.le_of_eq hg.symm)) hb); have n2_ := mk_ (Kd.N_below (Kd.N_elderB (nn_ HO129) gb155 (Nat.le_of_eq hg.symm)) hb); have n3_ := mk_ (Kd.R_below (rr_ HO133) hb); have n4_ := mk_ (Kd.R_below (rr_ HO136) hb); have n5_ := mk_ (Kd.R_below (rr_ HO139) hb); have n6_ := mk_ (Kd.R_below (rr_ HO143) hb); have n7_ := mk_ (Kd.R_below (rr_ HO146) hb); have n8_ := mk_ (Kd.R_below (rr_ HO150) hb); have n9_ := mk_ (Kd.N_below (Kd.N_elderB (nn_ HO153) gb155 (Nat.le_of_eq hg.symm)) hb); have n10_ := mk_ (blk_below (kk_ BK130) hb); have n11_ := mk_ (below_step (bs_ HB GE130.out) hb); have n12_ := mk_ (hbox); have n13_ := mk_ (bz_ hg (bs_ HB GE130.out)); have n14_ := mk_ (bz_ hg (bs_ HB GE130.out)); have n15_ := mk_ (bl_ hg (kk_ BK130)); have n16_ := mk_ (bg_ hg (kk_ BK130)); clear HO123 HO126 HO129 HO133 HO136 HO139 HO143 HO146 HO150 HO153 BK130 HB; revert n0_ n1_ n2_ n3_ n4_ n5_ n6_ n7_ n8_ n9_ n10_ n11_ n12_ n13_ n14_ n15_ n16_; intro HO123 HO126 HO129 HO133 HO136 HO139 HO143 HO146 HO150 HO153 BK130 HB BK155 GW155 GE155 NB130_155 NB155_130; clear hb hbox hg; obtain ⟨Ao25, co25, eo25⟩ := Kd.R_slice HO150.out; subst eo25; have hnb26 := NB155_130.out; have hnc26 := NB130_155.out; have hcz27_0 := bc0_ BK155.out; have hcz27_1 := bc1_ BK155.out; have hfz27_0 := blk_frozen BK155.out 0; have hfz27_1 := blk_frozen BK155.out 1; obtain ⟨Ao28, co28, eo28⟩ := Kd.N_slice HO153.out; subst eo28; have hcz29_0 := bc0_ BK130.out; have hcz29_1 := bc1_ BK130.out; have hfz29_0 := blk_frozen BK130.out 0; have hfz29_1 := blk_frozen BK130.out 1) | ((with_reducible refine gate_dst (N := 53) rfl ?_); (try (refine gate_guard (by rfl) ?_; dsimp only)); refine Kd.R_lit k51 _ 51 ?hg (N := 53) ?hd (xs := ([(⟨7, 0, 2⟩ : S51)] : List (S51))) (inner := [.int .i64 7, .int .i64 0, .int .i64 2]) (ok := fun _ => True) (okp := fun _ => True) ?hr ?hp (fun _ hk => hk) trivial (Below.refl _ _) (Nat.le_refl _) (by simp) ?_; (case hd => rfl); (case hg => rfl); (case hr => first | (go_simp; done) | (go_simp; rfl)); (case hp => exact (Reps.c3 (show Kd.M k51 _ _ _ (⟨7, 0, 2⟩ : S51) [.int .i64 7, .int .i64 0, .int .i64 2] from (k51_mkM _ _ _ (⟨7, 0, 2⟩ : S51) )) (Reps.none _ _))); intro v157 w30 ho31 hb hg_ hnew_; clear hg_ hnew_; (first | rw [← Ny156.out] at ho31 | (simp only [Int.reduceToNat] at ho31; rw [← Ny156.out] at ho31)); have n0_ := mk_ (Kd.R_below (by (with_reducible repeat (first | apply Kd.R_alloc | apply Kd.R_drewN | apply Kd.R_drew)); exact (Kd.R_mono (Kd.R_far (p := ⟨gb155, 1, none⟩) (Kd.R_far (p := ⟨gb155, 0, none⟩) (Kd.R_types HO123.out BK155.out (by decide)) (fun _ hk => hk.2) (.slice Ao25 t148.length co25)) (fun _ hk => hk.2) (.slice Ao28 t151.length co28)) (fun _ h_ => h_.1))) hb); have n1_ := mk_ (Kd.N_elder' (by (with_reducible repeat (first | apply Kd.N_alloc | apply Kd.N_drewN | apply Kd.N_drew)); exact (Kd.N_mono (Kd.N_far (p := ⟨gb155, 1, none⟩) (Kd.N_far (p := ⟨gb155, 0, none⟩) (Kd.N_mono HO126.out (fun k_ hk => (⟨hk, hk.2⟩ : _ ∧ k_ ≠ gb155))) (fun _ hk => hk.2) (.slice Ao25 t148.length co25)) (fun _ hk => hk.2) (.slice Ao28 t151.length co28)) (fun _ h_ => h_.1))) (Kd.R_base ho31) hb); have n2_ := mk_ (Kd.N_elder' (by (with_reducible repeat (first | apply Kd.N_alloc | apply Kd.N_drewN | apply Kd.N_drew)); exact (Kd.N_mono (Kd.N_far (p := ⟨gb155, 1, none⟩) (Kd.N_far (p := ⟨gb155, 0, none⟩) (Kd.N_mono HO129.out (fun k_ hk => (⟨hk, hk.2⟩ : _ ∧ k_ ≠ gb155))) (fun _ hk => hk.2) (.slice Ao25 t148.length co25)) (fun _ hk => hk.2) (.slice Ao28 t151.length co28)) (fun _ h_ => h_.1))) (Kd.R_base ho31) hb); have n3_ := mk_ (Kd.R_below (by (with_reducible repeat (first | apply Kd.R_alloc | apply Kd.R_drewN | apply Kd.R_drew)); exact (Kd.R_mono (Kd.R_far (p := ⟨gb155, 1, none⟩) (Kd.R_far (p := ⟨gb155, 0, none⟩) (Kd.R_types HO133.out BK155.out (by decide)) (fun _ hk => hk.2) (.slice Ao25 t148.length co25)) (fun _ hk => hk.2) (.slice Ao28 t151.length co28)) (fun _ h_ => h_.1))) hb); have n4_ := mk_ (Kd.R_elder' (by (with_reducible repeat (first | apply Kd.R_alloc | apply Kd.R_drewN | apply Kd.R_drew)); exact (Kd.R_mono (Kd.R_far (p := ⟨gb155, 1, none⟩) (Kd.R_far (p := ⟨gb155, 0, none⟩) (Kd.R_types HO136.out BK155.out (by decide)) (fun _ hk => hk.2) (.slice Ao25 t148.length co25)) (fun _ hk => hk.2) (.slice Ao28 t151.length co28)) (fun _ h_ => h_.1))) (Kd.R_base ho31) hb); have n5_ := mk_ (Kd.R_below (by (with_reducible repeat (first | apply Kd.R_alloc | apply Kd.R_drewN | apply Kd.R_drew)); exact (Kd.R_mono (Kd.R_far (p := ⟨gb155, 1, none⟩) (Kd.R_far (p := ⟨gb155, 0, none⟩) (Kd.R_types HO139.out BK155.out (by decide)) (fun _ hk => hk.2) (.slice Ao25 t148.length co25)) (fun _ hk => hk.2) (.slice Ao28 t151.length co28)) (fun _ h_ => h_.1))) hb); have n6_ := mk_ (Kd.R_elder' (by (with_reducible repeat (first | apply Kd.R_alloc | apply Kd.R_drewN | apply Kd.R_drew)); exact (Kd.R_mono (Kd.R_far (p := ⟨gb155, 1, none⟩) (Kd.R_far (p := ⟨gb155, 0, none⟩) (Kd.R_types HO143.out BK155.out (by decide)) (fun _ hk => hk.2) (.slice Ao25 t148.length co25)) (fun _ hk => hk.2) (.slice Ao28 t151.length co28)) (fun _ h_ => h_.1))) (Kd.R_base ho31) hb); have n7_ := mk_ (Kd.R_below (by (with_reducible repeat (first | apply Kd.R_alloc | apply Kd.R_drewN | apply Kd.R_drew)); exact (Kd.R_mono (Kd.R_far (p := ⟨gb155, 1, none⟩) (Kd.R_far (p := ⟨gb155, 0, none⟩) (Kd.R_types HO146.out BK155.out (by decide)) (fun _ hk => hk.2) (.slice Ao25 t148.length co25)) (fun _ hk => hk.2) (.slice Ao28 t151.length co28)) (fun _ h_ => h_.1))) hb); have n8_ := mk_ (Kd.R_below (by (with_reducible repeat (first | apply Kd.R_alloc | apply Kd.R_drewN | apply Kd.R_drew)); exact (Kd.R_mono (Kd.R_far (p := ⟨gb155, 1, none⟩) (Kd.R_far (p := ⟨gb155, 0, none⟩) (Kd.R_types HO150.out BK155.out (by decide)) (fun _ hk => hk.2) (.slice Ao25 t148.length co25)) (fun _ hk => hk.2) (.slice Ao28 t151.length co28)) (fun _ h_ => h_.1))) hb); have n9_ := mk_ (Kd.N_elder' (by (with_reducible repeat (first | apply Kd.N_alloc | apply Kd.N_drewN | apply Kd.N_drew)); exact (Kd.N_mono (Kd.N_far (p := ⟨gb155, 1, none⟩) (Kd.N_far (p := ⟨gb155, 0, none⟩) (Kd.N_mono HO153.out (fun k_ hk => (⟨hk, hk.2⟩ : _ ∧ k_ ≠ gb155))) (fun _ hk => hk.2) (.slice Ao25 t148.length co25)) (fun _ hk => hk.2) (.slice Ao28 t151.length co28)) (fun _ h_ => h_.1))) (Kd.R_base ho31) hb); have n10_ := mk_ (Kd.R_lower (Kd.R_new' (Kd.R_new' ho31 (Kd.R_lt (by (with_reducible repeat (first | apply Kd.R_alloc | apply Kd.R_drewN | apply Kd.R_drew)); exact (Kd.R_mono (Kd.R_far (p := ⟨gb155, 1, none⟩) (Kd.R_far (p := ⟨gb155, 0, none⟩) (Kd.R_types HO136.out BK155.out (by decide)) (fun _ hk => hk.2) (.slice Ao25 t148.length co25)) (fun _ hk => hk.2) (.slice Ao28 t151.length co28)) (fun _ h_ => h_.1))))) (Kd.R_lt (by (with_reducible repeat (first | apply Kd.R_alloc | apply Kd.R_drewN | apply Kd.R_drew)); exact (Kd.R_mono (Kd.R_far (p := ⟨gb155, 1, none⟩) (Kd.R_far (p := ⟨gb155, 0, none⟩) (Kd.R_types HO143.out BK155.out (by decide)) (fun _ hk => hk.2) (.slice Ao25 t148.length co25)) (fun _ hk => hk.2) (.slice Ao28 t151.length co28)) (fun _ h_ => h_.1))))) (below_size (bs2_ HB GE130 GE155))); have n11_ := mk_ (blk_below (g := gb130) (o := .cells #[.slice Ao10 t121.length co10, .slice Ao12 t124.length co12] 25 (0, 0)) (by (with_reducible repeat (first | refine blk_drewN ?_ _ | refine blk_drew ?_ | refine blk_alloc ?_ _)); refine blk_far ?_ NB130_155.out _; (with_reducible repeat (first | refine blk_drewN ?_ _ | refine blk_drew ?_ | refine blk_alloc ?_ _)); refine blk_far ?_ NB130_155.out _; (with_reducible repeat (first | refine blk_drewN ?_ _ | refine blk_drew ?_ | refine blk_alloc ?_ _)); exact BK130.out) hb); have n12_ := mk_ (blk_below (g := gb155) (o := .cells #[.slice Ao25 t148.length co25, .slice Ao28 t151.length co28] 25 (0, 0)) (by (with_reducible repeat (first | refine blk_drewN ?_ _ | refine blk_drew ?_ | refine blk_alloc ?_ _)); refine blk_put (cs := #[.slice Ao25 t148.length co25, .slice none 0 0]) ?_ 1 _ rfl; (with_reducible repeat (first | refine blk_drewN ?_ _ | refine blk_drew ?_ | refine blk_alloc ?_ _)); refine blk_put (cs := #[.slice none 0 0, .slice none 0 0]) ?_ 0 _ rfl; (with_reducible repeat (first | refine blk_drewN ?_ _ | refine blk_drew ?_ | refine blk_alloc ?_ _)); exact BK155.out) hb); have n13_ := mk_ (below_step (bs2_ HB GE130 GE155) hb); clear HO123 HO126 HO129 HO133 HO136 HO139 HO143 HO146 HO150 HO153 BK130 BK155 HB; revert n0_ n1_ n2_ n3_ n4_ n5_ n6_ n7_ n8_ n9_ n10_ n11_ n12_ n13_; intro HO123 HO126 HO129 HO133 HO136 HO139 HO143 HO146 HO150 HO153 HO158 BK130 BK155 HB; clear hb ho31; obtain ⟨Ao32, co32, eo32⟩ := Kd.R_slice HO158.out; subst eo32) | ((with_reducible refine gate_callee (f := 15) rfl ?_); refine gl_ (some 54) Try.func15 #[.agg #[.slice Ao10 t121.length co10, .slice Ao12 t124.length co12], .slice Ao32 y156.length co32, .slice none 0 0] ?_; (refine (chain_Next.calls _ _ t121 _ _ t124 _ _ y156 _ _ ([] : List Int) t159 t162 t165 _ ?side1 ?side2 ?side3 ?side4 ?side5 ?side6 ?side7 ?side8 A5.out).mono ?_); (case side1 => exact cc_ ((Kd.R_reads' HO123.out).2.2)); (case side2 => exact (Kd.R_reads' HO123.out).2.1); (case side3 => exact cc_ ((Kd.N_reads' HO126.out).2.2)); (case side4 => exact (Kd.N_reads' HO126.out).2.1); (case side5 => exact cc_ ((Kd.R_reads' HO158.out).2.2)); (case side6 => exact (Kd.R_reads' HO158.out).2.1); (case side7 => exact Kd.C_nil _ _); (case side8 => exact Nat.le_refl _); rintro e w33 ⟨v160, v163, rfl, ho0, ho1, hb⟩; refine ⟨_, rfl, ?_⟩; have n0_ := mk_ (Kd.R_elder' (rr_ HO123) (Kd.R_base ho0) hb); have n1_ := mk_ (Kd.N_mono (Kd.N_told (Kd.N_told (Kd.N_old (nn_ HO126) hb) (Kd.R_base ho0)) (Kd.S_base ho1)) (fun _ h_ => h_.1)); have n2_ := mk_ (Kd.N_mono (Kd.N_told (Kd.N_told (Kd.N_old (nn_ HO129) hb) (Kd.R_base ho0)) (Kd.S_base ho1)) (fun _ h_ => h_.1)); have n3_ := mk_ (Kd.R_below (rr_ HO133) hb); have n4_ := mk_ (Kd.R_below (rr_ HO136) hb); have n5_ := mk_ (Kd.R_below (rr_ HO139) hb); have n6_ := mk_ (Kd.R_below (rr_ HO143) hb); have n7_ := mk_ (Kd.R_below (rr_ HO146) hb); have n8_ := mk_ (Kd.R_elder' (rr_ HO150) (Kd.R_base ho0) hb); have n9_ := mk_ (Kd.N_mono (Kd.N_told (Kd.N_told (Kd.N_old (nn_ HO153) hb) (Kd.R_base ho0)) (Kd.S_base ho1)) (fun _ h_ => h_.1)); have n10_ := mk_ (Kd.R_below (rr_ HO158) hb); have n11_ := mk_ (Kd.R_lower (Kd.R_new' (Kd.R_new' ho0 (Kd.R_lt (rr_ HO123))) (Kd.R_lt (rr_ HO150))) (below_size (bs2_ HB GE130 GE155))); have n12_ := mk_ (Kd.N_lower (Kd.N_mono (ok' := fun k_ => some k_ ≠ (v160 : Value).ownBlock ∧ some k_ ≠ (.slice Ao10 t121.length co10 : Value).ownBlock ∧ some k_ ≠ (.slice Ao12 t124.length co12 : Value).ownBlock ∧ some k_ ≠ (.slice Ao16 t127.length co16 : Value).ownBlock ∧ some k_ ≠ (.slice Ao17 y131.length co17 : Value).ownBlock ∧ some k_ ≠ (.slice Ao22 t134.length co22 : Value).ownBlock ∧ some k_ ≠ (v138 : Value).ownBlock ∧ some k_ ≠ (v142 : Value).ownBlock ∧ some k_ ≠ (v145 : Value).ownBlock ∧ some k_ ≠ (.slice Ao25 t148.length co25 : Value).ownBlock ∧ some k_ ≠ (.slice Ao28 t151.length co28 : Value).ownBlock ∧ some k_ ≠ (.slice Ao32 y156.length co32 : Value).ownBlock ∧ k_ ≠ gb130 ∧ k_ ≠ gb155) (Kd.S_N (Kd.S_bound (Kd.S_apart' ho1 (Kd.R_typed ho0) (by decide)))) (fun k_ hk_ => ⟨hk_.1.2, (Kd.fresh' (Kd.R_lt (rr_ HO123)) k_ hk_.2.1), (Kd.fresh' (Kd.N_lt (nn_ HO126)) k_ hk_.2.1), (Kd.fresh' (Kd.N_lt (nn_ HO129)) k_ hk_.2.1), (Kd.fresh' (Kd.R_lt (rr_ HO133)) k_ hk_.2.1), (Kd.fresh' (Kd.R_lt (rr_ HO136)) k_ hk_.2.1), (Kd.fresh' (Kd.R_lt (rr_ HO139)) k_ hk_.2.1), (Kd.fresh' (Kd.R_lt (rr_ HO143)) k_ hk_.2.1), (Kd.fresh' (Kd.R_lt (rr_ HO146)) k_ hk_.2.1), (Kd.fresh' (Kd.R_lt (rr_ HO150)) k_ hk_.2.1), (Kd.fresh' (Kd.N_lt (nn_ HO153)) k_ hk_.2.1), (Kd.fresh' (Kd.R_lt (rr_ HO158)) k_ hk_.2.1), (Kd.freshB (g := gb130) (o := .cells #[.slice Ao10 t121.length co10, .slice Ao12 t124.length co12] 25 (0, 0)) (kk_ BK130) k_ hk_.2.1), (Kd.freshB (g := gb155) (o := .cells #[.slice Ao25 t148.length co25, .slice Ao28 t151.length co28] 25 (0, 0)) (kk_ BK155) k_ hk_.2.1)⟩)) (below_size (bs2_ HB GE130 GE155))); have n13_ := mk_ (blk_below (kk_ BK130) hb); have n14_ := mk_ (blk_below (kk_ BK155) hb); have n15_ := mk_ (below_step (bs2_ HB GE130 GE155) hb); clear HO123 HO126 HO129 HO133 HO136 HO139 HO143 HO146 HO150 HO153 HO158 BK130 BK155 HB; revert n0_ n1_ n2_ n3_ n4_ n5_ n6_ n7_ n8_ n9_ n10_ n11_ n12_ n13_ n14_ n15_; intro HO123 HO126 HO129 HO133 HO136 HO139 HO143 HO146 HO150 HO153 HO158 HO161 HO164 BK130 BK155 HB; (try clear hb); (try clear hb2); (try clear hk); (try clear hi); (try clear ho0); (try clear ho1)) | ((with_reducible refine gate_dst (N := 12) rfl ?_); (try (refine gate_guard (by rfl) ?_; dsimp only)); refine box_event ?hg (N := 12) ?hd (cs := #[.slice none 0 0, .slice none 0 0]) (t := 25) ?hr ?_; (case hd => rfl); (case hg => rfl); (case hr => first | (go_simp; done) | (go_simp; rfl)); intro gb166 hg w34 hbox hb; have n0_ := mk_ (Kd.R_below (rr_ HO123) hb); have n1_ := mk_ (Kd.N_below (Kd.N_elderB (nn_ HO126) gb166 (Nat.le_of_eq hg.symm)) hb); have n2_ := mk_ (Kd.N_below (Kd.N_elderB (nn_ HO129) gb166 (Nat.le_of_eq hg.symm)) hb); have n3_ := mk_ (Kd.R_below (rr_ HO133) hb); have n4_ := mk_ (Kd.R_below (rr_ HO136) hb); have n5_ := mk_ (Kd.R_below (rr_ HO139) hb); have n6_ := mk_ (Kd.R_below (rr_ HO143) hb); have n7_ := mk_ (Kd.R_below (rr_ HO146) hb); have n8_ := mk_ (Kd.R_below (rr_ HO150) hb); have n9_ := mk_ (Kd.N_below (Kd.N_elderB (nn_ HO153) gb166 (Nat.le_of_eq hg.symm)) hb); have n10_ := mk_ (Kd.R_below (rr_ HO158) hb); have n11_ := mk_ (Kd.R_below (rr_ HO161) hb); have n12_ := mk_ (Kd.N_below (Kd.N_elderB (nn_ HO164) gb166 (Nat.le_of_eq hg.symm)) hb); have n13_ := mk_ (blk_below (kk_ BK130) hb); have n14_ := mk_ (blk_below (kk_ BK155) hb); have n15_ := mk_ (below_step (bs2_ HB GE130 GE155) hb); have n16_ := mk_ (hbox); have n17_ := mk_ (bz_ hg (bs2_ HB GE130 GE155)); have n18_ := mk_ (bz_ hg (bs2_ HB GE130 GE155)); have n19_ := mk_ (bl_ hg (kk_ BK130)); have n20_ := mk_ (bg_ hg (kk_ BK130)); have n21_ := mk_ (bl_ hg (kk_ BK155)); have n22_ := mk_ (bg_ hg (kk_ BK155)); clear HO123 HO126 HO129 HO133 HO136 HO139 HO143 HO146 HO150 HO153 HO158 HO161 HO164 BK130 BK155 HB; revert n0_ n1_ n2_ n3_ n4_ n5_ n6_ n7_ n8_ n9_ n10_ n11_ n12_ n13_ n14_ n15_ n16_ n17_ n18_ n19_ n20_ n21_ n22_; intro HO123 HO126 HO129 HO133 HO136 HO139 HO143 HO146 HO150 HO153 HO158 HO161 HO164 BK130 BK155 HB BK166 GW166 GE166 NB130_166 NB166_130 NB155_166 NB166_155; clear hb hbox hg; obtain ⟨Ao35, co35, eo35⟩ := Kd.R_slice HO161.out; subst eo35; have hnb36 := NB166_130.out; have hnc36 := NB130_166.out; have hnb37 := NB166_155.out; have hnc37 := NB155_166.out; have hcz38_0 := bc0_ BK166.out; have hcz38_1 := bc1_ BK166.out; have hfz38_0 := blk_frozen BK166.out 0; have hfz38_1 := blk_frozen BK166.out 1; obtain ⟨Ao39, co39, eo39⟩ := Kd.N_slice HO164.out; subst eo39) | ((with_reducible refine gate_dst (N := 59) rfl ?_); (try (refine gate_guard (by rfl) ?_; dsimp only)); refine Kd.R_lit k51 _ 51 ?hg (N := 59) ?hd (xs := ([(⟨5, 1, 2⟩ : S51), (⟨6, 2, 1⟩ : S51)] : List (S51))) (inner := [.int .i64 5, .int .i64 1, .int .i64 2, .int .i64 6, .int .i64 2, .int .i64 1]) (ok := fun _ => True) (okp := fun _ => True) ?hr ?hp (fun _ hk => hk) trivial (Below.refl _ _) (Nat.le_refl _) (by simp) ?_; (case hd => rfl); (case hg => rfl); (case hr => first | (go_simp; done) | (go_simp; rfl)); (case hp => exact (Reps.c3 (show Kd.M k51 _ _ _ (⟨5, 1, 2⟩ : S51) [.int .i64 5, .int .i64 1, .int .i64 2] from (k51_mkM _ _ _ (⟨5, 1, 2⟩ : S51) )) (Reps.c3 (show Kd.M k51 _ _ _ (⟨6, 2, 1⟩ : S51) [.int .i64 6, .int .i64 2, .int .i64 1] from (k51_mkM _ _ _ (⟨6, 2, 1⟩ : S51) )) (Reps.none _ _)))); intro v168 w40 ho41 hb hg_ hnew_; clear hg_ hnew_; (first | rw [← Ny167.out] at ho41 | (simp only [Int.reduceToNat] at ho41; rw [← Ny167.out] at ho41)); have n0_ := mk_ (Kd.R_below (by (with_reducible repeat (first | apply Kd.R_alloc | apply Kd.R_drewN | apply Kd.R_drew)); exact (Kd.R_mono (Kd.R_far (p := ⟨gb166, 1, none⟩) (Kd.R_far (p := ⟨gb166, 0, none⟩) (Kd.R_types HO123.out BK166.out (by decide)) (fun _ hk => hk.2) (.slice Ao35 t159.length co35)) (fun _ hk => hk.2) (.slice Ao39 t162.length co39)) (fun _ h_ => h_.1))) hb); have n1_ := mk_ (Kd.N_elder' (by (with_reducible repeat (first | apply Kd.N_alloc | apply Kd.N_drewN | apply Kd.N_drew)); exact (Kd.N_mono (Kd.N_far (p := ⟨gb166, 1, none⟩) (Kd.N_far (p := ⟨gb166, 0, none⟩) (Kd.N_mono HO126.out (fun k_ hk => (⟨hk, hk.2⟩ : _ ∧ k_ ≠ gb166))) (fun _ hk => hk.2) (.slice Ao35 t159.length co35)) (fun _ hk => hk.2) (.slice Ao39 t162.length co39)) (fun _ h_ => h_.1))) (Kd.R_base ho41) hb); have n2_ := mk_ (Kd.N_elder' (by (with_reducible repeat (first | apply Kd.N_alloc | apply Kd.N_drewN | apply Kd.N_drew)); exact (Kd.N_mono (Kd.N_far (p := ⟨gb166, 1, none⟩) (Kd.N_far (p := ⟨gb166, 0, none⟩) (Kd.N_mono HO129.out (fun k_ hk => (⟨hk, hk.2⟩ : _ ∧ k_ ≠ gb166))) (fun _ hk => hk.2) (.slice Ao35 t159.length co35)) (fun _ hk => hk.2) (.slice Ao39 t162.length co39)) (fun _ h_ => h_.1))) (Kd.R_base ho41) hb); have n3_ := mk_ (Kd.R_below (by (with_reducible repeat (first | apply Kd.R_alloc | apply Kd.R_drewN | apply Kd.R_drew)); exact (Kd.R_mono (Kd.R_far (p := ⟨gb166, 1, none⟩) (Kd.R_far (p := ⟨gb166, 0, none⟩) (Kd.R_types HO133.out BK166.out (by decide)) (fun _ hk => hk.2) (.slice Ao35 t159.length co35)) (fun _ hk => hk.2) (.slice Ao39 t162.length co39)) (fun _ h_ => h_.1))) hb); have n4_ := mk_ (Kd.R_elder' (by (with_reducible repeat (first | apply Kd.R_alloc | apply Kd.R_drewN | apply Kd.R_drew)); exact (Kd.R_mono (Kd.R_far (p := ⟨gb166, 1, none⟩) (Kd.R_far (p := ⟨gb166, 0, none⟩) (Kd.R_types HO136.out BK166.out (by decide)) (fun _ hk => hk.2) (.slice Ao35 t159.length co35)) (fun _ hk => hk.2) (.slice Ao39 t162.length co39)) (fun _ h_ => h_.1))) (Kd.R_base ho41) hb); have n5_ := mk_ (Kd.R_below (by (with_reducible repeat (first | apply Kd.R_alloc | apply Kd.R_drewN | apply Kd.R_drew)); exact (Kd.R_mono (Kd.R_far (p := ⟨gb166, 1, none⟩) (Kd.R_far (p := ⟨gb166, 0, none⟩) (Kd.R_types HO139.out BK166.out (by decide)) (fun _ hk => hk.2) (.slice Ao35 t159.length co35)) (fun _ hk => hk.2) (.slice Ao39 t162.length co39)) (fun _ h_ => h_.1))) hb); have n6_ := mk_ (Kd.R_elder' (by (with_reducible repeat (first | apply Kd.R_alloc | apply Kd.R_drewN | apply Kd.R_drew)); exact (Kd.R_mono (Kd.R_far (p := ⟨gb166, 1, none⟩) (Kd.R_far (p := ⟨gb166, 0, none⟩) (Kd.R_types HO143.out BK166.out (by decide)) (fun _ hk => hk.2) (.slice Ao35 t159.length co35)) (fun _ hk => hk.2) (.slice Ao39 t162.length co39)) (fun _ h_ => h_.1))) (Kd.R_base ho41) hb); have n7_ := mk_ (Kd.R_below (by (with_reducible repeat (first | apply Kd.R_alloc | apply Kd.R_drewN | apply Kd.R_drew)); exact (Kd.R_mono (Kd.R_far (p := ⟨gb166, 1, none⟩) (Kd.R_far (p := ⟨gb166, 0, none⟩) (Kd.R_types HO146.out BK166.out (by decide)) (fun _ hk => hk.2) (.slice Ao35 t159.length co35)) (fun _ hk => hk.2) (.slice Ao39 t162.length co39)) (fun _ h_ => h_.1))) hb); have n8_ := mk_ (Kd.R_below (by (with_reducible repeat (first | apply Kd.R_alloc | apply Kd.R_drewN | apply Kd.R_drew)); exact (Kd.R_mono (Kd.R_far (p := ⟨gb166, 1, none⟩) (Kd.R_far (p := ⟨gb166, 0, none⟩) (Kd.R_types HO150.out BK166.out (by decide)) (fun _ hk => hk.2) (.slice Ao35 t159.length co35)) (fun _ hk => hk.2) (.slice Ao39 t162.length co39)) (fun _ h_ => h_.1))) hb); have n9_ := mk_ (Kd.N_elder' (by (with_reducible repeat (first | apply Kd.N_alloc | apply Kd.N_drewN | apply Kd.N_drew)); exact (Kd.N_mono (Kd.N_far (p := ⟨gb166, 1, none⟩) (Kd.N_far (p := ⟨gb166, 0, none⟩) (Kd.N_mono HO153.out (fun k_ hk => (⟨hk, hk.2⟩ : _ ∧ k_ ≠ gb166))) (fun _ hk => hk.2) (.slice Ao35 t159.length co35)) (fun _ hk => hk.2) (.slice Ao39 t162.length co39)) (fun _ h_ => h_.1))) (Kd.R_base ho41) hb); have n10_ := mk_ (Kd.R_elder' (by (with_reducible repeat (first | apply Kd.R_alloc | apply Kd.R_drewN | apply Kd.R_drew)); exact (Kd.R_mono (Kd.R_far (p := ⟨gb166, 1, none⟩) (Kd.R_far (p := ⟨gb166, 0, none⟩) (Kd.R_types HO158.out BK166.out (by decide)) (fun _ hk => hk.2) (.slice Ao35 t159.length co35)) (fun _ hk => hk.2) (.slice Ao39 t162.length co39)) (fun _ h_ => h_.1))) (Kd.R_base ho41) hb); have n11_ := mk_ (Kd.R_below (by (with_reducible repeat (first | apply Kd.R_alloc | apply Kd.R_drewN | apply Kd.R_drew)); exact (Kd.R_mono (Kd.R_far (p := ⟨gb166, 1, none⟩) (Kd.R_far (p := ⟨gb166, 0, none⟩) (Kd.R_types HO161.out BK166.out (by decide)) (fun _ hk => hk.2) (.slice Ao35 t159.length co35)) (fun _ hk => hk.2) (.slice Ao39 t162.length co39)) (fun _ h_ => h_.1))) hb); have n12_ := mk_ (Kd.N_elder' (by (with_reducible repeat (first | apply Kd.N_alloc | apply Kd.N_drewN | apply Kd.N_drew)); exact (Kd.N_mono (Kd.N_far (p := ⟨gb166, 1, none⟩) (Kd.N_far (p := ⟨gb166, 0, none⟩) (Kd.N_mono HO164.out (fun k_ hk => (⟨hk, hk.2⟩ : _ ∧ k_ ≠ gb166))) (fun _ hk => hk.2) (.slice Ao35 t159.length co35)) (fun _ hk => hk.2) (.slice Ao39 t162.length co39)) (fun _ h_ => h_.1))) (Kd.R_base ho41) hb); have n13_ := mk_ (Kd.R_lower (Kd.R_new' (Kd.R_new' (Kd.R_new' ho41 (Kd.R_lt (by (with_reducible repeat (first | apply Kd.R_alloc | apply Kd.R_drewN | apply Kd.R_drew)); exact (Kd.R_mono (Kd.R_far (p := ⟨gb166, 1, none⟩) (Kd.R_far (p := ⟨gb166, 0, none⟩) (Kd.R_types HO136.out BK166.out (by decide)) (fun _ hk => hk.2) (.slice Ao35 t159.length co35)) (fun _ hk => hk.2) (.slice Ao39 t162.length co39)) (fun _ h_ => h_.1))))) (Kd.R_lt (by (with_reducible repeat (first | apply Kd.R_alloc | apply Kd.R_drewN | apply Kd.R_drew)); exact (Kd.R_mono (Kd.R_far (p := ⟨gb166, 1, none⟩) (Kd.R_far (p := ⟨gb166, 0, none⟩) (Kd.R_types HO143.out BK166.out (by decide)) (fun _ hk => hk.2) (.slice Ao35 t159.length co35)) (fun _ hk => hk.2) (.slice Ao39 t162.length co39)) (fun _ h_ => h_.1))))) (Kd.R_lt (by (with_reducible repeat (first | apply Kd.R_alloc | apply Kd.R_drewN | apply Kd.R_drew)); exact (Kd.R_mono (Kd.R_far (p := ⟨gb166, 1, none⟩) (Kd.R_far (p := ⟨gb166, 0, none⟩) (Kd.R_types HO158.out BK166.out (by decide)) (fun _ hk => hk.2) (.slice Ao35 t159.length co35)) (fun _ hk => hk.2) (.slice Ao39 t162.length co39)) (fun _ h_ => h_.1))))) (below_size (bs3_ HB GE130 GE155 GE166))); have n14_ := mk_ (blk_below (g := gb130) (o := .cells #[.slice Ao10 t121.length co10, .slice Ao12 t124.length co12] 25 (0, 0)) (by (with_reducible repeat (first | refine blk_drewN ?_ _ | refine blk_drew ?_ | refine blk_alloc ?_ _)); refine blk_far ?_ NB130_166.out _; (with_reducible repeat (first | refine blk_drewN ?_ _ | refine blk_drew ?_ | refine blk_alloc ?_ _)); refine blk_far ?_ NB130_166.out _; (with_reducible repeat (first | refine blk_drewN ?_ _ | refine blk_drew ?_ | refine blk_alloc ?_ _)); exact BK130.out) hb); have n15_ := mk_ (blk_below (g := gb155) (o := .cells #[.slice Ao25 t148.length co25, .slice Ao28 t151.length co28] 25 (0, 0)) (by (with_reducible repeat (first | refine blk_drewN ?_ _ | refine blk_drew ?_ | refine blk_alloc ?_ _)); refine blk_far ?_ NB155_166.out _; (with_reducible repeat (first | refine blk_drewN ?_ _ | refine blk_drew ?_ | refine blk_alloc ?_ _)); refine blk_far ?_ NB155_166.out _; (with_reducible repeat (first | refine blk_drewN ?_ _ | refine blk_drew ?_ | refine blk_alloc ?_ _)); exact BK155.out) hb); have n16_ := mk_ (blk_below (g := gb166) (o := .cells #[.slice Ao35 t159.length co35, .slice Ao39 t162.length co39] 25 (0, 0)) (by (with_reducible repeat (first | refine blk_drewN ?_ _ | refine blk_drew ?_ | refine blk_alloc ?_ _)); refine blk_put (cs := #[.slice Ao35 t159.length co35, .slice none 0 0]) ?_ 1 _ rfl; (with_reducible repeat (first | refine blk_drewN ?_ _ | refine blk_drew ?_ | refine blk_alloc ?_ _)); refine blk_put (cs := #[.slice none 0 0, .slice none 0 0]) ?_ 0 _ rfl; (with_reducible repeat (first | refine blk_drewN ?_ _ | refine blk_drew ?_ | refine blk_alloc ?_ _)); exact BK166.out) hb); have n17_ := mk_ (below_step (bs3_ HB GE130 GE155 GE166) hb); clear HO123 HO126 HO129 HO133 HO136 HO139 HO143 HO146 HO150 HO153 HO158 HO161 HO164 BK130 BK155 BK166 HB; revert n0_ n1_ n2_ n3_ n4_ n5_ n6_ n7_ n8_ n9_ n10_ n11_ n12_ n13_ n14_ n15_ n16_ n17_; intro HO123 HO126 HO129 HO133 HO136 HO139 HO143 HO146 HO150 HO153 HO158 HO161 HO164 HO169 BK130 BK155 BK166 HB; clear hb ho41; obtain ⟨Ao42, co42, eo42⟩ := Kd.R_slice HO169.out; subst eo42) | ((with_reducible refine gate_dst (N := 61) rfl ?_); (try (refine gate_guard (by rfl) ?_; dsimp only)); refine Kd.N_lit k49 _ 49 ?hg (N' := 61) ?hd (xs := ([(⟨false, y167⟩ : S49)] : List (S49))) (inner := [.bool false, .slice Ao42 y167.length co42]) (ok := (fun k_ => some k_ ≠ (.slice Ao10 t121.length co10 : Value).ownBlock ∧ some k_ ≠ (.slice Ao12 t124.length co12 : Value).ownBlock ∧ some k_ ≠ (.slice Ao16 t127.length co16 : Value).ownBlock ∧ some k_ ≠ (.slice Ao17 y131.length co17 : Value).ownBlock ∧ some k_ ≠ (.slice Ao22 t134.length co22 : Value).ownBlock ∧ some k_ ≠ (v138 : Value).ownBlock ∧ some k_ ≠ (v142 : Value).ownBlock ∧ some k_ ≠ (v145 : Value).ownBlock ∧ some k_ ≠ (.slice Ao25 t148.length co25 : Value).ownBlock ∧ some k_ ≠ (.slice Ao28 t151.length co28 : Value).ownBlock ∧ some k_ ≠ (.slice Ao32 y156.length co32 : Value).ownBlock ∧ some k_ ≠ (.slice Ao35 t159.length co35 : Value).ownBlock ∧ some k_ ≠ (.slice Ao39 t162.length co39 : Value).ownBlock ∧ k_ ≠ gb130 ∧ k_ ≠ gb155 ∧ k_ ≠ gb166)) (okp := (fun k_ => some k_ ≠ (.slice Ao10 t121.length co10 : Value).ownBlock ∧ some k_ ≠ (.slice Ao12 t124.length co12 : Value).ownBlock ∧ some k_ ≠ (.slice Ao16 t127.length co16 : Value).ownBlock ∧ some k_ ≠ (.slice Ao17 y131.length co17 : Value).ownBlock ∧ some k_ ≠ (.slice Ao22 t134.length co22 : Value).ownBlock ∧ some k_ ≠ (v138 : Value).ownBlock ∧ some k_ ≠ (v142 : Value).ownBlock ∧ some k_ ≠ (v145 : Value).ownBlock ∧ some k_ ≠ (.slice Ao25 t148.length co25 : Value).ownBlock ∧ some k_ ≠ (.slice Ao28 t151.length co28 : Value).ownBlock ∧ some k_ ≠ (.slice Ao32 y156.length co32 : Value).ownBlock ∧ some k_ ≠ (.slice Ao35 t159.length co35 : Value).ownBlock ∧ some k_ ≠ (.slice Ao39 t162.length co39 : Value).ownBlock ∧ k_ ≠ gb130 ∧ k_ ≠ gb155 ∧ k_ ≠ gb166)) ?hr ?hp (fun _ hk => hk) ((show ∀ k_, w40.heap.size ≤ k_ → (fun k_ => some k_ ≠ (.slice Ao10 t121.length co10 : Value).ownBlock ∧ some k_ ≠ (.slice Ao12 t124.length co12 : Value).ownBlock ∧ some k_ ≠ (.slice Ao16 t127.length co16 : Value).ownBlock ∧ some k_ ≠ (.slice Ao17 y131.length co17 : Value).ownBlock ∧ some k_ ≠ (.slice Ao22 t134.length co22 : Value).ownBlock ∧ some k_ ≠ (v138 : Value).ownBlock ∧ some k_ ≠ (v142 : Value).ownBlock ∧ some k_ ≠ (v145 : Value).ownBlock ∧ some k_ ≠ (.slice Ao25 t148.length co25 : Value).ownBlock ∧ some k_ ≠ (.slice Ao28 t151.length co28 : Value).ownBlock ∧ some k_ ≠ (.slice Ao32 y156.length co32 : Value).ownBlock ∧ some k_ ≠ (.slice Ao35 t159.length co35 : Value).ownBlock ∧ some k_ ≠ (.slice Ao39 t162.length co39 : Value).ownBlock ∧ k_ ≠ gb130 ∧ k_ ≠ gb155 ∧ k_ ≠ gb166) k_ from fun k_ hk => ⟨Kd.fresh' (Kd.R_lt (rr_ HO123)) k_ hk, Kd.fresh' (Kd.N_lt (nn_ HO126)) k_ hk, Kd.fresh' (Kd.N_lt (nn_ HO129)) k_ hk, Kd.fresh' (Kd.R_lt (rr_ HO133)) k_ hk, Kd.fresh' (Kd.R_lt (rr_ HO136)) k_ hk, Kd.fresh' (Kd.R_lt (rr_ HO139)) k_ hk, Kd.fresh' (Kd.R_lt (rr_ HO143)) k_ hk, Kd.fresh' (Kd.R_lt (rr_ HO146)) k_ hk, Kd.fresh' (Kd.R_lt (rr_ HO150)) k_ hk, Kd.fresh' (Kd.N_lt (nn_ HO153)) k_ hk, Kd.fresh' (Kd.R_lt (rr_ HO158)) k_ hk, Kd.fresh' (Kd.R_lt (rr_ HO161)) k_ hk, Kd.fresh' (Kd.N_lt (nn_ HO164)) k_ hk, Kd.freshB (g := gb130) (o := .cells #[.slice Ao10 t121.length co10, .slice Ao12 t124.length co12] 25 (0, 0)) (kk_ BK130) k_ hk, Kd.freshB (g := gb155) (o := .cells #[.slice Ao25 t148.length co25, .slice Ao28 t151.length co28] 25 (0, 0)) (kk_ BK155) k_ hk, Kd.freshB (g := gb166) (o := .cells #[.slice Ao35 t159.length co35, .slice Ao39 t162.length co39] 25 (0, 0)) (kk_ BK166) k_ hk⟩) _ (Nat.le_refl _)) (Below.refl _ _) (Nat.le_refl _) (by simp) ?_; (case hd => rfl); (case hg => rfl); (case hr => first | (go_simp; done) | (go_simp; rfl)); (case hp => exact (Reps.c2 (show Kd.FK k49 _ _ (⟨false, y167⟩ : S49) [.bool false, .slice Ao42 y167.length co42] from (k49_mkF _ _ (⟨false, y167⟩ : S49) (Kd.R_reads' (Kd.R_mono (ok' := (fun k_ => some k_ ≠ (.slice Ao10 t121.length co10 : Value).ownBlock ∧ some k_ ≠ (.slice Ao12 t124.length co12 : Value).ownBlock ∧ some k_ ≠ (.slice Ao16 t127.length co16 : Value).ownBlock ∧ some k_ ≠ (.slice Ao17 y131.length co17 : Value).ownBlock ∧ some k_ ≠ (.slice Ao22 t134.length co22 : Value).ownBlock ∧ some k_ ≠ (v138 : Value).ownBlock ∧ some k_ ≠ (v142 : Value).ownBlock ∧ some k_ ≠ (v145 : Value).ownBlock ∧ some k_ ≠ (.slice Ao25 t148.length co25 : Value).ownBlock ∧ some k_ ≠ (.slice Ao28 t151.length co28 : Value).ownBlock ∧ some k_ ≠ (.slice Ao32 y156.length co32 : Value).ownBlock ∧ some k_ ≠ (.slice Ao35 t159.length co35 : Value).ownBlock ∧ some k_ ≠ (.slice Ao39 t162.length co39 : Value).ownBlock ∧ k_ ≠ gb130 ∧ k_ ≠ gb155 ∧ k_ ≠ gb166)) (Kd.R_types (Kd.R_types (Kd.R_types (Kd.R_apart' (Kd.R_apart' (Kd.R_apart' (Kd.R_apart' (Kd.R_apart' (Kd.R_apart' (Kd.R_apart' (Kd.R_apart' (Kd.R_apart' (Kd.R_apart' (HO169.out) (Kd.R_typed HO123.out) (by decide)) (Kd.N_typed HO126.out) (by decide)) (Kd.N_typed HO129.out) (by decide)) (Kd.R_typed HO133.out) (by decide)) (Kd.R_typed HO139.out) (by decide)) (Kd.R_typed HO146.out) (by decide)) (Kd.R_typed HO150.out) (by decide)) (Kd.N_typed HO153.out) (by decide)) (Kd.R_typed HO161.out) (by decide)) (Kd.N_typed HO164.out) (by decide)) BK130.out (by decide)) BK155.out (by decide)) BK166.out (by decide)) (fun k_ hk => ⟨hk.1.1.1.1.1.1.1.1.1.1.1.1.2, ⟨hk.1.1.1.1.1.1.1.1.1.1.1.2, ⟨hk.1.1.1.1.1.1.1.1.1.1.2, ⟨hk.1.1.1.1.1.1.1.1.1.2, ⟨hk.1.1.1.1.1.1.1.1.1.1.1.1.1.1.1.2, ⟨hk.1.1.1.1.1.1.1.1.2, ⟨hk.1.1.1.1.1.1.1.1.1.1.1.1.1.1.2, ⟨hk.1.1.1.1.1.1.1.2, ⟨hk.1.1.1.1.1.1.2, ⟨hk.1.1.1.1.1.2, ⟨hk.1.1.1.1.1.1.1.1.1.1.1.1.1.2, ⟨hk.1.1.1.1.2, ⟨hk.1.1.1.2, ⟨hk.1.1.2, ⟨hk.1.2, hk.2⟩⟩⟩⟩⟩⟩⟩⟩⟩⟩⟩⟩⟩⟩⟩))).2.1 (Kd.R_F (Kd.R_mono (ok' := (fun k_ => some k_ ≠ (.slice Ao10 t121.length co10 : Value).ownBlock ∧ some k_ ≠ (.slice Ao12 t124.length co12 : Value).ownBlock ∧ some k_ ≠ (.slice Ao16 t127.length co16 : Value).ownBlock ∧ some k_ ≠ (.slice Ao17 y131.length co17 : Value).ownBlock ∧ some k_ ≠ (.slice Ao22 t134.length co22 : Value).ownBlock ∧ some k_ ≠ (v138 : Value).ownBlock ∧ some k_ ≠ (v142 : Value).ownBlock ∧ some k_ ≠ (v145 : Value).ownBlock ∧ some k_ ≠ (.slice Ao25 t148.length co25 : Value).ownBlock ∧ some k_ ≠ (.slice Ao28 t151.length co28 : Value).ownBlock ∧ some k_ ≠ (.slice Ao32 y156.length co32 : Value).ownBlock ∧ some k_ ≠ (.slice Ao35 t159.length co35 : Value).ownBlock ∧ some k_ ≠ (.slice Ao39 t162.length co39 : Value).ownBlock ∧ k_ ≠ gb130 ∧ k_ ≠ gb155 ∧ k_ ≠ gb166)) (Kd.R_types (Kd.R_types (Kd.R_types (Kd.R_apart' (Kd.R_apart' (Kd.R_apart' (Kd.R_apart' (Kd.R_apart' (Kd.R_apart' (Kd.R_apart' (Kd.R_apart' (Kd.R_apart' (Kd.R_apart' (HO169.out) (Kd.R_typed HO123.out) (by decide)) (Kd.N_typed HO126.out) (by decide)) (Kd.N_typed HO129.out) (by decide)) (Kd.R_typed HO133.out) (by decide)) (Kd.R_typed HO139.out) (by decide)) (Kd.R_typed HO146.out) (by decide)) (Kd.R_typed HO150.out) (by decide)) (Kd.N_typed HO153.out) (by decide)) (Kd.R_typed HO161.out) (by decide)) (Kd.N_typed HO164.out) (by decide)) BK130.out (by decide)) BK155.out (by decide)) BK166.out (by decide)) (fun k_ hk => ⟨hk.1.1.1.1.1.1.1.1.1.1.1.1.2, ⟨hk.1.1.1.1.1.1.1.1.1.1.1.2, ⟨hk.1.1.1.1.1.1.1.1.1.1.2, ⟨hk.1.1.1.1.1.1.1.1.1.2, ⟨hk.1.1.1.1.1.1.1.1.1.1.1.1.1.1.1.2, ⟨hk.1.1.1.1.1.1.1.1.2, ⟨hk.1.1.1.1.1.1.1.1.1.1.1.1.1.1.2, ⟨hk.1.1.1.1.1.1.1.2, ⟨hk.1.1.1.1.1.1.2, ⟨hk.1.1.1.1.1.2, ⟨hk.1.1.1.1.1.1.1.1.1.1.1.1.1.2, ⟨hk.1.1.1.1.2, ⟨hk.1.1.1.2, ⟨hk.1.1.2, ⟨hk.1.2, hk.2⟩⟩⟩⟩⟩⟩⟩⟩⟩⟩⟩⟩⟩⟩⟩))))) (Reps.none _ _))); intro v171 w43 ho44 hb hg_ hnew_; clear hg_ hnew_; (first | rw [← Ny170.out] at ho44 | (simp only [Int.reduceToNat] at ho44; rw [← Ny170.out] at ho44)); have n0_ := mk_ (Kd.R_below (rr_ HO123) hb); have n1_ := mk_ (Kd.N_elder' (nn_ HO126) (Kd.N_base ho44) hb); have n2_ := mk_ (Kd.N_elder' (nn_ HO129) (Kd.N_base ho44) hb); have n3_ := mk_ (Kd.R_below (rr_ HO133) hb); have n4_ := mk_ (Kd.R_below (rr_ HO136) hb); have n5_ := mk_ (Kd.R_below (rr_ HO139) hb); have n6_ := mk_ (Kd.R_below (rr_ HO143) hb); have n7_ := mk_ (Kd.R_below (rr_ HO146) hb); have n8_ := mk_ (Kd.R_below (rr_ HO150) hb); have n9_ := mk_ (Kd.N_elder' (nn_ HO153) (Kd.N_base ho44) hb); have n10_ := mk_ (Kd.R_below (rr_ HO158) hb); have n11_ := mk_ (Kd.R_below (rr_ HO161) hb); have n12_ := mk_ (Kd.N_elder' (nn_ HO164) (Kd.N_base ho44) hb); have n13_ := mk_ (Kd.N_lower ho44 (below_size (bs3_ HB GE130 GE155 GE166))); have n14_ := mk_ (blk_below (kk_ BK130) hb); have n15_ := mk_ (blk_below (kk_ BK155) hb); have n16_ := mk_ (blk_below (kk_ BK166) hb); have n17_ := mk_ (below_step (bs3_ HB GE130 GE155 GE166) hb); clear HO123 HO126 HO129 HO133 HO136 HO139 HO143 HO146 HO150 HO153 HO158 HO161 HO164 BK130 BK155 BK166 HB HO169; revert n0_ n1_ n2_ n3_ n4_ n5_ n6_ n7_ n8_ n9_ n10_ n11_ n12_ n13_ n14_ n15_ n16_ n17_; intro HO123 HO126 HO129 HO133 HO136 HO139 HO143 HO146 HO150 HO153 HO158 HO161 HO164 HO172 BK130 BK155 BK166 HB; clear hb ho44; have hcz45_0 := bc0_ BK130.out; have hcz45_1 := bc1_ BK130.out; have hfz45_0 := blk_frozen BK130.out 0; have hfz45_1 := blk_frozen BK130.out 1; obtain ⟨Ao46, co46, eo46⟩ := Kd.N_slice HO172.out; subst eo46) | ((with_reducible refine gate_callee (f := 13) rfl ?_); refine gl_ (some 66) Try.func13 #[.agg #[.slice Ao10 t121.length co10, .slice Ao12 t124.length co12], .slice Ao46 y170.length co46, .int .i64 3, .slice Ao17 y131.length co17] ?_; (with_reducible refine (chain_Run.calls _ _ t121 _ _ t124 _ _ y170 3 _ _ y131 t173 t176 t179 _ ?side1 ?side2 ?side3 ?side4 ?side5 ?side6 ?side7 ?side8 A6.out).mono ?_); (case side1 => exact cc_ ((Kd.R_reads' HO123.out).2.2)); (case side2 => exact (Kd.R_reads' HO123.out).2.1); (case side3 => exact cc_ ((Kd.N_reads' HO126.out).2.2)); (case side4 => exact (Kd.N_reads' HO126.out).2.1); (case side5 => exact cc_ ((Kd.N_reads' HO172.out).2.2)); (case side6 => exact (Kd.N_reads' HO172.out).2.1); (case side7 => exact cc_ ((Kd.R_reads' HO133.out).2.2)); (case side8 => exact (Kd.R_reads' HO133.out).2.1); rintro e w47 ⟨v174, v177, rfl, ho0, ho1, hb⟩; refine ⟨_, rfl, ?_⟩; have n0_ := mk_ (Kd.R_below (rr_ HO123) hb); have n1_ := mk_ (Kd.N_mono (Kd.N_told (Kd.N_told (Kd.N_old (nn_ HO126) hb) (Kd.R_base ho0)) (Kd.R_base ho1)) (fun _ h_ => h_.1)); have n2_ := mk_ (Kd.N_mono (Kd.N_told (Kd.N_told (Kd.N_old (nn_ HO129) hb) (Kd.R_base ho0)) (Kd.R_base ho1)) (fun _ h_ => h_.1)); have n3_ := mk_ (Kd.R_below (rr_ HO133) hb); have n4_ := mk_ (Kd.R_elder' (rr_ HO136) (Kd.R_base ho0) hb); have n5_ := mk_ (Kd.R_elder' (rr_ HO139) (Kd.R_base ho1) hb); have n6_ := mk_ (Kd.R_elder' (rr_ HO143) (Kd.R_base ho0) hb); have n7_ := mk_ (Kd.R_elder' (rr_ HO146) (Kd.R_base ho1) hb); have n8_ := mk_ (Kd.R_below (rr_ HO150) hb); have n9_ := mk_ (Kd.N_mono (Kd.N_told (Kd.N_told (Kd.N_old (nn_ HO153) hb) (Kd.R_base ho0)) (Kd.R_base ho1)) (fun _ h_ => h_.1)); have n10_ := mk_ (Kd.R_elder' (rr_ HO158) (Kd.R_base ho0) hb); have n11_ := mk_ (Kd.R_below (rr_ HO161) hb); have n12_ := mk_ (Kd.N_mono (Kd.N_told (Kd.N_told (Kd.N_old (nn_ HO164) hb) (Kd.R_base ho0)) (Kd.R_base ho1)) (fun _ h_ => h_.1)); have n13_ := mk_ (Kd.N_mono (Kd.N_told (Kd.N_told (Kd.N_old (nn_ HO172) hb) (Kd.R_base ho0)) (Kd.R_base ho1)) (fun _ h_ => h_.1)); have n14_ := mk_ (Kd.R_lower (Kd.R_new' (Kd.R_new' (Kd.R_new' ho0 (Kd.R_lt (rr_ HO136))) (Kd.R_lt (rr_ HO143))) (Kd.R_lt (rr_ HO158))) (below_size (bs3_ HB GE130 GE155 GE166))); have n15_ := mk_ (Kd.R_lower (Kd.R_new' (Kd.R_new' ho1 (Kd.R_lt (rr_ HO139))) (Kd.R_lt (rr_ HO146))) (below_size (bs3_ HB GE130 GE155 GE166))); have n16_ := mk_ (blk_below (kk_ BK130) hb); have n17_ := mk_ (blk_below (kk_ BK155) hb); have n18_ := mk_ (blk_below (kk_ BK166) hb); have n19_ := mk_ (below_step (bs3_ HB GE130 GE155 GE166) hb); clear HO123 HO126 HO129 HO133 HO136 HO139 HO143 HO146 HO150 HO153 HO158 HO161 HO164 HO172 BK130 BK155 BK166 HB; revert n0_ n1_ n2_ n3_ n4_ n5_ n6_ n7_ n8_ n9_ n10_ n11_ n12_ n13_ n14_ n15_ n16_ n17_ n18_ n19_; intro HO123 HO126 HO129 HO133 HO136 HO139 HO143 HO146 HO150 HO153 HO158 HO161 HO164 HO172 HO175 HO178 BK130 BK155 BK166 HB; (try clear hb); (try clear hb2); (try clear hk); (try clear hi); (try clear ho0); (try clear ho1)))
 (try simp only [Act.put, sI_, s0_, sS_])
 go_cut [18] (fun v18 wc => ∃ (kq : Nat) (x18_6 : Bool), v18 = .bool x18_6 ∧ Aside0 (cohousinglaw26_head.j0 kq t127 t134 t137 t141 t144 t173 t176 x18_6 t148 t151 = some true) ∧ Aside0 (kq ≤ k) ∧ Aside0 (Kd.N k49 49 wc w.heap.size (fun k_ => some k_ ≠ ((.slice Ao22 t134.length co22) : Value).ownBlock ∧ some k_ ≠ (v138 : Value).ownBlock ∧ some k_ ≠ (v142 : Value).ownBlock ∧ some k_ ≠ (v145 : Value).ownBlock ∧ some k_ ≠ (v174 : Value).ownBlock ∧ some k_ ≠ (v177 : Value).ownBlock ∧ some k_ ≠ ((.slice Ao10 t121.length co10) : Value).ownBlock ∧ some k_ ≠ ((.slice Ao12 t124.length co12) : Value).ownBlock ∧ some k_ ≠ ((.slice Ao25 t148.length co25) : Value).ownBlock ∧ some k_ ≠ ((.slice Ao28 t151.length co28) : Value).ownBlock ∧ some k_ ≠ ((.slice Ao35 t159.length co35) : Value).ownBlock ∧ some k_ ≠ ((.slice Ao39 t162.length co39) : Value).ownBlock ∧ k_ ≠ gb130 ∧ k_ ≠ gb155 ∧ k_ ≠ gb166) (.slice Ao16 t127.length co16) t127) ∧ Aside0 (Kd.R k51 51 wc w.heap.size (fun k_ => some k_ ≠ (v142 : Value).ownBlock ∧ some k_ ≠ (v174 : Value).ownBlock) (.slice Ao22 t134.length co22) t134) ∧ Aside0 (Kd.R (Kd.int .i64) 3 wc w.heap.size (fun k_ => some k_ ≠ (v145 : Value).ownBlock ∧ some k_ ≠ (v177 : Value).ownBlock) v138 t137) ∧ Aside0 (Kd.R k51 51 wc w.heap.size (fun k_ => some k_ ≠ ((.slice Ao22 t134.length co22) : Value).ownBlock ∧ some k_ ≠ (v174 : Value).ownBlock) v142 t141) ∧ Aside0 (Kd.R (Kd.int .i64) 3 wc w.heap.size (fun k_ => some k_ ≠ (v138 : Value).ownBlock ∧ some k_ ≠ (v177 : Value).ownBlock) v145 t144) ∧ Aside0 (Kd.R k51 51 wc w.heap.size (fun k_ => some k_ ≠ ((.slice Ao22 t134.length co22) : Value).ownBlock ∧ some k_ ≠ (v142 : Value).ownBlock) v174 t173) ∧ Aside0 (Kd.R (Kd.int .i64) 3 wc w.heap.size (fun k_ => some k_ ≠ (v138 : Value).ownBlock ∧ some k_ ≠ (v145 : Value).ownBlock) v177 t176) ∧ Aside0 (Kd.R k84 84 wc w.heap.size (fun k_ => some k_ ≠ ((.slice Ao25 t148.length co25) : Value).ownBlock ∧ some k_ ≠ ((.slice Ao35 t159.length co35) : Value).ownBlock) (.slice Ao10 t121.length co10) t121) ∧ Aside0 (Kd.N k46 46 wc w.heap.size (fun k_ => some k_ ≠ ((.slice Ao16 t127.length co16) : Value).ownBlock ∧ some k_ ≠ ((.slice Ao22 t134.length co22) : Value).ownBlock ∧ some k_ ≠ (v138 : Value).ownBlock ∧ some k_ ≠ (v142 : Value).ownBlock ∧ some k_ ≠ (v145 : Value).ownBlock ∧ some k_ ≠ (v174 : Value).ownBlock ∧ some k_ ≠ (v177 : Value).ownBlock ∧ some k_ ≠ ((.slice Ao10 t121.length co10) : Value).ownBlock ∧ some k_ ≠ ((.slice Ao25 t148.length co25) : Value).ownBlock ∧ some k_ ≠ ((.slice Ao28 t151.length co28) : Value).ownBlock ∧ some k_ ≠ ((.slice Ao35 t159.length co35) : Value).ownBlock ∧ some k_ ≠ ((.slice Ao39 t162.length co39) : Value).ownBlock ∧ k_ ≠ gb130 ∧ k_ ≠ gb155 ∧ k_ ≠ gb166) (.slice Ao12 t124.length co12) t124) ∧ Aside0 (Kd.R k84 84 wc w.heap.size (fun k_ => some k_ ≠ ((.slice Ao10 t121.length co10) : Value).ownBlock ∧ some k_ ≠ ((.slice Ao35 t159.length co35) : Value).ownBlock) (.slice Ao25 t148.length co25) t148) ∧ Aside0 (Kd.N k46 46 wc w.heap.size (fun k_ => some k_ ≠ ((.slice Ao16 t127.length co16) : Value).ownBlock ∧ some k_ ≠ ((.slice Ao22 t134.length co22) : Value).ownBlock ∧ some k_ ≠ (v138 : Value).ownBlock ∧ some k_ ≠ (v142 : Value).ownBlock ∧ some k_ ≠ (v145 : Value).ownBlock ∧ some k_ ≠ (v174 : Value).ownBlock ∧ some k_ ≠ (v177 : Value).ownBlock ∧ some k_ ≠ ((.slice Ao10 t121.length co10) : Value).ownBlock ∧ some k_ ≠ ((.slice Ao12 t124.length co12) : Value).ownBlock ∧ some k_ ≠ ((.slice Ao25 t148.length co25) : Value).ownBlock ∧ some k_ ≠ ((.slice Ao35 t159.length co35) : Value).ownBlock ∧ some k_ ≠ ((.slice Ao39 t162.length co39) : Value).ownBlock ∧ k_ ≠ gb130 ∧ k_ ≠ gb155 ∧ k_ ≠ gb166) (.slice Ao28 t151.length co28) t151) ∧ Aside0 (Kd.R k84 84 wc w.heap.size (fun k_ => some k_ ≠ ((.slice Ao10 t121.length co10) : Value).ownBlock ∧ some k_ ≠ ((.slice Ao25 t148.length co25) : Value).ownBlock) (.slice Ao35 t159.length co35) t159) ∧ Aside0 (Kd.N k46 46 wc w.heap.size (fun k_ => some k_ ≠ ((.slice Ao16 t127.length co16) : Value).ownBlock ∧ some k_ ≠ ((.slice Ao22 t134.length co22) : Value).ownBlock ∧ some k_ ≠ (v138 : Value).ownBlock ∧ some k_ ≠ (v142 : Value).ownBlock ∧ some k_ ≠ (v145 : Value).ownBlock ∧ some k_ ≠ (v174 : Value).ownBlock ∧ some k_ ≠ (v177 : Value).ownBlock ∧ some k_ ≠ ((.slice Ao10 t121.length co10) : Value).ownBlock ∧ some k_ ≠ ((.slice Ao12 t124.length co12) : Value).ownBlock ∧ some k_ ≠ ((.slice Ao25 t148.length co25) : Value).ownBlock ∧ some k_ ≠ ((.slice Ao28 t151.length co28) : Value).ownBlock ∧ some k_ ≠ ((.slice Ao35 t159.length co35) : Value).ownBlock ∧ k_ ≠ gb130 ∧ k_ ≠ gb155 ∧ k_ ≠ gb166) (.slice Ao39 t162.length co39) t162) ∧ Aside0 (wc.heap[gb130]? = some (.cells #[(.slice Ao10 t121.length co10), (.slice Ao12 t124.length co12)] 25 (0, 0))) ∧ Aside0 (wc.heap[gb155]? = some (.cells #[(.slice Ao25 t148.length co25), (.slice Ao28 t151.length co28)] 25 (0, 0))) ∧ Aside0 (wc.heap[gb166]? = some (.cells #[(.slice Ao35 t159.length co35), (.slice Ao39 t162.length co39)] 25 (0, 0))) ∧ Aside0 (Below w.heap.size w wc))
 case first =>
  have H := HC7.out
  clear HC7
  by_cases c48 : t140 = 0
  rotate_left
  ·rw [if_neg c48] at H
   have c48b0 : (t140 == 0) = false := beq_eq_false_iff_ne.mpr c48
   have c48b1 : (t140 != 0) = true := bne_iff_ne.mpr c48
   (first | rw [c48b0] | (simp only [i64_w, i32_w]; rw [c48b0]) | skip)
   have H' := mk_ H
   clear H
   go_wp2
   go_meet
   case rel => exact ⟨_, (false), sd_, H', ⟨by first | omega | exact Nat.le_refl _⟩, ⟨nm_ HO129⟩, ⟨by (with_reducible repeat (first | apply Kd.R_alloc | apply Kd.R_drewN | apply Kd.R_drew)); exact Kd.R_mono HO136.out wm_⟩, ⟨by (with_reducible repeat (first | apply Kd.R_alloc | apply Kd.R_drewN | apply Kd.R_drew)); exact Kd.R_mono HO139.out wm_⟩, ⟨by (with_reducible repeat (first | apply Kd.R_alloc | apply Kd.R_drewN | apply Kd.R_drew)); exact Kd.R_mono HO143.out wm_⟩, ⟨by (with_reducible repeat (first | apply Kd.R_alloc | apply Kd.R_drewN | apply Kd.R_drew)); exact Kd.R_mono HO146.out wm_⟩, ⟨by (with_reducible repeat (first | apply Kd.R_alloc | apply Kd.R_drewN | apply Kd.R_drew)); exact Kd.R_mono HO175.out wm_⟩, ⟨by (with_reducible repeat (first | apply Kd.R_alloc | apply Kd.R_drewN | apply Kd.R_drew)); exact Kd.R_mono HO178.out wm_⟩, ⟨by (with_reducible repeat (first | apply Kd.R_alloc | apply Kd.R_drewN | apply Kd.R_drew)); exact Kd.R_mono HO123.out wm_⟩, ⟨nm_ HO126⟩, ⟨by (with_reducible repeat (first | apply Kd.R_alloc | apply Kd.R_drewN | apply Kd.R_drew)); exact Kd.R_mono HO150.out wm_⟩, ⟨nm_ HO153⟩, ⟨by (with_reducible repeat (first | apply Kd.R_alloc | apply Kd.R_drewN | apply Kd.R_drew)); exact Kd.R_mono HO161.out wm_⟩, ⟨nm_ HO164⟩, ⟨kk_ BK130⟩, ⟨kk_ BK155⟩, ⟨kk_ BK166⟩, ⟨bs3_ HB GE130 GE155 GE166⟩⟩
  rw [if_pos c48] at H
  have c48b0 : (t140 == 0) = true := beq_iff_eq.mpr c48
  have c48b1 : (t140 != 0) = false := bne_eq_false_iff_eq.mpr c48
  clear c48
  (first | rw [c48b0] | (simp only [i64_w, i32_w]; rw [c48b0]) | skip)
  by_cases c49 : t147 = 0
  rotate_left
  ·rw [if_neg c49] at H
   have c49b0 : (t147 == 0) = false := beq_eq_false_iff_ne.mpr c49
   have c49b1 : (t147 != 0) = true := bne_iff_ne.mpr c49
   have H' := mk_ H
   clear H
   go_wp2
   go_meet
   case rel => exact ⟨_, (false), sd_, H', ⟨by first | omega | exact Nat.le_refl _⟩, ⟨nm_ HO129⟩, ⟨by (with_reducible repeat (first | apply Kd.R_alloc | apply Kd.R_drewN | apply Kd.R_drew)); exact Kd.R_mono HO136.out wm_⟩, ⟨by (with_reducible repeat (first | apply Kd.R_alloc | apply Kd.R_drewN | apply Kd.R_drew)); exact Kd.R_mono HO139.out wm_⟩, ⟨by (with_reducible repeat (first | apply Kd.R_alloc | apply Kd.R_drewN | apply Kd.R_drew)); exact Kd.R_mono HO143.out wm_⟩, ⟨by (with_reducible repeat (first | apply Kd.R_alloc | apply Kd.R_drewN | apply Kd.R_drew)); exact Kd.R_mono HO146.out wm_⟩, ⟨by (with_reducible repeat (first | apply Kd.R_alloc | apply Kd.R_drewN | apply Kd.R_drew)); exact Kd.R_mono HO175.out wm_⟩, ⟨by (with_reducible repeat (first | apply Kd.R_alloc | apply Kd.R_drewN | apply Kd.R_drew)); exact Kd.R_mono HO178.out wm_⟩, ⟨by (with_reducible repeat (first | apply Kd.R_alloc | apply Kd.R_drewN | apply Kd.R_drew)); exact Kd.R_mono HO123.out wm_⟩, ⟨nm_ HO126⟩, ⟨by (with_reducible repeat (first | apply Kd.R_alloc | apply Kd.R_drewN | apply Kd.R_drew)); exact Kd.R_mono HO150.out wm_⟩, ⟨nm_ HO153⟩, ⟨by (with_reducible repeat (first | apply Kd.R_alloc | apply Kd.R_drewN | apply Kd.R_drew)); exact Kd.R_mono HO161.out wm_⟩, ⟨nm_ HO164⟩, ⟨kk_ BK130⟩, ⟨kk_ BK155⟩, ⟨kk_ BK166⟩, ⟨bs3_ HB GE130 GE155 GE166⟩⟩
  rw [if_pos c49] at H
  have c49b0 : (t147 == 0) = true := beq_iff_eq.mpr c49
  have c49b1 : (t147 != 0) = false := bne_eq_false_iff_eq.mpr c49
  clear c49
  by_cases c50 : t154 = 0
  rotate_left
  ·rw [if_neg c50] at H
   have c50b0 : (t154 == 0) = false := beq_eq_false_iff_ne.mpr c50
   have c50b1 : (t154 != 0) = true := bne_iff_ne.mpr c50
   have H' := mk_ H
   clear H
   go_wp2
   go_meet
   case rel => exact ⟨_, (false), sd_, H', ⟨by first | omega | exact Nat.le_refl _⟩, ⟨nm_ HO129⟩, ⟨by (with_reducible repeat (first | apply Kd.R_alloc | apply Kd.R_drewN | apply Kd.R_drew)); exact Kd.R_mono HO136.out wm_⟩, ⟨by (with_reducible repeat (first | apply Kd.R_alloc | apply Kd.R_drewN | apply Kd.R_drew)); exact Kd.R_mono HO139.out wm_⟩, ⟨by (with_reducible repeat (first | apply Kd.R_alloc | apply Kd.R_drewN | apply Kd.R_drew)); exact Kd.R_mono HO143.out wm_⟩, ⟨by (with_reducible repeat (first | apply Kd.R_alloc | apply Kd.R_drewN | apply Kd.R_drew)); exact Kd.R_mono HO146.out wm_⟩, ⟨by (with_reducible repeat (first | apply Kd.R_alloc | apply Kd.R_drewN | apply Kd.R_drew)); exact Kd.R_mono HO175.out wm_⟩, ⟨by (with_reducible repeat (first | apply Kd.R_alloc | apply Kd.R_drewN | apply Kd.R_drew)); exact Kd.R_mono HO178.out wm_⟩, ⟨by (with_reducible repeat (first | apply Kd.R_alloc | apply Kd.R_drewN | apply Kd.R_drew)); exact Kd.R_mono HO123.out wm_⟩, ⟨nm_ HO126⟩, ⟨by (with_reducible repeat (first | apply Kd.R_alloc | apply Kd.R_drewN | apply Kd.R_drew)); exact Kd.R_mono HO150.out wm_⟩, ⟨nm_ HO153⟩, ⟨by (with_reducible repeat (first | apply Kd.R_alloc | apply Kd.R_drewN | apply Kd.R_drew)); exact Kd.R_mono HO161.out wm_⟩, ⟨nm_ HO164⟩, ⟨kk_ BK130⟩, ⟨kk_ BK155⟩, ⟨kk_ BK166⟩, ⟨bs3_ HB GE130 GE155 GE166⟩⟩
  rw [if_pos c50] at H
  have c50b0 : (t154 == 0) = true := beq_iff_eq.mpr c50
  have c50b1 : (t154 != 0) = false := bne_eq_false_iff_eq.mpr c50
  clear c50
  by_cases c51 : t165 = 22
  rotate_left
  ·rw [if_neg c51] at H
   have c51b0 : (t165 == 22) = false := beq_eq_false_iff_ne.mpr c51
   have c51b1 : (t165 != 22) = true := bne_iff_ne.mpr c51
   have H' := mk_ H
   clear H
   go_wp2
   go_meet
   case rel => exact ⟨_, (false), sd_, H', ⟨by first | omega | exact Nat.le_refl _⟩, ⟨nm_ HO129⟩, ⟨by (with_reducible repeat (first | apply Kd.R_alloc | apply Kd.R_drewN | apply Kd.R_drew)); exact Kd.R_mono HO136.out wm_⟩, ⟨by (with_reducible repeat (first | apply Kd.R_alloc | apply Kd.R_drewN | apply Kd.R_drew)); exact Kd.R_mono HO139.out wm_⟩, ⟨by (with_reducible repeat (first | apply Kd.R_alloc | apply Kd.R_drewN | apply Kd.R_drew)); exact Kd.R_mono HO143.out wm_⟩, ⟨by (with_reducible repeat (first | apply Kd.R_alloc | apply Kd.R_drewN | apply Kd.R_drew)); exact Kd.R_mono HO146.out wm_⟩, ⟨by (with_reducible repeat (first | apply Kd.R_alloc | apply Kd.R_drewN | apply Kd.R_drew)); exact Kd.R_mono HO175.out wm_⟩, ⟨by (with_reducible repeat (first | apply Kd.R_alloc | apply Kd.R_drewN | apply Kd.R_drew)); exact Kd.R_mono HO178.out wm_⟩, ⟨by (with_reducible repeat (first | apply Kd.R_alloc | apply Kd.R_drewN | apply Kd.R_drew)); exact Kd.R_mono HO123.out wm_⟩, ⟨nm_ HO126⟩, ⟨by (with_reducible repeat (first | apply Kd.R_alloc | apply Kd.R_drewN | apply Kd.R_drew)); exact Kd.R_mono HO150.out wm_⟩, ⟨nm_ HO153⟩, ⟨by (with_reducible repeat (first | apply Kd.R_alloc | apply Kd.R_drewN | apply Kd.R_drew)); exact Kd.R_mono HO161.out wm_⟩, ⟨nm_ HO164⟩, ⟨kk_ BK130⟩, ⟨kk_ BK155⟩, ⟨kk_ BK166⟩, ⟨bs3_ HB GE130 GE155 GE166⟩⟩
  rw [if_pos c51] at H
  have c51b0 : (t165 == 22) = true := beq_iff_eq.mpr c51
  have c51b1 : (t165 != 22) = false := bne_eq_false_iff_eq.mpr c51
  clear c51
  have H' := mk_ H
  clear H
  go_wp2
  go_meet
  case rel => exact ⟨_, ((t179 == 0)), sd_, H', ⟨by first | omega | exact Nat.le_refl _⟩, ⟨nm_ HO129⟩, ⟨by (with_reducible repeat (first | apply Kd.R_alloc | apply Kd.R_drewN | apply Kd.R_drew)); exact Kd.R_mono HO136.out wm_⟩, ⟨by (with_reducible repeat (first | apply Kd.R_alloc | apply Kd.R_drewN | apply Kd.R_drew)); exact Kd.R_mono HO139.out wm_⟩, ⟨by (with_reducible repeat (first | apply Kd.R_alloc | apply Kd.R_drewN | apply Kd.R_drew)); exact Kd.R_mono HO143.out wm_⟩, ⟨by (with_reducible repeat (first | apply Kd.R_alloc | apply Kd.R_drewN | apply Kd.R_drew)); exact Kd.R_mono HO146.out wm_⟩, ⟨by (with_reducible repeat (first | apply Kd.R_alloc | apply Kd.R_drewN | apply Kd.R_drew)); exact Kd.R_mono HO175.out wm_⟩, ⟨by (with_reducible repeat (first | apply Kd.R_alloc | apply Kd.R_drewN | apply Kd.R_drew)); exact Kd.R_mono HO178.out wm_⟩, ⟨by (with_reducible repeat (first | apply Kd.R_alloc | apply Kd.R_drewN | apply Kd.R_drew)); exact Kd.R_mono HO123.out wm_⟩, ⟨nm_ HO126⟩, ⟨by (with_reducible repeat (first | apply Kd.R_alloc | apply Kd.R_drewN | apply Kd.R_drew)); exact Kd.R_mono HO150.out wm_⟩, ⟨nm_ HO153⟩, ⟨by (with_reducible repeat (first | apply Kd.R_alloc | apply Kd.R_drewN | apply Kd.R_drew)); exact Kd.R_mono HO161.out wm_⟩, ⟨nm_ HO164⟩, ⟨kk_ BK130⟩, ⟨kk_ BK155⟩, ⟨kk_ BK166⟩, ⟨bs3_ HB GE130 GE155 GE166⟩⟩
 case rest =>
  clear HC7
  try clear c1; try clear c2; try clear p2; try clear c3; try clear c4; try clear c5; try clear c10; try clear c13; try clear c15; try clear c26; try clear c29; try clear c36; try clear c37; try clear c48; try clear c48b0; try clear c48b1; try clear c49; try clear c49b0; try clear c49b1; try clear c50; try clear c50b0; try clear c50b1; try clear c51; try clear c51b0; try clear c51b1; try clear hcz11_0; try clear hcz11_1; try clear hcz15_0; try clear hcz15_1; try clear hcz19_0; try clear hcz19_1; try clear hcz21_0; try clear hcz21_1; try clear hcz27_0; try clear hcz27_1; try clear hcz29_0; try clear hcz29_1; try clear hcz38_0; try clear hcz38_1; try clear hcz45_0; try clear hcz45_1; try clear hfz11_0; try clear hfz11_1; try clear hfz15_0; try clear hfz15_1; try clear hfz19_0; try clear hfz19_1; try clear hfz21_0; try clear hfz21_1; try clear hfz27_0; try clear hfz27_1; try clear hfz29_0; try clear hfz29_1; try clear hfz38_0; try clear hfz38_1; try clear hfz45_0; try clear hfz45_1
  obtain ⟨kq, x18_6, rfl, HA, HJ6, HO_2, HO_4, HO_5, HO_7, HO_8, HO_15, HO_16, HO_131000, HO_131001, HO_156000, HO_156001, HO_167000, HO_167001, BK130, BK155, BK166, HB⟩ := hcut
  cases kq with
  | zero => exact absurd HA.out (by simp [cohousinglaw26_head.j0])
  | succ kj6 =>
   have H := HA.out
   clear HA
   simp only [cohousinglaw26_head.j0] at H
   by_cases c52 : x18_6 = true
   rotate_left
   ·replace c52 := Bool.eq_false_iff.mpr c52
    subst c52
    have H1 : (some false) = some true := by rw [if_neg (show ¬ (false = true) by decide)] at H; exact H
    clear H
    have H := H1
    clear H1
    exact absurd (Option.some.inj H) (by decide)
   subst c52
   have H1 : ((cohousingref26_SameMoves.f kj6 t134 (([(⟨5, 1, 3⟩ : S51)] : List (S51)))).bind fun t183 => (if t183 = true then ((cohousingref23_SameInts.f kj6 t137 (([0] : List Int))).bind fun t187 => (if t187 = true then (if 0 < (t127.length : Int) then ((cohousingref26_SameMoves.f kj6 t141 ((rd_T49 t127 0).f1)).bind fun t189 => (if t189 = true then (if (t144.length : Int) = 0 then (if (t151.length : Int) = 3 then (if 0 < (t151.length : Int) then (if ((rd_T46 t151 0).f1) = 3 then (if 1 < (t151.length : Int) then (if ((rd_T46 t151 1).f1) = 2 then (if (t173.length : Int) = 0 then ((cohousingref23_SameInts.f kj6 t176 (([0] : List Int))).bind fun t195 => (some t195)) else (some false)) else (some false)) else (none)) else (some false)) else (none)) else (some false)) else (some false)) else (some false))) else (none)) else (some false))) else (some false))) = some true := by rw [if_pos rfl] at H; exact H
   clear H
   have H := H1
   clear H1
   obtain ⟨y180, hy180⟩ : ∃ y_ : List (S51), y_ = (([(⟨5, 1, 3⟩ : S51)] : List (S51))) := ⟨_, rfl⟩
   replace H : ((cohousingref26_SameMoves.f kj6 t134 y180).bind fun t183 => (if t183 = true then ((cohousingref23_SameInts.f kj6 t137 (([0] : List Int))).bind fun t187 => (if t187 = true then (if 0 < (t127.length : Int) then ((cohousingref26_SameMoves.f kj6 t141 ((rd_T49 t127 0).f1)).bind fun t189 => (if t189 = true then (if (t144.length : Int) = 0 then (if (t151.length : Int) = 3 then (if 0 < (t151.length : Int) then (if ((rd_T46 t151 0).f1) = 3 then (if 1 < (t151.length : Int) then (if ((rd_T46 t151 1).f1) = 2 then (if (t173.length : Int) = 0 then ((cohousingref23_SameInts.f kj6 t176 (([0] : List Int))).bind fun t195 => (some t195)) else (some false)) else (some false)) else (none)) else (some false)) else (none)) else (some false)) else (some false)) else (some false))) else (none)) else (some false))) else (some false))) = some true := by first | (rw [hy180]; with_reducible exact H) | (have H2_ := (Option.bind_some _ _).symm.trans H; rw [hy180]; with_reducible exact H2_) | (have H2_ := (Option.bind_some _ _).symm.trans H; with_reducible exact H2_) | with_reducible exact H | (rw [hy180]; exact H) | exact H
   have Ny180 := mk_ hy180
   clear hy180
   replace H := Option.bind_eq_some_iff.mp H
   obtain ⟨t183, A530, H⟩ := H
   replace H : (if t183 = true then ((cohousingref23_SameInts.f kj6 t137 (([0] : List Int))).bind fun t187 => (if t187 = true then (if 0 < (t127.length : Int) then ((cohousingref26_SameMoves.f kj6 t141 ((rd_T49 t127 0).f1)).bind fun t189 => (if t189 = true then (if (t144.length : Int) = 0 then (if (t151.length : Int) = 3 then (if 0 < (t151.length : Int) then (if ((rd_T46 t151 0).f1) = 3 then (if 1 < (t151.length : Int) then (if ((rd_T46 t151 1).f1) = 2 then (if (t173.length : Int) = 0 then ((cohousingref23_SameInts.f kj6 t176 (([0] : List Int))).bind fun t195 => (some t195)) else (some false)) else (some false)) else (none)) else (some false)) else (none)) else (some false)) else (some false)) else (some false))) else (none)) else (some false))) else (some false)) = some true := H
   have A53 := mk_ A530
   clear A530
   by_cases c54 : t183 = true
   rotate_left
   ·replace c54 := Bool.eq_false_iff.mpr c54
    subst c54
    have H1 : (some false) = some true := by rw [if_neg (show ¬ (false = true) by decide)] at H; exact H
    clear H
    have H := H1
    clear H1
    exact absurd (Option.some.inj H) (by decide)
   subst c54
   have H1 : ((cohousingref23_SameInts.f kj6 t137 (([0] : List Int))).bind fun t187 => (if t187 = true then (if 0 < (t127.length : Int) then ((cohousingref26_SameMoves.f kj6 t141 ((rd_T49 t127 0).f1)).bind fun t189 => (if t189 = true then (if (t144.length : Int) = 0 then (if (t151.length : Int) = 3 then (if 0 < (t151.length : Int) then (if ((rd_T46 t151 0).f1) = 3 then (if 1 < (t151.length : Int) then (if ((rd_T46 t151 1).f1) = 2 then (if (t173.length : Int) = 0 then ((cohousingref23_SameInts.f kj6 t176 (([0] : List Int))).bind fun t195 => (some t195)) else (some false)) else (some false)) else (none)) else (some false)) else (none)) else (some false)) else (some false)) else (some false))) else (none)) else (some false))) = some true := by rw [if_pos rfl] at H; exact H
   clear H
   have H := H1
   clear H1
   obtain ⟨y184, hy184⟩ : ∃ y_ : List Int, y_ = (([0] : List Int)) := ⟨_, rfl⟩
   replace H : ((cohousingref23_SameInts.f kj6 t137 y184).bind fun t187 => (if t187 = true then (if 0 < (t127.length : Int) then ((cohousingref26_SameMoves.f kj6 t141 ((rd_T49 t127 0).f1)).bind fun t189 => (if t189 = true then (if (t144.length : Int) = 0 then (if (t151.length : Int) = 3 then (if 0 < (t151.length : Int) then (if ((rd_T46 t151 0).f1) = 3 then (if 1 < (t151.length : Int) then (if ((rd_T46 t151 1).f1) = 2 then (if (t173.length : Int) = 0 then ((cohousingref23_SameInts.f kj6 t176 (([0] : List Int))).bind fun t195 => (some t195)) else (some false)) else (some false)) else (none)) else (some false)) else (none)) else (some false)) else (some false)) else (some false))) else (none)) else (some false))) = some true := by first | (rw [hy184]; with_reducible exact H) | (have H2_ := (Option.bind_some _ _).symm.trans H; rw [hy184]; with_reducible exact H2_) | (have H2_ := (Option.bind_some _ _).symm.trans H; with_reducible exact H2_) | with_reducible exact H | (rw [hy184]; exact H) | exact H
   have Ny184 := mk_ hy184
   clear hy184
   replace H := Option.bind_eq_some_iff.mp H
   obtain ⟨t187, A550, H⟩ := H
   replace H : (if t187 = true then (if 0 < (t127.length : Int) then ((cohousingref26_SameMoves.f kj6 t141 ((rd_T49 t127 0).f1)).bind fun t189 => (if t189 = true then (if (t144.length : Int) = 0 then (if (t151.length : Int) = 3 then (if 0 < (t151.length : Int) then (if ((rd_T46 t151 0).f1) = 3 then (if 1 < (t151.length : Int) then (if ((rd_T46 t151 1).f1) = 2 then (if (t173.length : Int) = 0 then ((cohousingref23_SameInts.f kj6 t176 (([0] : List Int))).bind fun t195 => (some t195)) else (some false)) else (some false)) else (none)) else (some false)) else (none)) else (some false)) else (some false)) else (some false))) else (none)) else (some false)) = some true := H
   have A55 := mk_ A550
   clear A550
   by_cases c56 : t187 = true
   rotate_left
   ·replace c56 := Bool.eq_false_iff.mpr c56
    subst c56
    have H1 : (some false) = some true := by rw [if_neg (show ¬ (false = true) by decide)] at H; exact H
    clear H
    have H := H1
    clear H1
    exact absurd (Option.some.inj H) (by decide)
   subst c56
   have H1 : (if 0 < (t127.length : Int) then ((cohousingref26_SameMoves.f kj6 t141 ((rd_T49 t127 0).f1)).bind fun t189 => (if t189 = true then (if (t144.length : Int) = 0 then (if (t151.length : Int) = 3 then (if 0 < (t151.length : Int) then (if ((rd_T46 t151 0).f1) = 3 then (if 1 < (t151.length : Int) then (if ((rd_T46 t151 1).f1) = 2 then (if (t173.length : Int) = 0 then ((cohousingref23_SameInts.f kj6 t176 (([0] : List Int))).bind fun t195 => (some t195)) else (some false)) else (some false)) else (none)) else (some false)) else (none)) else (some false)) else (some false)) else (some false))) else (none)) = some true := by rw [if_pos rfl] at H; exact H
   clear H
   have H := H1
   clear H1
   by_cases c57 : 0 < (t127.length : Int)
   rotate_left
   ·rw [if_neg c57] at H
    exact absurd H (by simp)
   rw [if_pos c57] at H
   have c57b0 : decide (0 < (t127.length : Int)) = true := decide_eq_true c57
   have c57b1 : decide (0 < t127.length) = true := decide_eq_true (by omega)
   clear c57
   replace H := Option.bind_eq_some_iff.mp H
   obtain ⟨t189, A580, H⟩ := H
   replace H : (if t189 = true then (if (t144.length : Int) = 0 then (if (t151.length : Int) = 3 then (if 0 < (t151.length : Int) then (if ((rd_T46 t151 0).f1) = 3 then (if 1 < (t151.length : Int) then (if ((rd_T46 t151 1).f1) = 2 then (if (t173.length : Int) = 0 then ((cohousingref23_SameInts.f kj6 t176 (([0] : List Int))).bind fun t195 => (some t195)) else (some false)) else (some false)) else (none)) else (some false)) else (none)) else (some false)) else (some false)) else (some false)) = some true := H
   have A58 := mk_ A580
   clear A580
   by_cases c59 : t189 = true
   rotate_left
   ·replace c59 := Bool.eq_false_iff.mpr c59
    subst c59
    have H1 : (some false) = some true := by rw [if_neg (show ¬ (false = true) by decide)] at H; exact H
    clear H
    have H := H1
    clear H1
    exact absurd (Option.some.inj H) (by decide)
   subst c59
   have H1 : (if (t144.length : Int) = 0 then (if (t151.length : Int) = 3 then (if 0 < (t151.length : Int) then (if ((rd_T46 t151 0).f1) = 3 then (if 1 < (t151.length : Int) then (if ((rd_T46 t151 1).f1) = 2 then (if (t173.length : Int) = 0 then ((cohousingref23_SameInts.f kj6 t176 (([0] : List Int))).bind fun t195 => (some t195)) else (some false)) else (some false)) else (none)) else (some false)) else (none)) else (some false)) else (some false)) = some true := by rw [if_pos rfl] at H; exact H
   clear H
   have H := H1
   clear H1
   by_cases c60 : (t144.length : Int) = 0
   rotate_left
   ·rw [if_neg c60] at H
    have c60b0 : ((t144.length : Int) == 0) = false := beq_eq_false_iff_ne.mpr c60
    have c60b1 : ((t144.length : Int) != 0) = true := bne_iff_ne.mpr c60
    have c60b2 : ¬ (t144 = []) := fun h_ => c60 (by rw [h_]; rfl)
    exact absurd (Option.some.inj H) (by decide)
   rw [if_pos c60] at H
   have c60b0 : ((t144.length : Int) == 0) = true := beq_iff_eq.mpr c60
   have c60b1 : ((t144.length : Int) != 0) = false := bne_eq_false_iff_eq.mpr c60
   clear c60
   by_cases c61 : (t151.length : Int) = 3
   rotate_left
   ·rw [if_neg c61] at H
    have c61b0 : ((t151.length : Int) == 3) = false := beq_eq_false_iff_ne.mpr c61
    have c61b1 : ((t151.length : Int) != 3) = true := bne_iff_ne.mpr c61
    exact absurd (Option.some.inj H) (by decide)
   rw [if_pos c61] at H
   have c61b0 : ((t151.length : Int) == 3) = true := beq_iff_eq.mpr c61
   have c61b1 : ((t151.length : Int) != 3) = false := bne_eq_false_iff_eq.mpr c61
   clear c61
   by_cases c62 : 0 < (t151.length : Int)
   rotate_left
   ·rw [if_neg c62] at H
    exact absurd H (by simp)
   rw [if_pos c62] at H
   have c62b0 : decide (0 < (t151.length : Int)) = true := decide_eq_true c62
   have c62b1 : decide (0 < t151.length) = true := decide_eq_true (by omega)
   clear c62
   by_cases c63 : ((rd_T46 t151 0).f1) = 3
   rotate_left
   ·rw [if_neg c63] at H
    have c63b0 : (((rd_T46 t151 0).f1) == 3) = false := beq_eq_false_iff_ne.mpr c63
    have c63b1 : (((rd_T46 t151 0).f1) != 3) = true := bne_iff_ne.mpr c63
    exact absurd (Option.some.inj H) (by decide)
   rw [if_pos c63] at H
   have c63b0 : (((rd_T46 t151 0).f1) == 3) = true := beq_iff_eq.mpr c63
   have c63b1 : (((rd_T46 t151 0).f1) != 3) = false := bne_eq_false_iff_eq.mpr c63
   clear c63
   by_cases c64 : 1 < (t151.length : Int)
   rotate_left
   ·rw [if_neg c64] at H
    exact absurd H (by simp)
   rw [if_pos c64] at H
   have c64b0 : decide (1 < (t151.length : Int)) = true := decide_eq_true c64
   have c64b1 : decide (1 < t151.length) = true := decide_eq_true (by omega)
   clear c64
   by_cases c65 : ((rd_T46 t151 1).f1) = 2
   rotate_left
   ·rw [if_neg c65] at H
    have c65b0 : (((rd_T46 t151 1).f1) == 2) = false := beq_eq_false_iff_ne.mpr c65
    have c65b1 : (((rd_T46 t151 1).f1) != 2) = true := bne_iff_ne.mpr c65
    exact absurd (Option.some.inj H) (by decide)
   rw [if_pos c65] at H
   have c65b0 : (((rd_T46 t151 1).f1) == 2) = true := beq_iff_eq.mpr c65
   have c65b1 : (((rd_T46 t151 1).f1) != 2) = false := bne_eq_false_iff_eq.mpr c65
   clear c65
   by_cases c66 : (t173.length : Int) = 0
   rotate_left
   ·rw [if_neg c66] at H
    have c66b0 : ((t173.length : Int) == 0) = false := beq_eq_false_iff_ne.mpr c66
    have c66b1 : ((t173.length : Int) != 0) = true := bne_iff_ne.mpr c66
    have c66b2 : ¬ (t173 = []) := fun h_ => c66 (by rw [h_]; rfl)
    exact absurd (Option.some.inj H) (by decide)
   rw [if_pos c66] at H
   have c66b0 : ((t173.length : Int) == 0) = true := beq_iff_eq.mpr c66
   have c66b1 : ((t173.length : Int) != 0) = false := bne_eq_false_iff_eq.mpr c66
   clear c66
   obtain ⟨y192, hy192⟩ : ∃ y_ : List Int, y_ = (([0] : List Int)) := ⟨_, rfl⟩
   replace H : ((cohousingref23_SameInts.f kj6 t176 y192).bind fun t195 => (some t195)) = some true := by first | (rw [hy192]; with_reducible exact H) | (have H2_ := (Option.bind_some _ _).symm.trans H; rw [hy192]; with_reducible exact H2_) | (have H2_ := (Option.bind_some _ _).symm.trans H; with_reducible exact H2_) | with_reducible exact H | (rw [hy192]; exact H) | exact H
   have Ny192 := mk_ hy192
   clear hy192
   replace H := Option.bind_eq_some_iff.mp H
   obtain ⟨t195, A670, H⟩ := H
   replace H : (some t195) = some true := H
   have A67 := mk_ A670
   clear A670
   have hfin_ := Option.some.inj H
   go_wp2_with (first | ((with_reducible refine gate_dst (N := 92) rfl ?_); (try (refine gate_guard (by rfl) ?_; dsimp only)); refine Kd.R_lit k51 _ 51 ?hg (N := 92) ?hd (xs := ([(⟨5, 1, 3⟩ : S51)] : List (S51))) (inner := [.int .i64 5, .int .i64 1, .int .i64 3]) (ok := fun _ => True) (okp := fun _ => True) ?hr ?hp (fun _ hk => hk) trivial (Below.refl _ _) (Nat.le_refl _) (by simp) ?_; (case hd => rfl); (case hg => rfl); (case hr => first | (go_simp; done) | (go_simp; rfl)); (case hp => exact (Reps.c3 (show Kd.M k51 _ _ _ (⟨5, 1, 3⟩ : S51) [.int .i64 5, .int .i64 1, .int .i64 3] from (k51_mkM _ _ _ (⟨5, 1, 3⟩ : S51) )) (Reps.none _ _))); intro v181 w68 ho69 hb hg_ hnew_; clear hg_ hnew_; (first | rw [← Ny180.out] at ho69 | (simp only [Int.reduceToNat] at ho69; rw [← Ny180.out] at ho69)); have n0_ := mk_ (Kd.N_elder' (nn_ HO_2) (Kd.R_base ho69) hb); have n1_ := mk_ (Kd.R_elder' (rr_ HO_4) (Kd.R_base ho69) hb); have n2_ := mk_ (Kd.R_below (rr_ HO_5) hb); have n3_ := mk_ (Kd.R_elder' (rr_ HO_7) (Kd.R_base ho69) hb); have n4_ := mk_ (Kd.R_below (rr_ HO_8) hb); have n5_ := mk_ (Kd.R_elder' (rr_ HO_15) (Kd.R_base ho69) hb); have n6_ := mk_ (Kd.R_below (rr_ HO_16) hb); have n7_ := mk_ (Kd.R_below (rr_ HO_131000) hb); have n8_ := mk_ (Kd.N_elder' (nn_ HO_131001) (Kd.R_base ho69) hb); have n9_ := mk_ (Kd.R_below (rr_ HO_156000) hb); have n10_ := mk_ (Kd.N_elder' (nn_ HO_156001) (Kd.R_base ho69) hb); have n11_ := mk_ (Kd.R_below (rr_ HO_167000) hb); have n12_ := mk_ (Kd.N_elder' (nn_ HO_167001) (Kd.R_base ho69) hb); have n13_ := mk_ (Kd.R_lower (Kd.R_new' (Kd.R_new' (Kd.R_new' ho69 (Kd.R_lt (rr_ HO_4))) (Kd.R_lt (rr_ HO_7))) (Kd.R_lt (rr_ HO_15))) (below_size (bs3_ HB GE130 GE155 GE166))); have n14_ := mk_ (blk_below (kk_ BK130) hb); have n15_ := mk_ (blk_below (kk_ BK155) hb); have n16_ := mk_ (blk_below (kk_ BK166) hb); have n17_ := mk_ (below_step (bs3_ HB GE130 GE155 GE166) hb); clear HO_2 HO_4 HO_5 HO_7 HO_8 HO_15 HO_16 HO_131000 HO_131001 HO_156000 HO_156001 HO_167000 HO_167001 BK130 BK155 BK166 HB; revert n0_ n1_ n2_ n3_ n4_ n5_ n6_ n7_ n8_ n9_ n10_ n11_ n12_ n13_ n14_ n15_ n16_ n17_; intro HO_2 HO_4 HO_5 HO_7 HO_8 HO_15 HO_16 HO_131000 HO_131001 HO_156000 HO_156001 HO_167000 HO_167001 HO182 BK130 BK155 BK166 HB; clear hb ho69; obtain ⟨Ao70, co70, eo70⟩ := Kd.R_slice HO182.out; subst eo70) | (go_at_call 17; (with_reducible refine (cohousingref26_SameMoves.calls kj6 _ _ t134 _ _ y180 true _ ?side1 ?side2 ?side3 ?side4 A53.out).mono ?_); (case side1 => exact cc_ ((Kd.R_reads' HO_4.out).2.2)); (case side2 => exact (Kd.R_reads' HO_4.out).2.1); (case side3 => exact cc_ ((Kd.R_reads' HO182.out).2.2)); (case side4 => exact (Kd.R_reads' HO182.out).2.1); rintro e w' ⟨rfl, ⟨nd, rfl⟩⟩) | ((with_reducible refine gate_dst (N := 97) rfl ?_); (try (refine gate_guard (by rfl) ?_; dsimp only)); refine Kd.R_lit (Kd.int .i64) _ 3 ?hg (N := 97) ?hd (xs := ([0] : List Int)) (inner := [.int .i64 0]) (ok := fun _ => True) (okp := fun _ => True) ?hr ?hp (fun _ hk => hk) trivial (Below.refl _ _) (Nat.le_refl _) (by simp) ?_; (case hd => rfl); (case hg => rfl); (case hr => first | (go_simp; done) | (go_simp; rfl)); (case hp => exact (Reps.one (show Kd.M (Kd.int .i64) _ _ _ 0 [.int .i64 0] from rfl) (Reps.none _ _))); intro v185 w71 ho72 hb hg_ hnew_; clear hg_ hnew_; (first | rw [← Ny184.out] at ho72 | (simp only [Int.reduceToNat] at ho72; rw [← Ny184.out] at ho72)); have n0_ := mk_ (Kd.N_elder' (nn_ HO_2) (Kd.R_base ho72) hb); have n1_ := mk_ (Kd.R_below (rr_ HO_4) hb); have n2_ := mk_ (Kd.R_elder' (rr_ HO_5) (Kd.R_base ho72) hb); have n3_ := mk_ (Kd.R_below (rr_ HO_7) hb); have n4_ := mk_ (Kd.R_elder' (rr_ HO_8) (Kd.R_base ho72) hb); have n5_ := mk_ (Kd.R_below (rr_ HO_15) hb); have n6_ := mk_ (Kd.R_elder' (rr_ HO_16) (Kd.R_base ho72) hb); have n7_ := mk_ (Kd.R_below (rr_ HO_131000) hb); have n8_ := mk_ (Kd.N_elder' (nn_ HO_131001) (Kd.R_base ho72) hb); have n9_ := mk_ (Kd.R_below (rr_ HO_156000) hb); have n10_ := mk_ (Kd.N_elder' (nn_ HO_156001) (Kd.R_base ho72) hb); have n11_ := mk_ (Kd.R_below (rr_ HO_167000) hb); have n12_ := mk_ (Kd.N_elder' (nn_ HO_167001) (Kd.R_base ho72) hb); have n13_ := mk_ (Kd.R_below (rr_ HO182) hb); have n14_ := mk_ (Kd.R_lower (Kd.R_new' (Kd.R_new' (Kd.R_new' ho72 (Kd.R_lt (rr_ HO_5))) (Kd.R_lt (rr_ HO_8))) (Kd.R_lt (rr_ HO_16))) (below_size (bs3_ HB GE130 GE155 GE166))); have n15_ := mk_ (blk_below (kk_ BK130) hb); have n16_ := mk_ (blk_below (kk_ BK155) hb); have n17_ := mk_ (blk_below (kk_ BK166) hb); have n18_ := mk_ (below_step (bs3_ HB GE130 GE155 GE166) hb); clear HO_2 HO_4 HO_5 HO_7 HO_8 HO_15 HO_16 HO_131000 HO_131001 HO_156000 HO_156001 HO_167000 HO_167001 HO182 BK130 BK155 BK166 HB; revert n0_ n1_ n2_ n3_ n4_ n5_ n6_ n7_ n8_ n9_ n10_ n11_ n12_ n13_ n14_ n15_ n16_ n17_ n18_; intro HO_2 HO_4 HO_5 HO_7 HO_8 HO_15 HO_16 HO_131000 HO_131001 HO_156000 HO_156001 HO_167000 HO_167001 HO182 HO186 BK130 BK155 BK166 HB; clear hb ho72; obtain ⟨Ao73, co73, eo73⟩ := Kd.R_slice HO_5.out; subst eo73; obtain ⟨Ao74, co74, eo74⟩ := Kd.R_slice HO186.out; subst eo74) | (go_at_call 18; (with_reducible refine (cohousingref23_SameInts.calls kj6 _ _ t137 _ _ y184 true _ ?side1 ?side2 ?side3 ?side4 A55.out).mono ?_); (case side1 => exact cc_ ((Kd.R_reads' HO_5.out).2.2)); (case side2 => exact (Kd.R_reads' HO_5.out).2.1); (case side3 => exact cc_ ((Kd.R_reads' HO186.out).2.2)); (case side4 => exact (Kd.R_reads' HO186.out).2.1); rintro e w' ⟨rfl, ⟨nd, rfl⟩⟩; have p188 : 0 ≤ (0 : Int) := (by omega); have q188 : 0 < (t127.length : Int) := od_; obtain ⟨ad188, A188_1, c188_1, e188, hx188_0, hx188_1, hl188_1, hi188_1⟩ := at_T49 (Kd.N_reads' HO_2.out).2.2 0 p188 q188; cases e188; obtain ⟨ce188, hce188, hMe188, hcc188⟩ := Kd.N_get HO_2.out z49 0 p188 (by first | exact q188 | exact od_ | (have e_ := (Kd.N_reads' HO_2.out).1; omega)); obtain ⟨ua188_1, uc188_1, rfl, ul188_1, ge188_1⟩ := k49_openF hMe188; have hv188_1 := hcc188 1 _ rfl; rw [add_field _ _ 1 (by omega)] at hv188_1; replace hv188_1 := Option.some.inj (hv188_1.symm.trans hx188_1); injection hv188_1 with hva_ hvn_ hvc_; rw [hva_] at ge188_1; rw [hvc_] at ul188_1; have HL188_1 := mk_ (show Kd.V k51 51 _ w.heap.size _ _ ((rd_T49 t127 0).f1) from Kd.V_mk ul188_1 ge188_1); clear hva_ hvn_ hvc_ ge188_1 ul188_1; clear hcc188 hce188; have qi188 : (0 < t127.length) = True := eq_true (by omega); (try rw [show ((0 : Int)).toNat = 0 from rfl] at hx188_0); (try rw [show 0 * 2 = 0 from rfl] at hx188_0); (try rw [Addr.add_zero'] at hx188_0); (try rw [show ((0 : Int)).toNat = 0 from rfl] at hx188_1); (try rw [show 0 * 2 = 0 from rfl] at hx188_1); (try rw [Addr.add_zero'] at hx188_1); have HR188_1 := mk_ hi188_1; have HC188_1 := mk_ hl188_1; clear hi188_1 hl188_1; replace p188 := eq_true p188; replace q188 := eq_true q188; obtain ⟨Ao75, co75, eo75⟩ := Kd.R_slice HO_7.out; subst eo75) | (go_at_call 17; (with_reducible refine (cohousingref26_SameMoves.calls kj6 _ _ t141 _ _ ((rd_T49 t127 0).f1) true _ ?side1 ?side2 ?side3 ?side4 A58.out).mono ?_); (case side1 => exact cc_ ((Kd.R_reads' HO_7.out).2.2)); (case side2 => exact (Kd.R_reads' HO_7.out).2.1); (case side3 => repeat (first | exact (cc_ HR188_1.out) | (with_reducible refine Kd.C_alloc ?_ _) | (with_reducible refine Kd.C_drewN ?_ _) | (with_reducible refine Kd.C_drew ?_))); (case side4 => exact HC188_1.out); rintro e w' ⟨rfl, ⟨nd, rfl⟩⟩; obtain ⟨Ao76, co76, eo76⟩ := Kd.R_slice HO_8.out; subst eo76; have hnb77 := NB155_130.out; have hnc77 := NB130_155.out; have hnb78 := NB155_166.out; have hnc78 := NB166_155.out; have hcz79_0 := bc0_ BK155.out; have hcz79_1 := bc1_ BK155.out; have hfz79_0 := blk_frozen BK155.out 0; have hfz79_1 := blk_frozen BK155.out 1; have p190 : 0 ≤ (0 : Int) := (by omega); have q190 : 0 < (t151.length : Int) := od_; obtain ⟨ad190, A190_2, c190_2, e190, hx190_0, hx190_1, hx190_2, hl190_2, hi190_2⟩ := at_T46 (Kd.N_reads' HO_156001.out).2.2 0 p190 q190; cases e190; obtain ⟨ce190, hce190, hMe190, hcc190⟩ := Kd.N_get HO_156001.out z46 0 p190 (by first | exact q190 | exact od_ | (have e_ := (Kd.N_reads' HO_156001.out).1; omega)); obtain ⟨ua190_2, uc190_2, rfl, ul190_2, ge190_2⟩ := k46_openF hMe190; have hv190_2 := hcc190 2 _ rfl; rw [add_field _ _ 2 (by omega)] at hv190_2; replace hv190_2 := Option.some.inj (hv190_2.symm.trans hx190_2); injection hv190_2 with hva_ hvn_ hvc_; rw [hva_] at ge190_2; rw [hvc_] at ul190_2; have HL190_2 := mk_ (show Kd.V (Kd.int .i64) 3 _ w.heap.size _ _ ((rd_T46 t151 0).f2) from Kd.V_mk ul190_2 ge190_2); clear hva_ hvn_ hvc_ ge190_2 ul190_2; clear hcc190 hce190; have qi190 : (0 < t151.length) = True := eq_true (by omega); (try rw [show ((0 : Int)).toNat = 0 from rfl] at hx190_0); (try rw [show 0 * 3 = 0 from rfl] at hx190_0); (try rw [Addr.add_zero'] at hx190_0); (try rw [show ((0 : Int)).toNat = 0 from rfl] at hx190_1); (try rw [show 0 * 3 = 0 from rfl] at hx190_1); (try rw [Addr.add_zero'] at hx190_1); (try rw [show ((0 : Int)).toNat = 0 from rfl] at hx190_2); (try rw [show 0 * 3 = 0 from rfl] at hx190_2); (try rw [Addr.add_zero'] at hx190_2); have HR190_2 := mk_ hi190_2; have HC190_2 := mk_ hl190_2; clear hi190_2 hl190_2; replace p190 := eq_true p190; replace q190 := eq_true q190; have p191 : 0 ≤ (1 : Int) := (by omega); have q191 : 1 < (t151.length : Int) := od_; obtain ⟨ad191, A191_2, c191_2, e191, hx191_0, hx191_1, hx191_2, hl191_2, hi191_2⟩ := at_T46 (Kd.N_reads' HO_156001.out).2.2 1 p191 q191; obtain rfl : ad190 = ad191 := (by injection e191); obtain ⟨ce191, hce191, hMe191, hcc191⟩ := Kd.N_get HO_156001.out z46 1 p191 (by first | exact q191 | exact od_ | (have e_ := (Kd.N_reads' HO_156001.out).1; omega)); obtain ⟨ua191_2, uc191_2, rfl, ul191_2, ge191_2⟩ := k46_openF hMe191; have hv191_2 := hcc191 2 _ rfl; rw [add_field _ _ 2 (by omega)] at hv191_2; replace hv191_2 := Option.some.inj (hv191_2.symm.trans hx191_2); injection hv191_2 with hva_ hvn_ hvc_; rw [hva_] at ge191_2; rw [hvc_] at ul191_2; have HL191_2 := mk_ (show Kd.V (Kd.int .i64) 3 _ w.heap.size _ _ ((rd_T46 t151 1).f2) from Kd.V_mk ul191_2 ge191_2); clear hva_ hvn_ hvc_ ge191_2 ul191_2; clear hcc191 hce191; (try simp only [show (1 : Int).toNat = 1 from rfl, Nat.reduceMul, Nat.reduceEqDiff, Go.Addr.add, ↓reduceIte] at hx191_0); (try simp only [show (1 : Int).toNat = 1 from rfl, Nat.reduceMul, Nat.reduceEqDiff, Go.Addr.add, ↓reduceIte] at hx191_1); (try simp only [show (1 : Int).toNat = 1 from rfl, Nat.reduceMul, Nat.reduceEqDiff, Go.Addr.add, ↓reduceIte] at hx191_2); have qi191 : (1 < t151.length) = True := eq_true (by omega); (try rw [show ((1 : Int)).toNat = 1 from rfl] at hx191_0); (try rw [show 1 * 3 = 3 from rfl] at hx191_0); (try rw [show ((1 : Int)).toNat = 1 from rfl] at hx191_1); (try rw [show 1 * 3 = 3 from rfl] at hx191_1); (try rw [show ((1 : Int)).toNat = 1 from rfl] at hx191_2); (try rw [show 1 * 3 = 3 from rfl] at hx191_2); have HR191_2 := mk_ hi191_2; have HC191_2 := mk_ hl191_2; clear hi191_2 hl191_2; replace p191 := eq_true p191; replace q191 := eq_true q191; obtain ⟨Ao80, co80, eo80⟩ := Kd.R_slice HO_15.out; subst eo80) | ((with_reducible refine gate_dst (N := 143) rfl ?_); (try (refine gate_guard (by rfl) ?_; dsimp only)); refine Kd.R_lit (Kd.int .i64) _ 3 ?hg (N := 143) ?hd (xs := ([0] : List Int)) (inner := [.int .i64 0]) (ok := fun _ => True) (okp := fun _ => True) ?hr ?hp (fun _ hk => hk) trivial (Below.refl _ _) (Nat.le_refl _) (by simp) ?_; (case hd => rfl); (case hg => rfl); (case hr => first | (go_simp; done) | (go_simp; rfl)); (case hp => exact (Reps.one (show Kd.M (Kd.int .i64) _ _ _ 0 [.int .i64 0] from rfl) (Reps.none _ _))); intro v193 w81 ho82 hb hg_ hnew_; clear hg_ hnew_; (first | rw [← Ny192.out] at ho82 | (simp only [Int.reduceToNat] at ho82; rw [← Ny192.out] at ho82)); have n6_ := mk_ (Kd.R_elder' (rr_ HO_16) (Kd.R_base ho82) hb); have n18_ := mk_ (Kd.R_lower (Kd.R_new' (Kd.R_new' (Kd.R_new' (Kd.R_new' ho82 (Kd.R_lt (rr_ HO_5))) (Kd.R_lt (rr_ HO_8))) (Kd.R_lt (rr_ HO_16))) (Kd.R_lt (rr_ HO186))) (below_size (bs3_ HB GE130 GE155 GE166))); have n25_ := mk_ (below_step (bs3_ HB GE130 GE155 GE166) hb); clear HO_2 HO_4 HO_5 HO_7 HO_8 HO_15 HO_16 HO_131000 HO_131001 HO_156000 HO_156001 HO_167000 HO_167001 HO182 HO186 HL188_1 HL190_2 HL191_2 BK130 BK155 BK166 HR188_1 HR190_2 HR191_2 HB; revert n6_ n18_ n25_; intro HO_16 HO194 HB; clear hb ho82; obtain ⟨Ao83, co83, eo83⟩ := Kd.R_slice HO_16.out; subst eo83; obtain ⟨Ao84, co84, eo84⟩ := Kd.R_slice HO194.out; subst eo84) | (go_at_call 18; (with_reducible refine (cohousingref23_SameInts.calls kj6 _ _ t176 _ _ y192 t195 _ ?side1 ?side2 ?side3 ?side4 A67.out).mono ?_); (case side1 => exact cc_ ((Kd.R_reads' HO_16.out).2.2)); (case side2 => exact (Kd.R_reads' HO_16.out).2.1); (case side3 => exact cc_ ((Kd.R_reads' HO194.out).2.2)); (case side4 => exact (Kd.R_reads' HO194.out).2.1); rintro e w' ⟨rfl, ⟨nd, rfl⟩⟩))
   go_ret
   exact ⟨ew_, bs3_ HB GE130 GE155 GE166⟩
end Go.Proofs.Ytocbiggglnpeoaa.M
end
section
namespace Go.Proofs.Ytocbiggglnpeoaa.M
open Go.RowKit Go.Proofs.YtocbiggglnpeoaaW.PrintWords Go.Proofs.YtocbiggglnpeoaaW.PrintLast Go.Proofs.YtocbiggglnpeoaaW.PrintMore
attribute [local go_sem] max2_int min2_int max_two min_two max_three min_three max_four min_four
set_option linter.unusedVariables false
set_option linter.unusedSimpArgs false
mutual
def cohousingref23_Few.j0 : Nat → Bool → List (S84) → List (S46) → Option (Bool)
 | 0, _, _, _ => none
 | k + 1, x13, x197000, x197001 => if x13 = true then (some false) else (cohousingref23_Few.l0 k 0 x197000 x197001)
def cohousingref23_Few.l0 : Nat → Int → List (S84) → List (S46) → Option (Bool)
 | 0, _, _, _ => none
 | k + 1, x3, x197000, x197001 => if x3 < (x197001.length : Int) then (if 0 ≤ x3 then (if (((rd_T46 x197001 x3).f2).length : Int) > 30 then (some false) else (cohousingref23_Few.l0 k (wrap64 (x3 + 1)) x197000 x197001)) else (none)) else (some true)
end
def cohousingref23_Few.f (k : Nat) (l0_0 : List (S84)) (l0_1 : List (S46)) : Option (Bool) := if (l0_0.length : Int) > 20 then (cohousingref23_Few.j0 k true l0_0 l0_1) else (cohousingref23_Few.j0 k (decide ((l0_1.length : Int) > 20)) l0_0 l0_1)
set_option maxHeartbeats 8000000 in
set_option maxRecDepth 100000 in
theorem cohousingref23_Few.calls (k : Nat) (A0_0 : Option Addr) (c0_0 : Nat) (l0_0 : List (S84)) (A0_1 : Option Addr) (c0_1 : Nat) (l0_1 : List (S46)) (r : Bool) (w : World) (hr0_0 : Kd.C k84 w A0_0 l0_0.length l0_0) (hc0_0 : l0_0.length ≤ c0_0) (hr0_1 : Kd.C k46 w A0_1 l0_1.length l0_1) (hc0_1 : l0_1.length ≤ c0_1) (h : cohousingref23_Few.f k l0_0 l0_1 = some r) :
  Calls Try.prog 11 #[.agg #[.slice A0_0 l0_0.length c0_0, .slice A0_1 l0_1.length c0_1]] w fun e w' => e = .returned (.bool r) ∧ Below w.heap.size w w' := by
 have hu25 := Try.underlying25
 have HR0_0 := mk_ hr0_0
 have HC0_0 := mk_ hc0_0
 clear hr0_0 hc0_0
 have HR0_1 := mk_ hr0_1
 have HC0_1 := mk_ hc0_1
 clear hr0_1 hc0_1
 have HB := mk_ (Below.refl w.heap.size w)
 have H : (if (l0_0.length : Int) > 20 then (cohousingref23_Few.j0 k true l0_0 l0_1) else (cohousingref23_Few.j0 k (decide ((l0_1.length : Int) > 20)) l0_0 l0_1)) = some r := h
 clear h
 have HC2 := mk_ H
 clear H
 go_enter Try.func11, Try.ntmps11
 go_upto_region 1 with (first | ((with_reducible refine gate_dst (N := 1) rfl ?_); (try (refine gate_guard (by rfl) ?_; dsimp only)); refine box_event ?hg (N := 1) ?hd (cs := #[.slice A0_0 l0_0.length c0_0, .slice A0_1 l0_1.length c0_1]) (t := 25) ?hr ?_; (case hd => rfl); (case hg => rfl); (case hr => first | (go_simp; done) | (go_simp; rfl)); intro gb196 hg w3 hbox hb; have n0_ := mk_ (below_step (bb_ HB) hb); have n1_ := mk_ (hbox); have n2_ := mk_ (bz_ hg (bb_ HB)); have n3_ := mk_ (bz_ hg (bb_ HB)); clear HB; revert n0_ n1_ n2_ n3_; intro HB BK196 GW196 GE196; clear hb hbox hg))
 (try simp only [Act.put, sI_, s0_, sS_])
 go_cut [13] (fun v13 wc => ∃ (kq : Nat) (x13_1 : Bool), v13 = .bool x13_1 ∧ Aside0 (cohousingref23_Few.j0 kq x13_1 l0_0 l0_1 = some r) ∧ Aside0 (kq ≤ k) ∧ Aside0 (wc.heap[gb196]? = some (.cells #[(.slice A0_0 l0_0.length c0_0), (.slice A0_1 l0_1.length c0_1)] 25 (0, 0))) ∧ Aside0 (Below w.heap.size w wc))
 case first =>
  have H := HC2.out
  clear HC2
  by_cases c4 : (l0_0.length : Int) > 20
  rotate_left
  ·rw [if_neg c4] at H
   have c4b0 : decide (20 < (l0_0.length : Int)) = false := decide_eq_false c4
   have c4b1 : decide (20 < l0_0.length) = false := decide_eq_false (by omega)
   clear c4
   (first | rw [c4b0] | (simp only [i64_w, i32_w]; rw [c4b0]) | skip)
   have H' := mk_ H
   clear H
   have hcz6_0 := bc0_ BK196.out
   have hcz6_1 := bc1_ BK196.out
   have hfz6_0 := blk_frozen BK196.out 0
   have hfz6_1 := blk_frozen BK196.out 1
   go_wp2
   go_meet
   case rel => exact ⟨_, (decide ((l0_1.length : Int) > 20)), sd_, H', ⟨by first | omega | exact Nat.le_refl _⟩, ⟨kk_ BK196⟩, ⟨bs1_ HB GE196⟩⟩
  rw [if_pos c4] at H
  have c4b0 : decide (20 < (l0_0.length : Int)) = true := decide_eq_true c4
  have c4b1 : decide (20 < l0_0.length) = true := decide_eq_true (by omega)
  clear c4
  (first | rw [c4b0] | (simp only [i64_w, i32_w]; rw [c4b0]) | skip)
  have H' := mk_ H
  clear H
  have hcz5_0 := bc0_ BK196.out
  have hcz5_1 := bc1_ BK196.out
  have hfz5_0 := blk_frozen BK196.out 0
  have hfz5_1 := blk_frozen BK196.out 1
  go_wp2
  go_meet
  case rel => exact ⟨_, (true), sd_, H', ⟨by first | omega | exact Nat.le_refl _⟩, ⟨kk_ BK196⟩, ⟨bs1_ HB GE196⟩⟩
 case rest =>
  clear HC2
  try clear c1; try clear p2; try clear c4; try clear c4b0; try clear c4b1; try clear hcz5_0; try clear hcz5_1; try clear hcz6_0; try clear hcz6_1; try clear hfz5_0; try clear hfz5_1; try clear hfz6_0; try clear hfz6_1
  obtain ⟨kq, x13_1, rfl, HA, HJ1, BK196, HB⟩ := hcut
  cases kq with
  | zero => exact absurd HA.out (by simp [cohousingref23_Few.j0])
  | succ kj1 =>
   have H := HA.out
   clear HA
   simp only [cohousingref23_Few.j0] at H
   by_cases c7 : x13_1 = true
   ·subst c7
    have H1 : (some false) = some r := by rw [if_pos rfl] at H; exact H
    clear H
    have H := H1
    clear H1
    obtain rfl := Option.some.inj H
    go_wp2
    go_ret
    exact ⟨ew_, bs1_ HB GE196⟩
   replace c7 := Bool.eq_false_iff.mpr c7
   subst c7
   have H1 : (cohousingref23_Few.l0 kj1 0 l0_0 l0_1) = some r := by rw [if_neg (show ¬ (false = true) by decide)] at H; exact H
   clear H
   have H := H1
   clear H1
   have H' := mk_ H
   clear H
   go_wp2
   go_loopg [3] kj1 (fun kq v3 w' => ∃ (x3_2 : Int), v3 = .int .i64 x3_2 ∧ Aside0 (cohousingref23_Few.l0 kq x3_2 l0_0 l0_1 = some r) ∧ Aside0 (kq ≤ kj1) ∧ Aside0 (w'.heap[gb196]? = some (.cells #[(.slice A0_0 l0_0.length c0_0), (.slice A0_1 l0_1.length c0_1)] 25 (0, 0))) ∧ Aside0 (Below w.heap.size w w'))
   case atStart => exact ⟨(0), sd_, H', ⟨Nat.le_refl _⟩, ⟨kk_ BK196⟩, ⟨bs1_ HB GE196⟩⟩
   case round =>
    clear H'
    try clear c1; try clear p2; try clear c4; try clear c4b0; try clear c4b1; try clear c7; try clear hcz5_0; try clear hcz5_1; try clear hcz6_0; try clear hcz6_1; try clear hfz5_0; try clear hfz5_1; try clear hfz6_0; try clear hfz6_1; try clear p2
    obtain ⟨x3_2, rfl, HA, HK2, BK196, HB⟩ := hrel
    cases gk with
    | zero => exact absurd HA.out (by simp [cohousingref23_Few.l0])
    | succ k2 =>
     have H := HA.out
     clear HA
     simp only [cohousingref23_Few.l0] at H
     by_cases c8 : x3_2 < (l0_1.length : Int)
     rotate_left
     ·rw [if_neg c8] at H
      have c8b0 : decide (x3_2 < (l0_1.length : Int)) = false := decide_eq_false c8
      clear c8
      obtain rfl := Option.some.inj H
      have hcz13_0 := bc0_ BK196.out
      have hcz13_1 := bc1_ BK196.out
      have hfz13_0 := blk_frozen BK196.out 0
      have hfz13_1 := blk_frozen BK196.out 1
      go_wp2
      go_ret
      exact ⟨ew_, bs1_ HB GE196⟩
     rw [if_pos c8] at H
     have c8b0 : decide (x3_2 < (l0_1.length : Int)) = true := decide_eq_true c8
     clear c8
     by_cases c9 : 0 ≤ x3_2
     rotate_left
     ·rw [if_neg c9] at H
      exact absurd H (by simp)
     rw [if_pos c9] at H
     have c9b0 : decide (0 ≤ x3_2) = true := decide_eq_true c9
     clear c9
     by_cases c10 : (((rd_T46 l0_1 x3_2).f2).length : Int) > 30
     ·rw [if_pos c10] at H
      have c10b0 : decide (30 < (((rd_T46 l0_1 x3_2).f2).length : Int)) = true := decide_eq_true c10
      have c10b1 : decide (30 < ((rd_T46 l0_1 x3_2).f2).length) = true := decide_eq_true (by omega)
      clear c10
      obtain rfl := Option.some.inj H
      have hcz11_0 := bc0_ BK196.out
      have hcz11_1 := bc1_ BK196.out
      have hfz11_0 := blk_frozen BK196.out 0
      have hfz11_1 := blk_frozen BK196.out 1
      have p197 : 0 ≤ (x3_2 : Int) := od_
      have q197 : x3_2 < (l0_1.length : Int) := od_
      obtain ⟨ad197, A197_2, c197_2, e197, hx197_0, hx197_1, hx197_2, hl197_2, hi197_2⟩ := at_T46 HR0_1.out x3_2 p197 q197
      cases e197
      replace hx197_0 := cb_ HB hx197_0
      replace hx197_1 := cb_ HB hx197_1
      replace hx197_2 := cb_ HB hx197_2
      have HR197_2 := mk_ hi197_2
      have HC197_2 := mk_ hl197_2
      clear hi197_2 hl197_2
      replace p197 := eq_true p197
      replace q197 := eq_true q197
      go_wp2
      go_ret
      exact ⟨ew_, bs1_ HB GE196⟩
     rw [if_neg c10] at H
     have c10b0 : decide (30 < (((rd_T46 l0_1 x3_2).f2).length : Int)) = false := decide_eq_false c10
     have c10b1 : decide (30 < ((rd_T46 l0_1 x3_2).f2).length) = false := decide_eq_false (by omega)
     clear c10
     have H' := mk_ H
     clear H
     have hcz12_0 := bc0_ BK196.out
     have hcz12_1 := bc1_ BK196.out
     have hfz12_0 := blk_frozen BK196.out 0
     have hfz12_1 := blk_frozen BK196.out 1
     have p197 : 0 ≤ (x3_2 : Int) := od_
     have q197 : x3_2 < (l0_1.length : Int) := od_
     obtain ⟨ad197, A197_2, c197_2, e197, hx197_0, hx197_1, hx197_2, hl197_2, hi197_2⟩ := at_T46 HR0_1.out x3_2 p197 q197
     cases e197
     replace hx197_0 := cb_ HB hx197_0
     replace hx197_1 := cb_ HB hx197_1
     replace hx197_2 := cb_ HB hx197_2
     have HR197_2 := mk_ hi197_2
     have HC197_2 := mk_ hl197_2
     clear hi197_2 hl197_2
     replace p197 := eq_true p197
     replace q197 := eq_true q197
     go_wp2
     go_roundg k2
     case measure => have := HJ1.out; have := HK2.out; omega
     case rel => exact ⟨(wrap64 (x3_2 + 1)), sd_, H', ⟨by have := HJ1.out; have := HK2.out; omega⟩, ⟨kk_ BK196⟩, ⟨bs1_ HB GE196⟩⟩
end Go.Proofs.Ytocbiggglnpeoaa.M
end
section
namespace Go.Proofs.Ytocbiggglnpeoaa.M
open Go.RowKit Go.Proofs.YtocbiggglnpeoaaW.PrintWords Go.Proofs.YtocbiggglnpeoaaW.PrintLast Go.Proofs.YtocbiggglnpeoaaW.PrintMore
attribute [local go_sem] max2_int min2_int max_two min_two max_three min_three max_four min_four
set_option linter.unusedVariables false
set_option linter.unusedSimpArgs false
mutual
def cohousingref26_Few.j0 : Nat → List (S49) → Bool → Option (Bool)
 | 0, _, _ => none
 | k + 1, x0, x13 => if x13 = true then (some false) else (cohousingref26_Few.l0 k x0 0)
def cohousingref26_Few.l0 : Nat → List (S49) → Int → Option (Bool)
 | 0, _, _ => none
 | k + 1, x0, x5 => if x5 < (x0.length : Int) then (if 0 ≤ x5 then (if (((rd_T49 x0 x5).f1).length : Int) > 30 then (some false) else (cohousingref26_Few.l0 k x0 (wrap64 (x5 + 1)))) else (none)) else (some true)
end
def cohousingref26_Few.f (k : Nat) (l0 : List (S49)) (l1 : List (S55)) : Option (Bool) := if (l0.length : Int) > 20 then (cohousingref26_Few.j0 k l0 true) else (cohousingref26_Few.j0 k l0 (decide ((l1.length : Int) > 60)))
set_option maxHeartbeats 8000000 in
set_option maxRecDepth 100000 in
theorem cohousingref26_Few.calls (k : Nat) (A0 : Option Addr) (c0 : Nat) (l0 : List (S49)) (A1 : Option Addr) (c1 : Nat) (l1 : List (S55)) (r : Bool) (w : World) (hr0 : Kd.C k49 w A0 l0.length l0) (hc0 : l0.length ≤ c0) (hr1 : Kd.C k55 w A1 l1.length l1) (hc1 : l1.length ≤ c1) (h : cohousingref26_Few.f k l0 l1 = some r) :
  Calls Try.prog 12 #[.slice A0 l0.length c0, .slice A1 l1.length c1] w fun e w' => e = .returned (.bool r) ∧ Drawn0 w w' := by
 have HR0 := mk_ hr0
 have HC0 := mk_ hc0
 clear hr0 hc0
 have HR1 := mk_ hr1
 have HC1 := mk_ hc1
 clear hr1 hc1
 have H : (if (l0.length : Int) > 20 then (cohousingref26_Few.j0 k l0 true) else (cohousingref26_Few.j0 k l0 (decide ((l1.length : Int) > 60)))) = some r := h
 clear h
 have HC3 := mk_ H
 clear H
 go_enter Try.func12, Try.ntmps12
 go_upto_region 1 with (fail)
 go_cut [13] (fun v13 wc => ∃ (kq : Nat) (x13_2 : Bool), v13 = .bool x13_2 ∧ Aside0 (cohousingref26_Few.j0 kq l0 x13_2 = some r) ∧ Aside0 (kq ≤ k) ∧ Drawn0 w wc)
 case first =>
  have H := HC3.out
  clear HC3
  by_cases c4 : (l0.length : Int) > 20
  rotate_left
  ·rw [if_neg c4] at H
   have c4b0 : decide (20 < (l0.length : Int)) = false := decide_eq_false c4
   have c4b1 : decide (20 < l0.length) = false := decide_eq_false (by omega)
   clear c4
   (first | rw [c4b0] | (simp only [i64_w, i32_w]; rw [c4b0]) | skip)
   have H' := mk_ H
   clear H
   go_wp2
   go_meet
   case rel => exact ⟨_, (decide ((l1.length : Int) > 60)), sd_, H', ⟨by first | omega | exact Nat.le_refl _⟩, by repeat (first | exact Drawn0.refl _ | apply Drawn0.step)⟩
  rw [if_pos c4] at H
  have c4b0 : decide (20 < (l0.length : Int)) = true := decide_eq_true c4
  have c4b1 : decide (20 < l0.length) = true := decide_eq_true (by omega)
  clear c4
  (first | rw [c4b0] | (simp only [i64_w, i32_w]; rw [c4b0]) | skip)
  have H' := mk_ H
  clear H
  go_wp2
  go_meet
  case rel => exact ⟨_, (true), sd_, H', ⟨by first | omega | exact Nat.le_refl _⟩, by repeat (first | exact Drawn0.refl _ | apply Drawn0.step)⟩
 case rest =>
  clear HC3
  try clear c1; try clear p2; try clear c4; try clear c4b0; try clear c4b1
  obtain ⟨kq, x13_2, rfl, HA, HJ2, ⟨mc2, rfl⟩⟩ := hcut
  cases kq with
  | zero => exact absurd HA.out (by simp [cohousingref26_Few.j0])
  | succ kj2 =>
   have H := HA.out
   clear HA
   simp only [cohousingref26_Few.j0] at H
   by_cases c5 : x13_2 = true
   ·subst c5
    have H1 : (some false) = some r := by rw [if_pos rfl] at H; exact H
    clear H
    have H := H1
    clear H1
    obtain rfl := Option.some.inj H
    go_wp2
    go_ret
    exact ⟨by first | rfl | (simp; done) | (simp [*]; done), by repeat (first | exact Drawn0.refl _ | apply Drawn0.step)⟩
   replace c5 := Bool.eq_false_iff.mpr c5
   subst c5
   have H1 : (cohousingref26_Few.l0 kj2 l0 0) = some r := by rw [if_neg (show ¬ (false = true) by decide)] at H; exact H
   clear H
   have H := H1
   clear H1
   have H' := mk_ H
   clear H
   go_wp2
   go_loopg [5] kj2 (fun kq v5 w' => ∃ (x5_2 : Int), v5 = .int .i64 x5_2 ∧ Aside0 (cohousingref26_Few.l0 kq l0 x5_2 = some r) ∧ Aside0 (kq ≤ kj2) ∧ Drawn0 w w')
   case atStart => exact ⟨(0), sd_, H', ⟨Nat.le_refl _⟩, by repeat (first | exact Drawn0.refl _ | apply Drawn0.step)⟩
   case round =>
    clear H'
    try clear c1; try clear c2; try clear p2; try clear c4; try clear c4b0; try clear c4b1; try clear c5; try clear p2
    obtain ⟨x5_2, rfl, HA, HK2, ⟨m2, rfl⟩⟩ := hrel
    cases gk with
    | zero => exact absurd HA.out (by simp [cohousingref26_Few.l0])
    | succ k2 =>
     have H := HA.out
     clear HA
     simp only [cohousingref26_Few.l0] at H
     by_cases c6 : x5_2 < (l0.length : Int)
     rotate_left
     ·rw [if_neg c6] at H
      have c6b0 : decide (x5_2 < (l0.length : Int)) = false := decide_eq_false c6
      clear c6
      obtain rfl := Option.some.inj H
      go_wp2
      go_ret
      exact ⟨by first | rfl | (simp; done) | (simp [*]; done), by repeat (first | exact Drawn0.refl _ | apply Drawn0.step)⟩
     rw [if_pos c6] at H
     have c6b0 : decide (x5_2 < (l0.length : Int)) = true := decide_eq_true c6
     clear c6
     by_cases c7 : 0 ≤ x5_2
     rotate_left
     ·rw [if_neg c7] at H
      exact absurd H (by simp)
     rw [if_pos c7] at H
     have c7b0 : decide (0 ≤ x5_2) = true := decide_eq_true c7
     clear c7
     by_cases c8 : (((rd_T49 l0 x5_2).f1).length : Int) > 30
     ·rw [if_pos c8] at H
      have c8b0 : decide (30 < (((rd_T49 l0 x5_2).f1).length : Int)) = true := decide_eq_true c8
      have c8b1 : decide (30 < ((rd_T49 l0 x5_2).f1).length) = true := decide_eq_true (by omega)
      clear c8
      obtain rfl := Option.some.inj H
      have p198 : 0 ≤ (x5_2 : Int) := od_
      have q198 : x5_2 < (l0.length : Int) := od_
      obtain ⟨ad198, A198_1, c198_1, e198, hx198_0, hx198_1, hl198_1, hi198_1⟩ := at_T49 HR0.out x5_2 p198 q198
      cases e198
      have HR198_1 := mk_ hi198_1
      have HC198_1 := mk_ hl198_1
      clear hi198_1 hl198_1
      replace p198 := eq_true p198
      replace q198 := eq_true q198
      go_wp2
      go_ret
      exact ⟨by first | rfl | (simp; done) | (simp [*]; done), by repeat (first | exact Drawn0.refl _ | apply Drawn0.step)⟩
     rw [if_neg c8] at H
     have c8b0 : decide (30 < (((rd_T49 l0 x5_2).f1).length : Int)) = false := decide_eq_false c8
     have c8b1 : decide (30 < ((rd_T49 l0 x5_2).f1).length) = false := decide_eq_false (by omega)
     clear c8
     have H' := mk_ H
     clear H
     have p198 : 0 ≤ (x5_2 : Int) := od_
     have q198 : x5_2 < (l0.length : Int) := od_
     obtain ⟨ad198, A198_1, c198_1, e198, hx198_0, hx198_1, hl198_1, hi198_1⟩ := at_T49 HR0.out x5_2 p198 q198
     cases e198
     have HR198_1 := mk_ hi198_1
     have HC198_1 := mk_ hl198_1
     clear hi198_1 hl198_1
     replace p198 := eq_true p198
     replace q198 := eq_true q198
     go_wp2
     go_roundg k2
     case measure => have := HJ2.out; have := HK2.out; omega
     case rel => exact ⟨(wrap64 (x5_2 + 1)), sd_, H', ⟨by have := HJ2.out; have := HK2.out; omega⟩, by repeat (first | exact Drawn0.refl _ | apply Drawn0.step)⟩
end Go.Proofs.Ytocbiggglnpeoaa.M
end
