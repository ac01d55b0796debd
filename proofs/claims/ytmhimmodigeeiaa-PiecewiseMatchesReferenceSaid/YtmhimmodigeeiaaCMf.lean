/- Part 6 of the base that the seat's proofs share: words, walks and plain laws. -/
import Derived.Test.YtmhimmodigeeiaaCMe
set_option linter.unusedVariables false
set_option linter.unusedSimpArgs false
section
namespace Go.Proofs.Ytmhimmodigeeiaa.P
open Go.RowKit Go.Proofs.YtmhimmodigeeiaaW.PrintWords Go.Proofs.YtmhimmodigeeiaaW.PrintLast Go.Proofs.YtmhimmodigeeiaaW.PrintMore
attribute [local go_sem] max2_int min2_int max_two min_two max_three min_three max_four min_four
set_option linter.unusedVariables false
set_option linter.unusedSimpArgs false
set_option maxHeartbeats 8000000
set_option maxRecDepth 100000
section
attribute [local go_sem high] eqA24
mutual
def cohousinglaw05_head.j0 : Nat → List (S51) → List (S51) → Int → Bool → Bool → List (S51) → List (S51) → Bool → Int → Int → Option (Bool)
 | 0, _, _, _, _, _, _, _, _, _, _ => none
 | k + 1, x2, x3, x5, x6, x9, x13, x15, x17, x204000, x204001 => if x17 = true then ((cohousinglaw05_piece.f 0 0 2).bind fun bt212 => ((cohousinglaw05_piece.f 5 9 0).bind fun bt217 => ((cohousinglaw05_piece.f 10 0 0).bind fun bt222 => ((cohousingref05_Same.f k x3 (([(⟨bt212.1, (⟨bt212.2.1, bt212.2.2.1⟩ : S24), (⟨bt212.2.2.2.1, bt212.2.2.2.2⟩ : S24)⟩ : S51), (⟨bt217.1, (⟨bt217.2.1, bt217.2.2.1⟩ : S24), (⟨bt217.2.2.2.1, bt217.2.2.2.2⟩ : S24)⟩ : S51), (⟨bt222.1, (⟨bt222.2.1, bt222.2.2.1⟩ : S24), (⟨bt222.2.2.2.1, bt222.2.2.2.2⟩ : S24)⟩ : S51)] : List (S51)))).bind fun t230 => (if t230 = true then (if x6 = true then (if x5 = 5 then (if x9 = true then (cohousinglaw05_head.j1 k x2 x13 x15 false) else (cohousinglaw05_head.j1 k x2 x13 x15 (x204000 == 14 && (x204001 == 1)))) else (cohousinglaw05_head.j1 k x2 x13 x15 false)) else (cohousinglaw05_head.j1 k x2 x13 x15 false)) else (cohousinglaw05_head.j1 k x2 x13 x15 false)))))) else (cohousinglaw05_head.j1 k x2 x13 x15 false)
def cohousinglaw05_head.j1 : Nat → List (S51) → List (S51) → List (S51) → Bool → Option (Bool)
 | 0, _, _, _, _ => none
 | k + 1, x2, x13, x15, x17 => if x17 = true then ((cohousinglaw05_piece.f 0 9 2).bind fun bt231 => ((cohousinglaw05_piece.f 10 20 2).bind fun bt236 => ((cohousingref05_Same.f k x13 (([(⟨bt231.1, (⟨bt231.2.1, bt231.2.2.1⟩ : S24), (⟨bt231.2.2.2.1, bt231.2.2.2.2⟩ : S24)⟩ : S51), (⟨bt236.1, (⟨bt236.2.1, bt236.2.2.1⟩ : S24), (⟨bt236.2.2.2.1, bt236.2.2.2.2⟩ : S24)⟩ : S51)] : List (S51)))).bind fun t244 => (if t244 = true then ((cohousinglaw05_piece.f 0 0 1).bind fun bt245 => ((cohousingref05_Same.f k x15 (([(⟨bt245.1, (⟨bt245.2.1, bt245.2.2.1⟩ : S24), (⟨bt245.2.2.2.1, bt245.2.2.2.2⟩ : S24)⟩ : S51)] : List (S51)))).bind fun t253 => (if t253 = true then ((piecewise_Valid.f k x2).bind fun t254 => (some t254)) else (some false)))) else (some false))))) else (some false)
end
def cohousinglaw05_head.f (k : Nat)  : Option (Bool) := (cohousinglaw05_piece.f 0 0 2).bind fun bt169 => ((some (([(⟨bt169.1, (⟨bt169.2.1, bt169.2.2.1⟩ : S24), (⟨bt169.2.2.2.1, bt169.2.2.2.2⟩ : S24)⟩ : S51)] : List (S51)) : List (S51))).bind fun y174 => ((cohousinglaw05_piece.f 0 9 0).bind fun bt177 => ((cohousinglaw05_piece.f 10 0 0).bind fun bt182 => ((some (([(⟨bt177.1, (⟨bt177.2.1, bt177.2.2.1⟩ : S24), (⟨bt177.2.2.2.1, bt177.2.2.2.2⟩ : S24)⟩ : S51), (⟨bt182.1, (⟨bt182.2.1, bt182.2.2.1⟩ : S24), (⟨bt182.2.2.2.1, bt182.2.2.2.2⟩ : S24)⟩ : S51)] : List (S51)) : List (S51))).bind fun y187 => ((piecewise_Least.f y174 y187).bind fun bt190 => ((piecewise_Below.f y187 y174 0 20).bind fun bt194 => ((piecewise_Below.f y174 y187 5 20).bind fun bt197 => ((piecewise_At.f k y174 7).bind fun bt200 => ((piecewise_Add.f y174 y187).bind fun bt204 => ((piecewise_Scale.f k y174 1 2).bind fun bt208 => (if bt190.2 = 0 then (if bt194.2.2 = 0 then (if bt197.2.2 = 0 then (if bt200.2.2 = 0 then (if bt204.2 = 0 then (cohousinglaw05_head.j0 k y187 bt190.1 bt194.1 bt194.2.1 bt197.2.1 bt204.1 bt208.1 (bt208.2 == 0) bt200.1 bt200.2.1) else (cohousinglaw05_head.j0 k y187 bt190.1 bt194.1 bt194.2.1 bt197.2.1 bt204.1 bt208.1 false bt200.1 bt200.2.1)) else (cohousinglaw05_head.j0 k y187 bt190.1 bt194.1 bt194.2.1 bt197.2.1 bt204.1 bt208.1 false bt200.1 bt200.2.1)) else (cohousinglaw05_head.j0 k y187 bt190.1 bt194.1 bt194.2.1 bt197.2.1 bt204.1 bt208.1 false bt200.1 bt200.2.1)) else (cohousinglaw05_head.j0 k y187 bt190.1 bt194.1 bt194.2.1 bt197.2.1 bt204.1 bt208.1 false bt200.1 bt200.2.1)) else (cohousinglaw05_head.j0 k y187 bt190.1 bt194.1 bt194.2.1 bt197.2.1 bt204.1 bt208.1 false bt200.1 bt200.2.1))))))))))))
theorem cohousinglaw05_head.mono_l : ∀ k, (∀ y0 y1 y2 y3 y4 y5 y6 y7 y8 y9, LeO (cohousinglaw05_head.j0 k y0 y1 y2 y3 y4 y5 y6 y7 y8 y9) (cohousinglaw05_head.j0 (k + 1) y0 y1 y2 y3 y4 y5 y6 y7 y8 y9)) ∧ (∀ y0 y1 y2 y3, LeO (cohousinglaw05_head.j1 k y0 y1 y2 y3) (cohousinglaw05_head.j1 (k + 1) y0 y1 y2 y3))
 | 0 => ⟨fun _ _ _ _ _ _ _ _ _ _ r h => by simp [cohousinglaw05_head.j0] at h, fun _ _ _ _ r h => by simp [cohousinglaw05_head.j1] at h⟩
 | k + 1 => by
  obtain ⟨ih0, ih1⟩ := cohousinglaw05_head.mono_l k
  refine ⟨?_, ?_⟩
  ·intro y0 y1 y2 y3 y4 y5 y6 y7 y8 y9
   unfold cohousinglaw05_head.j0
   repeat' first
   | (with_reducible exact ih0 _ _ _ _ _ _ _ _ _ _)
   | (with_reducible exact ih1 _ _ _ _)
   | (with_reducible exact cohousingref05_Same.mono _ _ _)
   | (with_reducible exact piecewise_At.mono _ _ _)
   | (with_reducible exact piecewise_Scale.mono _ _ _ _)
   | (with_reducible exact piecewise_Valid.mono _ _)
   | (with_reducible exact LeO.refl _)
   | (with_reducible exact LeO.none _)
   | (with_reducible refine LeO.ite ?_ ?_)
   | (with_reducible refine LeO.bind ?_ (fun _ => ?_))
   | exact ih0 _ _ _ _ _ _ _ _ _ _
   | exact ih1 _ _ _ _
   | exact cohousingref05_Same.mono _ _ _
   | exact piecewise_At.mono _ _ _
   | exact piecewise_Scale.mono _ _ _ _
   | exact piecewise_Valid.mono _ _
   | exact LeO.none _
   | refine LeO.ite ?_ ?_
   | refine LeO.bind ?_ (fun _ => ?_)
  ·intro y0 y1 y2 y3
   unfold cohousinglaw05_head.j1
   repeat' first
   | (with_reducible exact ih0 _ _ _ _ _ _ _ _ _ _)
   | (with_reducible exact ih1 _ _ _ _)
   | (with_reducible exact cohousingref05_Same.mono _ _ _)
   | (with_reducible exact piecewise_At.mono _ _ _)
   | (with_reducible exact piecewise_Scale.mono _ _ _ _)
   | (with_reducible exact piecewise_Valid.mono _ _)
   | (with_reducible exact LeO.refl _)
   | (with_reducible exact LeO.none _)
   | (with_reducible refine LeO.ite ?_ ?_)
   | (with_reducible refine LeO.bind ?_ (fun _ => ?_))
   | exact ih0 _ _ _ _ _ _ _ _ _ _
   | exact ih1 _ _ _ _
   | exact cohousingref05_Same.mono _ _ _
   | exact piecewise_At.mono _ _ _
   | exact piecewise_Scale.mono _ _ _ _
   | exact piecewise_Valid.mono _ _
   | exact LeO.none _
   | refine LeO.ite ?_ ?_
   | refine LeO.bind ?_ (fun _ => ?_)
theorem cohousinglaw05_head.mono : ∀ k, LeO (cohousinglaw05_head.f k ) (cohousinglaw05_head.f (k + 1) ) := by
 intro  k
 obtain ⟨ih0, ih1⟩ := cohousinglaw05_head.mono_l k
 unfold cohousinglaw05_head.f
 repeat' first
   | (with_reducible exact ih0 _ _ _ _ _ _ _ _ _ _)
   | (with_reducible exact ih1 _ _ _ _)
   | (with_reducible exact cohousingref05_Same.mono _ _ _)
   | (with_reducible exact piecewise_At.mono _ _ _)
   | (with_reducible exact piecewise_Scale.mono _ _ _ _)
   | (with_reducible exact piecewise_Valid.mono _ _)
   | (with_reducible exact LeO.refl _)
   | (with_reducible exact LeO.none _)
   | (with_reducible refine LeO.ite ?_ ?_)
   | (with_reducible refine LeO.bind ?_ (fun _ => ?_))
   | exact ih0 _ _ _ _ _ _ _ _ _ _
   | exact ih1 _ _ _ _
   | exact cohousingref05_Same.mono _ _ _
   | exact piecewise_At.mono _ _ _
   | exact piecewise_Scale.mono _ _ _ _
   | exact piecewise_Valid.mono _ _
   | exact LeO.none _
   | refine LeO.ite ?_ ?_
   | refine LeO.bind ?_ (fun _ => ?_)
theorem cohousinglaw05_head.yes : ∀ k r, cohousinglaw05_head.f k = some r → r = true := fun k r h => by
 have h1 : cohousinglaw05_head.f 120 = some true := by kernel_rfl
 have up : ∀ (d a : Nat) (x : Bool), cohousinglaw05_head.f a = some x → cohousinglaw05_head.f (a + d) = some x := fun d => by
  induction d with
  | zero => intro a x hx; exact hx
  | succ d ih => intro a x hx; exact cohousinglaw05_head.mono _ _ (ih a x hx)
 have h2 := up 120 k r h
 have h3 := up k 120 true h1
 rw [Nat.add_comm] at h3
 rw [h2] at h3
 exact Option.some.inj h3
theorem cohousinglaw05_head.no1 : ∀ k a b c, cohousinglaw05_head.j1 k a b c false = some true → False := fun k a b c h => by
 cases k with
 | zero => simp [cohousinglaw05_head.j1] at h
 | succ k => simp [cohousinglaw05_head.j1] at h
theorem cohousinglaw05_head.no0 : ∀ k a b c d e f g i j, cohousinglaw05_head.j0 k a b c d e f g false i j = some true → False := fun k a b c d e f g i j h => by
 cases k with
 | zero => simp [cohousinglaw05_head.j0] at h
 | succ k =>
  simp only [cohousinglaw05_head.j0, Bool.false_eq_true, if_false] at h
  exact cohousinglaw05_head.no1 _ _ _ _ h
theorem cohousinglaw05_head.calls (k : Nat)  (r : Bool) (w : World) (h : cohousinglaw05_head.f k  = some r) :
  Calls Try.prog 10 #[] w fun e w' => e = .returned (.bool r) ∧ Below w.heap.size w w' := by
 obtain rfl := cohousinglaw05_head.yes k r h
 have hu26 := Try.underlying26
 have hu24 := Try.underlying24
 have HB := mk_ (Below.refl w.heap.size w)
 have H : ((cohousinglaw05_piece.f 0 0 2).bind fun bt169 => ((some (([(⟨bt169.1, (⟨bt169.2.1, bt169.2.2.1⟩ : S24), (⟨bt169.2.2.2.1, bt169.2.2.2.2⟩ : S24)⟩ : S51)] : List (S51)) : List (S51))).bind fun y174 => ((cohousinglaw05_piece.f 0 9 0).bind fun bt177 => ((cohousinglaw05_piece.f 10 0 0).bind fun bt182 => ((some (([(⟨bt177.1, (⟨bt177.2.1, bt177.2.2.1⟩ : S24), (⟨bt177.2.2.2.1, bt177.2.2.2.2⟩ : S24)⟩ : S51), (⟨bt182.1, (⟨bt182.2.1, bt182.2.2.1⟩ : S24), (⟨bt182.2.2.2.1, bt182.2.2.2.2⟩ : S24)⟩ : S51)] : List (S51)) : List (S51))).bind fun y187 => ((piecewise_Least.f y174 y187).bind fun bt190 => ((piecewise_Below.f y187 y174 0 20).bind fun bt194 => ((piecewise_Below.f y174 y187 5 20).bind fun bt197 => ((piecewise_At.f k y174 7).bind fun bt200 => ((piecewise_Add.f y174 y187).bind fun bt204 => ((piecewise_Scale.f k y174 1 2).bind fun bt208 => (if bt190.2 = 0 then (if bt194.2.2 = 0 then (if bt197.2.2 = 0 then (if bt200.2.2 = 0 then (if bt204.2 = 0 then (cohousinglaw05_head.j0 k y187 bt190.1 bt194.1 bt194.2.1 bt197.2.1 bt204.1 bt208.1 (bt208.2 == 0) bt200.1 bt200.2.1) else (cohousinglaw05_head.j0 k y187 bt190.1 bt194.1 bt194.2.1 bt197.2.1 bt204.1 bt208.1 false bt200.1 bt200.2.1)) else (cohousinglaw05_head.j0 k y187 bt190.1 bt194.1 bt194.2.1 bt197.2.1 bt204.1 bt208.1 false bt200.1 bt200.2.1)) else (cohousinglaw05_head.j0 k y187 bt190.1 bt194.1 bt194.2.1 bt197.2.1 bt204.1 bt208.1 false bt200.1 bt200.2.1)) else (cohousinglaw05_head.j0 k y187 bt190.1 bt194.1 bt194.2.1 bt197.2.1 bt204.1 bt208.1 false bt200.1 bt200.2.1)) else (cohousinglaw05_head.j0 k y187 bt190.1 bt194.1 bt194.2.1 bt197.2.1 bt204.1 bt208.1 false bt200.1 bt200.2.1))))))))))))) = some true := h
 clear h
 replace H := Option.bind_eq_some_iff.mp H
 obtain ⟨⟨t169, t170, t171, t172, t173⟩, A10, H⟩ := H
 replace H : ((some (([(⟨t169, (⟨t170, t171⟩ : S24), (⟨t172, t173⟩ : S24)⟩ : S51)] : List (S51)) : List (S51))).bind fun y174 => ((cohousinglaw05_piece.f 0 9 0).bind fun bt177 => ((cohousinglaw05_piece.f 10 0 0).bind fun bt182 => ((some (([(⟨bt177.1, (⟨bt177.2.1, bt177.2.2.1⟩ : S24), (⟨bt177.2.2.2.1, bt177.2.2.2.2⟩ : S24)⟩ : S51), (⟨bt182.1, (⟨bt182.2.1, bt182.2.2.1⟩ : S24), (⟨bt182.2.2.2.1, bt182.2.2.2.2⟩ : S24)⟩ : S51)] : List (S51)) : List (S51))).bind fun y187 => ((piecewise_Least.f y174 y187).bind fun bt190 => ((piecewise_Below.f y187 y174 0 20).bind fun bt194 => ((piecewise_Below.f y174 y187 5 20).bind fun bt197 => ((piecewise_At.f k y174 7).bind fun bt200 => ((piecewise_Add.f y174 y187).bind fun bt204 => ((piecewise_Scale.f k y174 1 2).bind fun bt208 => (if bt190.2 = 0 then (if bt194.2.2 = 0 then (if bt197.2.2 = 0 then (if bt200.2.2 = 0 then (if bt204.2 = 0 then (cohousinglaw05_head.j0 k y187 bt190.1 bt194.1 bt194.2.1 bt197.2.1 bt204.1 bt208.1 (bt208.2 == 0) bt200.1 bt200.2.1) else (cohousinglaw05_head.j0 k y187 bt190.1 bt194.1 bt194.2.1 bt197.2.1 bt204.1 bt208.1 false bt200.1 bt200.2.1)) else (cohousinglaw05_head.j0 k y187 bt190.1 bt194.1 bt194.2.1 bt197.2.1 bt204.1 bt208.1 false bt200.1 bt200.2.1)) else (cohousinglaw05_head.j0 k y187 bt190.1 bt194.1 bt194.2.1 bt197.2.1 bt204.1 bt208.1 false bt200.1 bt200.2.1)) else (cohousinglaw05_head.j0 k y187 bt190.1 bt194.1 bt194.2.1 bt197.2.1 bt204.1 bt208.1 false bt200.1 bt200.2.1)) else (cohousinglaw05_head.j0 k y187 bt190.1 bt194.1 bt194.2.1 bt197.2.1 bt204.1 bt208.1 false bt200.1 bt200.2.1)))))))))))) = some true := H
 have A1 := mk_ A10
 clear A10
 obtain ⟨y174, hy174⟩ : ∃ y_ : List (S51), y_ = (([(⟨t169, (⟨t170, t171⟩ : S24), (⟨t172, t173⟩ : S24)⟩ : S51)] : List (S51))) := ⟨_, rfl⟩
 replace H : ((cohousinglaw05_piece.f 0 9 0).bind fun bt177 => ((cohousinglaw05_piece.f 10 0 0).bind fun bt182 => ((some (([(⟨bt177.1, (⟨bt177.2.1, bt177.2.2.1⟩ : S24), (⟨bt177.2.2.2.1, bt177.2.2.2.2⟩ : S24)⟩ : S51), (⟨bt182.1, (⟨bt182.2.1, bt182.2.2.1⟩ : S24), (⟨bt182.2.2.2.1, bt182.2.2.2.2⟩ : S24)⟩ : S51)] : List (S51)) : List (S51))).bind fun y187 => ((piecewise_Least.f y174 y187).bind fun bt190 => ((piecewise_Below.f y187 y174 0 20).bind fun bt194 => ((piecewise_Below.f y174 y187 5 20).bind fun bt197 => ((piecewise_At.f k y174 7).bind fun bt200 => ((piecewise_Add.f y174 y187).bind fun bt204 => ((piecewise_Scale.f k y174 1 2).bind fun bt208 => (if bt190.2 = 0 then (if bt194.2.2 = 0 then (if bt197.2.2 = 0 then (if bt200.2.2 = 0 then (if bt204.2 = 0 then (cohousinglaw05_head.j0 k y187 bt190.1 bt194.1 bt194.2.1 bt197.2.1 bt204.1 bt208.1 (bt208.2 == 0) bt200.1 bt200.2.1) else (cohousinglaw05_head.j0 k y187 bt190.1 bt194.1 bt194.2.1 bt197.2.1 bt204.1 bt208.1 false bt200.1 bt200.2.1)) else (cohousinglaw05_head.j0 k y187 bt190.1 bt194.1 bt194.2.1 bt197.2.1 bt204.1 bt208.1 false bt200.1 bt200.2.1)) else (cohousinglaw05_head.j0 k y187 bt190.1 bt194.1 bt194.2.1 bt197.2.1 bt204.1 bt208.1 false bt200.1 bt200.2.1)) else (cohousinglaw05_head.j0 k y187 bt190.1 bt194.1 bt194.2.1 bt197.2.1 bt204.1 bt208.1 false bt200.1 bt200.2.1)) else (cohousinglaw05_head.j0 k y187 bt190.1 bt194.1 bt194.2.1 bt197.2.1 bt204.1 bt208.1 false bt200.1 bt200.2.1))))))))))) = some true := by first | (rw [hy174]; with_reducible exact H) | (have H2_ := (Option.bind_some _ _).symm.trans H; rw [hy174]; with_reducible exact H2_) | (have H2_ := (Option.bind_some _ _).symm.trans H; with_reducible exact H2_) | with_reducible exact H | (rw [hy174]; exact H) | exact H
 have Ny174 := mk_ hy174
 clear hy174
 replace H := Option.bind_eq_some_iff.mp H
 obtain ⟨⟨t177, t178, t179, t180, t181⟩, A20, H⟩ := H
 replace H : ((cohousinglaw05_piece.f 10 0 0).bind fun bt182 => ((some (([(⟨t177, (⟨t178, t179⟩ : S24), (⟨t180, t181⟩ : S24)⟩ : S51), (⟨bt182.1, (⟨bt182.2.1, bt182.2.2.1⟩ : S24), (⟨bt182.2.2.2.1, bt182.2.2.2.2⟩ : S24)⟩ : S51)] : List (S51)) : List (S51))).bind fun y187 => ((piecewise_Least.f y174 y187).bind fun bt190 => ((piecewise_Below.f y187 y174 0 20).bind fun bt194 => ((piecewise_Below.f y174 y187 5 20).bind fun bt197 => ((piecewise_At.f k y174 7).bind fun bt200 => ((piecewise_Add.f y174 y187).bind fun bt204 => ((piecewise_Scale.f k y174 1 2).bind fun bt208 => (if bt190.2 = 0 then (if bt194.2.2 = 0 then (if bt197.2.2 = 0 then (if bt200.2.2 = 0 then (if bt204.2 = 0 then (cohousinglaw05_head.j0 k y187 bt190.1 bt194.1 bt194.2.1 bt197.2.1 bt204.1 bt208.1 (bt208.2 == 0) bt200.1 bt200.2.1) else (cohousinglaw05_head.j0 k y187 bt190.1 bt194.1 bt194.2.1 bt197.2.1 bt204.1 bt208.1 false bt200.1 bt200.2.1)) else (cohousinglaw05_head.j0 k y187 bt190.1 bt194.1 bt194.2.1 bt197.2.1 bt204.1 bt208.1 false bt200.1 bt200.2.1)) else (cohousinglaw05_head.j0 k y187 bt190.1 bt194.1 bt194.2.1 bt197.2.1 bt204.1 bt208.1 false bt200.1 bt200.2.1)) else (cohousinglaw05_head.j0 k y187 bt190.1 bt194.1 bt194.2.1 bt197.2.1 bt204.1 bt208.1 false bt200.1 bt200.2.1)) else (cohousinglaw05_head.j0 k y187 bt190.1 bt194.1 bt194.2.1 bt197.2.1 bt204.1 bt208.1 false bt200.1 bt200.2.1)))))))))) = some true := H
 have A2 := mk_ A20
 clear A20
 replace H := Option.bind_eq_some_iff.mp H
 obtain ⟨⟨t182, t183, t184, t185, t186⟩, A30, H⟩ := H
 replace H : ((some (([(⟨t177, (⟨t178, t179⟩ : S24), (⟨t180, t181⟩ : S24)⟩ : S51), (⟨t182, (⟨t183, t184⟩ : S24), (⟨t185, t186⟩ : S24)⟩ : S51)] : List (S51)) : List (S51))).bind fun y187 => ((piecewise_Least.f y174 y187).bind fun bt190 => ((piecewise_Below.f y187 y174 0 20).bind fun bt194 => ((piecewise_Below.f y174 y187 5 20).bind fun bt197 => ((piecewise_At.f k y174 7).bind fun bt200 => ((piecewise_Add.f y174 y187).bind fun bt204 => ((piecewise_Scale.f k y174 1 2).bind fun bt208 => (if bt190.2 = 0 then (if bt194.2.2 = 0 then (if bt197.2.2 = 0 then (if bt200.2.2 = 0 then (if bt204.2 = 0 then (cohousinglaw05_head.j0 k y187 bt190.1 bt194.1 bt194.2.1 bt197.2.1 bt204.1 bt208.1 (bt208.2 == 0) bt200.1 bt200.2.1) else (cohousinglaw05_head.j0 k y187 bt190.1 bt194.1 bt194.2.1 bt197.2.1 bt204.1 bt208.1 false bt200.1 bt200.2.1)) else (cohousinglaw05_head.j0 k y187 bt190.1 bt194.1 bt194.2.1 bt197.2.1 bt204.1 bt208.1 false bt200.1 bt200.2.1)) else (cohousinglaw05_head.j0 k y187 bt190.1 bt194.1 bt194.2.1 bt197.2.1 bt204.1 bt208.1 false bt200.1 bt200.2.1)) else (cohousinglaw05_head.j0 k y187 bt190.1 bt194.1 bt194.2.1 bt197.2.1 bt204.1 bt208.1 false bt200.1 bt200.2.1)) else (cohousinglaw05_head.j0 k y187 bt190.1 bt194.1 bt194.2.1 bt197.2.1 bt204.1 bt208.1 false bt200.1 bt200.2.1))))))))) = some true := H
 have A3 := mk_ A30
 clear A30
 obtain ⟨y187, hy187⟩ : ∃ y_ : List (S51), y_ = (([(⟨t177, (⟨t178, t179⟩ : S24), (⟨t180, t181⟩ : S24)⟩ : S51), (⟨t182, (⟨t183, t184⟩ : S24), (⟨t185, t186⟩ : S24)⟩ : S51)] : List (S51))) := ⟨_, rfl⟩
 replace H : ((piecewise_Least.f y174 y187).bind fun bt190 => ((piecewise_Below.f y187 y174 0 20).bind fun bt194 => ((piecewise_Below.f y174 y187 5 20).bind fun bt197 => ((piecewise_At.f k y174 7).bind fun bt200 => ((piecewise_Add.f y174 y187).bind fun bt204 => ((piecewise_Scale.f k y174 1 2).bind fun bt208 => (if bt190.2 = 0 then (if bt194.2.2 = 0 then (if bt197.2.2 = 0 then (if bt200.2.2 = 0 then (if bt204.2 = 0 then (cohousinglaw05_head.j0 k y187 bt190.1 bt194.1 bt194.2.1 bt197.2.1 bt204.1 bt208.1 (bt208.2 == 0) bt200.1 bt200.2.1) else (cohousinglaw05_head.j0 k y187 bt190.1 bt194.1 bt194.2.1 bt197.2.1 bt204.1 bt208.1 false bt200.1 bt200.2.1)) else (cohousinglaw05_head.j0 k y187 bt190.1 bt194.1 bt194.2.1 bt197.2.1 bt204.1 bt208.1 false bt200.1 bt200.2.1)) else (cohousinglaw05_head.j0 k y187 bt190.1 bt194.1 bt194.2.1 bt197.2.1 bt204.1 bt208.1 false bt200.1 bt200.2.1)) else (cohousinglaw05_head.j0 k y187 bt190.1 bt194.1 bt194.2.1 bt197.2.1 bt204.1 bt208.1 false bt200.1 bt200.2.1)) else (cohousinglaw05_head.j0 k y187 bt190.1 bt194.1 bt194.2.1 bt197.2.1 bt204.1 bt208.1 false bt200.1 bt200.2.1)))))))) = some true := by first | (rw [hy187]; with_reducible exact H) | (have H2_ := (Option.bind_some _ _).symm.trans H; rw [hy187]; with_reducible exact H2_) | (have H2_ := (Option.bind_some _ _).symm.trans H; with_reducible exact H2_) | with_reducible exact H | (rw [hy187]; exact H) | exact H
 have Ny187 := mk_ hy187
 clear hy187
 replace H := Option.bind_eq_some_iff.mp H
 obtain ⟨⟨t190, t191⟩, A40, H⟩ := H
 replace H : ((piecewise_Below.f y187 y174 0 20).bind fun bt194 => ((piecewise_Below.f y174 y187 5 20).bind fun bt197 => ((piecewise_At.f k y174 7).bind fun bt200 => ((piecewise_Add.f y174 y187).bind fun bt204 => ((piecewise_Scale.f k y174 1 2).bind fun bt208 => (if t191 = 0 then (if bt194.2.2 = 0 then (if bt197.2.2 = 0 then (if bt200.2.2 = 0 then (if bt204.2 = 0 then (cohousinglaw05_head.j0 k y187 t190 bt194.1 bt194.2.1 bt197.2.1 bt204.1 bt208.1 (bt208.2 == 0) bt200.1 bt200.2.1) else (cohousinglaw05_head.j0 k y187 t190 bt194.1 bt194.2.1 bt197.2.1 bt204.1 bt208.1 false bt200.1 bt200.2.1)) else (cohousinglaw05_head.j0 k y187 t190 bt194.1 bt194.2.1 bt197.2.1 bt204.1 bt208.1 false bt200.1 bt200.2.1)) else (cohousinglaw05_head.j0 k y187 t190 bt194.1 bt194.2.1 bt197.2.1 bt204.1 bt208.1 false bt200.1 bt200.2.1)) else (cohousinglaw05_head.j0 k y187 t190 bt194.1 bt194.2.1 bt197.2.1 bt204.1 bt208.1 false bt200.1 bt200.2.1)) else (cohousinglaw05_head.j0 k y187 t190 bt194.1 bt194.2.1 bt197.2.1 bt204.1 bt208.1 false bt200.1 bt200.2.1))))))) = some true := H
 have A4 := mk_ A40
 clear A40
 replace H := Option.bind_eq_some_iff.mp H
 obtain ⟨⟨t194, t195, t196⟩, A50, H⟩ := H
 replace H : ((piecewise_Below.f y174 y187 5 20).bind fun bt197 => ((piecewise_At.f k y174 7).bind fun bt200 => ((piecewise_Add.f y174 y187).bind fun bt204 => ((piecewise_Scale.f k y174 1 2).bind fun bt208 => (if t191 = 0 then (if t196 = 0 then (if bt197.2.2 = 0 then (if bt200.2.2 = 0 then (if bt204.2 = 0 then (cohousinglaw05_head.j0 k y187 t190 t194 t195 bt197.2.1 bt204.1 bt208.1 (bt208.2 == 0) bt200.1 bt200.2.1) else (cohousinglaw05_head.j0 k y187 t190 t194 t195 bt197.2.1 bt204.1 bt208.1 false bt200.1 bt200.2.1)) else (cohousinglaw05_head.j0 k y187 t190 t194 t195 bt197.2.1 bt204.1 bt208.1 false bt200.1 bt200.2.1)) else (cohousinglaw05_head.j0 k y187 t190 t194 t195 bt197.2.1 bt204.1 bt208.1 false bt200.1 bt200.2.1)) else (cohousinglaw05_head.j0 k y187 t190 t194 t195 bt197.2.1 bt204.1 bt208.1 false bt200.1 bt200.2.1)) else (cohousinglaw05_head.j0 k y187 t190 t194 t195 bt197.2.1 bt204.1 bt208.1 false bt200.1 bt200.2.1)))))) = some true := H
 have A5 := mk_ A50
 clear A50
 replace H := Option.bind_eq_some_iff.mp H
 obtain ⟨⟨t197, t198, t199⟩, A60, H⟩ := H
 replace H : ((piecewise_At.f k y174 7).bind fun bt200 => ((piecewise_Add.f y174 y187).bind fun bt204 => ((piecewise_Scale.f k y174 1 2).bind fun bt208 => (if t191 = 0 then (if t196 = 0 then (if t199 = 0 then (if bt200.2.2 = 0 then (if bt204.2 = 0 then (cohousinglaw05_head.j0 k y187 t190 t194 t195 t198 bt204.1 bt208.1 (bt208.2 == 0) bt200.1 bt200.2.1) else (cohousinglaw05_head.j0 k y187 t190 t194 t195 t198 bt204.1 bt208.1 false bt200.1 bt200.2.1)) else (cohousinglaw05_head.j0 k y187 t190 t194 t195 t198 bt204.1 bt208.1 false bt200.1 bt200.2.1)) else (cohousinglaw05_head.j0 k y187 t190 t194 t195 t198 bt204.1 bt208.1 false bt200.1 bt200.2.1)) else (cohousinglaw05_head.j0 k y187 t190 t194 t195 t198 bt204.1 bt208.1 false bt200.1 bt200.2.1)) else (cohousinglaw05_head.j0 k y187 t190 t194 t195 t198 bt204.1 bt208.1 false bt200.1 bt200.2.1))))) = some true := H
 have A6 := mk_ A60
 clear A60
 replace H := Option.bind_eq_some_iff.mp H
 obtain ⟨⟨t200, t201, t202⟩, A70, H⟩ := H
 replace H : ((piecewise_Add.f y174 y187).bind fun bt204 => ((piecewise_Scale.f k y174 1 2).bind fun bt208 => (if t191 = 0 then (if t196 = 0 then (if t199 = 0 then (if t202 = 0 then (if bt204.2 = 0 then (cohousinglaw05_head.j0 k y187 t190 t194 t195 t198 bt204.1 bt208.1 (bt208.2 == 0) t200 t201) else (cohousinglaw05_head.j0 k y187 t190 t194 t195 t198 bt204.1 bt208.1 false t200 t201)) else (cohousinglaw05_head.j0 k y187 t190 t194 t195 t198 bt204.1 bt208.1 false t200 t201)) else (cohousinglaw05_head.j0 k y187 t190 t194 t195 t198 bt204.1 bt208.1 false t200 t201)) else (cohousinglaw05_head.j0 k y187 t190 t194 t195 t198 bt204.1 bt208.1 false t200 t201)) else (cohousinglaw05_head.j0 k y187 t190 t194 t195 t198 bt204.1 bt208.1 false t200 t201)))) = some true := H
 have A7 := mk_ A70
 clear A70
 replace H := Option.bind_eq_some_iff.mp H
 obtain ⟨⟨t204, t205⟩, A80, H⟩ := H
 replace H : ((piecewise_Scale.f k y174 1 2).bind fun bt208 => (if t191 = 0 then (if t196 = 0 then (if t199 = 0 then (if t202 = 0 then (if t205 = 0 then (cohousinglaw05_head.j0 k y187 t190 t194 t195 t198 t204 bt208.1 (bt208.2 == 0) t200 t201) else (cohousinglaw05_head.j0 k y187 t190 t194 t195 t198 t204 bt208.1 false t200 t201)) else (cohousinglaw05_head.j0 k y187 t190 t194 t195 t198 t204 bt208.1 false t200 t201)) else (cohousinglaw05_head.j0 k y187 t190 t194 t195 t198 t204 bt208.1 false t200 t201)) else (cohousinglaw05_head.j0 k y187 t190 t194 t195 t198 t204 bt208.1 false t200 t201)) else (cohousinglaw05_head.j0 k y187 t190 t194 t195 t198 t204 bt208.1 false t200 t201))) = some true := H
 have A8 := mk_ A80
 clear A80
 replace H := Option.bind_eq_some_iff.mp H
 obtain ⟨⟨t208, t211⟩, A90, H⟩ := H
 replace H : (if t191 = 0 then (if t196 = 0 then (if t199 = 0 then (if t202 = 0 then (if t205 = 0 then (cohousinglaw05_head.j0 k y187 t190 t194 t195 t198 t204 t208 (t211 == 0) t200 t201) else (cohousinglaw05_head.j0 k y187 t190 t194 t195 t198 t204 t208 false t200 t201)) else (cohousinglaw05_head.j0 k y187 t190 t194 t195 t198 t204 t208 false t200 t201)) else (cohousinglaw05_head.j0 k y187 t190 t194 t195 t198 t204 t208 false t200 t201)) else (cohousinglaw05_head.j0 k y187 t190 t194 t195 t198 t204 t208 false t200 t201)) else (cohousinglaw05_head.j0 k y187 t190 t194 t195 t198 t204 t208 false t200 t201)) = some true := H
 have A9 := mk_ A90
 clear A90
 have HC10 := mk_ H
 clear H
 go_enter Try.func10, Try.ntmps10
 go_upto_region 9 with (first | ((with_reducible refine gate_callee (f := 33) rfl ?_); refine gl_ (some 18) Try.func33 #[.int .i64 0, .int .i64 0, .int .i64 2] ?_; (with_reducible refine (cohousinglaw05_piece.calls 0 0 2 t169 t170 t171 t172 t173 _ A1.out).mono ?_); rintro e w11 ⟨rfl, hb⟩; refine ⟨_, rfl, ?_⟩; replace HB := mk_ (below_step (bb_ HB) hb); (try clear hb)) | ((with_reducible refine gate_dst (N := 19) rfl ?_); (try (refine gate_guard (by rfl) ?_; dsimp only)); refine Kd.R_lit k51 _ 51 ?hg (N := 19) ?hd (xs := ([(⟨t169, (⟨t170, t171⟩ : S24), (⟨t172, t173⟩ : S24)⟩ : S51)] : List (S51))) (inner := [.int .i64 t169, .int .i64 t170, .int .i64 t171, .int .i64 t172, .int .i64 t173]) (ok := fun _ => True) (okp := fun _ => True) ?hr ?hp (fun _ hk => hk) trivial (Below.refl _ _) (Nat.le_refl _) (by simp) ?_; (case hd => rfl); (case hg => rfl); (case hr => first | (go_simp; done) | (go_simp; rfl)); (case hp => exact (Reps.c5 (show Kd.M k51 _ _ _ (⟨t169, (⟨t170, t171⟩ : S24), (⟨t172, t173⟩ : S24)⟩ : S51) [.int .i64 t169, .int .i64 t170, .int .i64 t171, .int .i64 t172, .int .i64 t173] from (k51_mkM _ _ _ (⟨t169, (⟨t170, t171⟩ : S24), (⟨t172, t173⟩ : S24)⟩ : S51) )) (Reps.none _ _))); intro v175 w12 ho13 hb hg_ hnew_; clear hg_ hnew_; (first | rw [← Ny174.out] at ho13 | (simp only [Int.reduceToNat] at ho13; rw [← Ny174.out] at ho13)); have HO176 := mk_ (Kd.R_lower ho13 (below_size (bb_ HB))); replace HB := mk_ (below_step (bb_ HB) hb); clear hb ho13) | ((with_reducible refine gate_callee (f := 33) rfl ?_); refine gl_ (some 20) Try.func33 #[.int .i64 0, .int .i64 9, .int .i64 0] ?_; (with_reducible refine (cohousinglaw05_piece.calls 0 9 0 t177 t178 t179 t180 t181 _ A2.out).mono ?_); rintro e w14 ⟨rfl, hb⟩; refine ⟨_, rfl, ?_⟩; replace HO176 := mk_ (Kd.R_below (rr_ HO176) hb); replace HB := mk_ (below_step (bb_ HB) hb); (try clear hb)) | ((with_reducible refine gate_callee (f := 33) rfl ?_); refine gl_ (some 21) Try.func33 #[.int .i64 10, .int .i64 0, .int .i64 0] ?_; (with_reducible refine (cohousinglaw05_piece.calls 10 0 0 t182 t183 t184 t185 t186 _ A3.out).mono ?_); rintro e w15 ⟨rfl, hb⟩; refine ⟨_, rfl, ?_⟩; replace HO176 := mk_ (Kd.R_below (rr_ HO176) hb); replace HB := mk_ (below_step (bb_ HB) hb); (try clear hb)) | ((with_reducible refine gate_dst (N := 22) rfl ?_); (try (refine gate_guard (by rfl) ?_; dsimp only)); refine Kd.R_lit k51 _ 51 ?hg (N := 22) ?hd (xs := ([(⟨t177, (⟨t178, t179⟩ : S24), (⟨t180, t181⟩ : S24)⟩ : S51), (⟨t182, (⟨t183, t184⟩ : S24), (⟨t185, t186⟩ : S24)⟩ : S51)] : List (S51))) (inner := [.int .i64 t177, .int .i64 t178, .int .i64 t179, .int .i64 t180, .int .i64 t181, .int .i64 t182, .int .i64 t183, .int .i64 t184, .int .i64 t185, .int .i64 t186]) (ok := fun _ => True) (okp := fun _ => True) ?hr ?hp (fun _ hk => hk) trivial (Below.refl _ _) (Nat.le_refl _) (by simp) ?_; (case hd => rfl); (case hg => rfl); (case hr => first | (go_simp; done) | (go_simp; rfl)); (case hp => exact (Reps.c5 (show Kd.M k51 _ _ _ (⟨t177, (⟨t178, t179⟩ : S24), (⟨t180, t181⟩ : S24)⟩ : S51) [.int .i64 t177, .int .i64 t178, .int .i64 t179, .int .i64 t180, .int .i64 t181] from (k51_mkM _ _ _ (⟨t177, (⟨t178, t179⟩ : S24), (⟨t180, t181⟩ : S24)⟩ : S51) )) (Reps.c5 (show Kd.M k51 _ _ _ (⟨t182, (⟨t183, t184⟩ : S24), (⟨t185, t186⟩ : S24)⟩ : S51) [.int .i64 t182, .int .i64 t183, .int .i64 t184, .int .i64 t185, .int .i64 t186] from (k51_mkM _ _ _ (⟨t182, (⟨t183, t184⟩ : S24), (⟨t185, t186⟩ : S24)⟩ : S51) )) (Reps.none _ _)))); intro v188 w16 ho17 hb hg_ hnew_; clear hg_ hnew_; (first | rw [← Ny187.out] at ho17 | (simp only [Int.reduceToNat] at ho17; rw [← Ny187.out] at ho17)); have HO189 := mk_ (Kd.R_lower (Kd.R_new' ho17 (Kd.R_lt (rr_ HO176))) (below_size (bb_ HB))); replace HO176 := mk_ (Kd.R_elder' (rr_ HO176) (Kd.R_base ho17) hb); replace HB := mk_ (below_step (bb_ HB) hb); clear hb ho17; obtain ⟨Ao18, co18, eo18⟩ := Kd.R_slice HO176.out; subst eo18; obtain ⟨Ao19, co19, eo19⟩ := Kd.R_slice HO189.out; subst eo19) | ((with_reducible refine gate_callee (f := 21) rfl ?_); refine gl_ (some 26) Try.func21 #[.slice Ao18 y174.length co18, .slice Ao19 y187.length co19] ?_; (with_reducible refine (piecewise_Least.calls _ _ y174 _ _ y187 t190 t191 _ ?side1 ?side2 ?side3 ?side4 A4.out).mono ?_); (case side1 => exact cc_ ((Kd.R_reads' HO176.out).2.2)); (case side2 => exact (Kd.R_reads' HO176.out).2.1); (case side3 => exact cc_ ((Kd.R_reads' HO189.out).2.2)); (case side4 => exact (Kd.R_reads' HO189.out).2.1); rintro e w20 ⟨v192, rfl, ho0, hb⟩; refine ⟨_, rfl, ?_⟩; have HO193 := mk_ (Kd.R_lower (Kd.R_new' (Kd.R_new' ho0 (Kd.R_lt (rr_ HO176))) (Kd.R_lt (rr_ HO189))) (below_size (bb_ HB))); replace HO176 := mk_ (Kd.R_elder' (rr_ HO176) (Kd.R_base ho0) hb); replace HO189 := mk_ (Kd.R_elder' (rr_ HO189) (Kd.R_base ho0) hb); replace HB := mk_ (below_step (bb_ HB) hb); (try clear hb); (try clear ho0)) | ((with_reducible refine gate_callee (f := 23) rfl ?_); refine gl_ (some 33) Try.func23 #[.slice Ao19 y187.length co19, .slice Ao18 y174.length co18, .agg #[.int .i64 0, .int .i64 20]] ?_; (with_reducible refine (piecewise_Below.calls _ _ y187 _ _ y174 0 20 t194 t195 t196 _ ?side1 ?side2 ?side3 ?side4 A5.out).mono ?_); (case side1 => exact cc_ ((Kd.R_reads' HO189.out).2.2)); (case side2 => exact (Kd.R_reads' HO189.out).2.1); (case side3 => exact cc_ ((Kd.R_reads' HO176.out).2.2)); (case side4 => exact (Kd.R_reads' HO176.out).2.1); rintro e w21 ⟨rfl, hb⟩; refine ⟨_, rfl, ?_⟩; replace HO176 := mk_ (Kd.R_below (rr_ HO176) hb); replace HO189 := mk_ (Kd.R_below (rr_ HO189) hb); replace HO193 := mk_ (Kd.R_below (rr_ HO193) hb); replace HB := mk_ (below_step (bb_ HB) hb); (try clear hb)) | ((with_reducible refine gate_callee (f := 23) rfl ?_); refine gl_ (some 41) Try.func23 #[.slice Ao18 y174.length co18, .slice Ao19 y187.length co19, .agg #[.int .i64 5, .int .i64 20]] ?_; (with_reducible refine (piecewise_Below.calls _ _ y174 _ _ y187 5 20 t197 t198 t199 _ ?side1 ?side2 ?side3 ?side4 A6.out).mono ?_); (case side1 => exact cc_ ((Kd.R_reads' HO176.out).2.2)); (case side2 => exact (Kd.R_reads' HO176.out).2.1); (case side3 => exact cc_ ((Kd.R_reads' HO189.out).2.2)); (case side4 => exact (Kd.R_reads' HO189.out).2.1); rintro e w22 ⟨rfl, hb⟩; refine ⟨_, rfl, ?_⟩; replace HO176 := mk_ (Kd.R_below (rr_ HO176) hb); replace HO189 := mk_ (Kd.R_below (rr_ HO189) hb); replace HO193 := mk_ (Kd.R_below (rr_ HO193) hb); replace HB := mk_ (below_step (bb_ HB) hb); (try clear hb)) | ((with_reducible refine gate_callee (f := 12) rfl ?_); refine gl_ (some 47) Try.func12 #[.slice Ao18 y174.length co18, .int .i64 7] ?_; (with_reducible refine (piecewise_At.calls k _ _ y174 7 t200 t201 t202 _ ?side1 ?side2 A7.out).mono ?_); (case side1 => exact cc_ ((Kd.R_reads' HO176.out).2.2)); (case side2 => exact (Kd.R_reads' HO176.out).2.1); rintro e w23 ⟨rfl, hb⟩; refine ⟨_, rfl, ?_⟩; replace HO176 := mk_ (Kd.R_below (rr_ HO176) hb); replace HO189 := mk_ (Kd.R_below (rr_ HO189) hb); replace HO193 := mk_ (Kd.R_below (rr_ HO193) hb); replace HB := mk_ (below_step (bb_ HB) hb); (try clear hb)) | ((with_reducible refine gate_dst (N := 11) rfl ?_); (try (refine gate_guard (by rfl) ?_; dsimp only)); refine box_event ?hg (N := 11) ?hd (cs := #[.int .i64 0, .int .i64 0]) (t := 24) ?hr ?_; (case hd => rfl); (case hg => rfl); (case hr => first | (go_simp; done) | (go_simp; rfl)); intro gb203 hg w24 hbox hb; replace HO176 := mk_ (Kd.R_below (rr_ HO176) hb); replace HO189 := mk_ (Kd.R_below (rr_ HO189) hb); replace HO193 := mk_ (Kd.R_below (rr_ HO193) hb); have BK203 := mk_ (hbox); have GW203 := mk_ (bz_ hg (bb_ HB)); have GE203 := mk_ (bz_ hg (bb_ HB)); replace HB := mk_ (below_step (bb_ HB) hb); clear hb hbox hg; have hcz25_0 := bc0_ BK203.out; have hcz25_1 := bc1_ BK203.out; have hfz25_0 := blk_frozen BK203.out 0; have hfz25_1 := blk_frozen BK203.out 1) | ((with_reducible refine gate_callee (f := 16) rfl ?_); refine gl_ (some 53) Try.func16 #[.slice Ao18 y174.length co18, .slice Ao19 y187.length co19] ?_; (with_reducible refine (piecewise_Add.calls _ _ y174 _ _ y187 t204 t205 _ ?side1 ?side2 ?side3 ?side4 A8.out).mono ?_); (case side1 => refine (Kd.R_reads' (e := 51) (base := w.heap.size) (ok := fun k_ => ((True ∧ some k_ ≠ (.slice Ao19 y187.length co19 : Value).ownBlock) ∧ some k_ ≠ (v192 : Value).ownBlock)) (n := y174.length) (c := co18) ?_).2.2; exact (by (with_reducible repeat (first | apply Kd.R_alloc | apply Kd.R_drewN | apply Kd.R_drew)); exact (Kd.R_mono (Kd.R_far (p := ⟨gb203, 1, none⟩) (Kd.R_far (p := ⟨gb203, 0, none⟩) (Kd.R_types HO176.out BK203.out (by decide)) (fun _ hk => hk.2) (.int .i64 t200)) (fun _ hk => hk.2) (.int .i64 t201)) (fun _ h_ => h_.1)))); (case side2 => exact (Kd.R_reads' HO176.out).2.1); (case side3 => refine (Kd.R_reads' (e := 51) (base := w.heap.size) (ok := fun k_ => ((True ∧ some k_ ≠ (.slice Ao18 y174.length co18 : Value).ownBlock) ∧ some k_ ≠ (v192 : Value).ownBlock)) (n := y187.length) (c := co19) ?_).2.2; exact (by (with_reducible repeat (first | apply Kd.R_alloc | apply Kd.R_drewN | apply Kd.R_drew)); exact (Kd.R_mono (Kd.R_far (p := ⟨gb203, 1, none⟩) (Kd.R_far (p := ⟨gb203, 0, none⟩) (Kd.R_types HO189.out BK203.out (by decide)) (fun _ hk => hk.2) (.int .i64 t200)) (fun _ hk => hk.2) (.int .i64 t201)) (fun _ h_ => h_.1)))); (case side4 => exact (Kd.R_reads' HO189.out).2.1); rintro e w26 ⟨v206, rfl, ho0, hb⟩; refine ⟨_, rfl, ?_⟩; have HO207 := mk_ (Kd.R_lower (Kd.R_new' (Kd.R_new' (Kd.R_new' ho0 (Kd.R_lt (by (with_reducible repeat (first | apply Kd.R_alloc | apply Kd.R_drewN | apply Kd.R_drew)); exact (Kd.R_mono (Kd.R_far (p := ⟨gb203, 1, none⟩) (Kd.R_far (p := ⟨gb203, 0, none⟩) (Kd.R_types HO176.out BK203.out (by decide)) (fun _ hk => hk.2) (.int .i64 t200)) (fun _ hk => hk.2) (.int .i64 t201)) (fun _ h_ => h_.1))))) (Kd.R_lt (by (with_reducible repeat (first | apply Kd.R_alloc | apply Kd.R_drewN | apply Kd.R_drew)); exact (Kd.R_mono (Kd.R_far (p := ⟨gb203, 1, none⟩) (Kd.R_far (p := ⟨gb203, 0, none⟩) (Kd.R_types HO189.out BK203.out (by decide)) (fun _ hk => hk.2) (.int .i64 t200)) (fun _ hk => hk.2) (.int .i64 t201)) (fun _ h_ => h_.1))))) (Kd.R_lt (by (with_reducible repeat (first | apply Kd.R_alloc | apply Kd.R_drewN | apply Kd.R_drew)); exact (Kd.R_mono (Kd.R_far (p := ⟨gb203, 1, none⟩) (Kd.R_far (p := ⟨gb203, 0, none⟩) (Kd.R_types HO193.out BK203.out (by decide)) (fun _ hk => hk.2) (.int .i64 t200)) (fun _ hk => hk.2) (.int .i64 t201)) (fun _ h_ => h_.1))))) (below_size (bs_ HB GE203.out))); replace HO176 := mk_ (Kd.R_elder' (by (with_reducible repeat (first | apply Kd.R_alloc | apply Kd.R_drewN | apply Kd.R_drew)); exact (Kd.R_mono (Kd.R_far (p := ⟨gb203, 1, none⟩) (Kd.R_far (p := ⟨gb203, 0, none⟩) (Kd.R_types HO176.out BK203.out (by decide)) (fun _ hk => hk.2) (.int .i64 t200)) (fun _ hk => hk.2) (.int .i64 t201)) (fun _ h_ => h_.1))) (Kd.R_base ho0) hb); replace HO189 := mk_ (Kd.R_elder' (by (with_reducible repeat (first | apply Kd.R_alloc | apply Kd.R_drewN | apply Kd.R_drew)); exact (Kd.R_mono (Kd.R_far (p := ⟨gb203, 1, none⟩) (Kd.R_far (p := ⟨gb203, 0, none⟩) (Kd.R_types HO189.out BK203.out (by decide)) (fun _ hk => hk.2) (.int .i64 t200)) (fun _ hk => hk.2) (.int .i64 t201)) (fun _ h_ => h_.1))) (Kd.R_base ho0) hb); replace HO193 := mk_ (Kd.R_elder' (by (with_reducible repeat (first | apply Kd.R_alloc | apply Kd.R_drewN | apply Kd.R_drew)); exact (Kd.R_mono (Kd.R_far (p := ⟨gb203, 1, none⟩) (Kd.R_far (p := ⟨gb203, 0, none⟩) (Kd.R_types HO193.out BK203.out (by decide)) (fun _ hk => hk.2) (.int .i64 t200)) (fun _ hk => hk.2) (.int .i64 t201)) (fun _ h_ => h_.1))) (Kd.R_base ho0) hb); replace BK203 := mk_ (blk_below (g := gb203) (o := .cells #[.int .i64 t200, .int .i64 t201] 24 (0, 0)) (by (with_reducible repeat (first | refine blk_drewN ?_ _ | refine blk_drew ?_ | refine blk_alloc ?_ _)); refine blk_put (cs := #[.int .i64 t200, .int .i64 0]) ?_ 1 _ rfl; (with_reducible repeat (first | refine blk_drewN ?_ _ | refine blk_drew ?_ | refine blk_alloc ?_ _)); refine blk_put (cs := #[.int .i64 0, .int .i64 0]) ?_ 0 _ rfl; (with_reducible repeat (first | refine blk_drewN ?_ _ | refine blk_drew ?_ | refine blk_alloc ?_ _)); exact BK203.out) hb); replace HB := mk_ (below_step (bs_ HB GE203.out) hb); (try clear hb); (try clear ho0)) | ((with_reducible refine gate_callee (f := 19) rfl ?_); refine gl_ (some 59) Try.func19 #[.slice Ao18 y174.length co18, .agg #[.int .i64 1, .int .i64 2]] ?_; (with_reducible refine (piecewise_Scale.calls k _ _ y174 1 2 t208 t211 _ ?side1 ?side2 A9.out).mono ?_); (case side1 => exact cc_ ((Kd.R_reads' HO176.out).2.2)); (case side2 => exact (Kd.R_reads' HO176.out).2.1); rintro e w27 ⟨v209, rfl, ho0, hb⟩; refine ⟨_, rfl, ?_⟩; have HO210 := mk_ (Kd.R_lower (Kd.R_new' (Kd.R_new' (Kd.R_new' (Kd.R_new' ho0 (Kd.R_lt (rr_ HO176))) (Kd.R_lt (rr_ HO189))) (Kd.R_lt (rr_ HO193))) (Kd.R_lt (rr_ HO207))) (below_size (bs_ HB GE203.out))); replace HO176 := mk_ (Kd.R_elder' (rr_ HO176) (Kd.R_base ho0) hb); replace HO189 := mk_ (Kd.R_elder' (rr_ HO189) (Kd.R_base ho0) hb); replace HO193 := mk_ (Kd.R_elder' (rr_ HO193) (Kd.R_base ho0) hb); replace HO207 := mk_ (Kd.R_elder' (rr_ HO207) (Kd.R_base ho0) hb); replace BK203 := mk_ (blk_below (kk_ BK203) hb); replace HB := mk_ (below_step (bs_ HB GE203.out) hb); (try clear hb); (try clear ho0)))
 (try simp only [Act.put, sI_, s0_, sS_])
 go_cut [17] (fun v17 wc => ∃ (kq : Nat) (x17_9 : Bool), v17 = .bool x17_9 ∧ Aside0 (cohousinglaw05_head.j0 kq y187 t190 t194 t195 t198 t204 t208 x17_9 t200 t201 = some true) ∧ Aside0 (kq ≤ k) ∧ Aside0 (Kd.R k51 51 wc w.heap.size (fun k_ => some k_ ≠ (v192 : Value).ownBlock ∧ some k_ ≠ (v206 : Value).ownBlock ∧ some k_ ≠ (v209 : Value).ownBlock) (.slice Ao19 y187.length co19) y187) ∧ Aside0 (Kd.R k51 51 wc w.heap.size (fun k_ => some k_ ≠ ((.slice Ao19 y187.length co19) : Value).ownBlock ∧ some k_ ≠ (v206 : Value).ownBlock ∧ some k_ ≠ (v209 : Value).ownBlock) v192 t190) ∧ Aside0 (Kd.R k51 51 wc w.heap.size (fun k_ => some k_ ≠ ((.slice Ao19 y187.length co19) : Value).ownBlock ∧ some k_ ≠ (v192 : Value).ownBlock ∧ some k_ ≠ (v209 : Value).ownBlock) v206 t204) ∧ Aside0 (Kd.R k51 51 wc w.heap.size (fun k_ => some k_ ≠ ((.slice Ao19 y187.length co19) : Value).ownBlock ∧ some k_ ≠ (v192 : Value).ownBlock ∧ some k_ ≠ (v206 : Value).ownBlock) v209 t208) ∧ Aside0 (wc.heap[gb203]? = some (.cells #[.int .i64 t200, .int .i64 t201] 24 (0, 0))) ∧ Aside0 (Below w.heap.size w wc))
 case first =>
  have H := HC10.out
  clear HC10
  by_cases c28 : t191 = 0
  rotate_left
  ·rw [if_neg c28] at H
   have c28b0 : (t191 == 0) = false := beq_eq_false_iff_ne.mpr c28
   have c28b1 : (t191 != 0) = true := bne_iff_ne.mpr c28
   (first | rw [c28b0] | (simp only [i64_w, i32_w]; rw [c28b0]) | skip)
   exact (cohousinglaw05_head.no0 _ _ _ _ _ _ _ _ _ _ H).elim
  rw [if_pos c28] at H
  have c28b0 : (t191 == 0) = true := beq_iff_eq.mpr c28
  have c28b1 : (t191 != 0) = false := bne_eq_false_iff_eq.mpr c28
  clear c28
  (first | rw [c28b0] | (simp only [i64_w, i32_w]; rw [c28b0]) | skip)
  by_cases c29 : t196 = 0
  rotate_left
  ·rw [if_neg c29] at H
   have c29b0 : (t196 == 0) = false := beq_eq_false_iff_ne.mpr c29
   have c29b1 : (t196 != 0) = true := bne_iff_ne.mpr c29
   exact (cohousinglaw05_head.no0 _ _ _ _ _ _ _ _ _ _ H).elim
  rw [if_pos c29] at H
  have c29b0 : (t196 == 0) = true := beq_iff_eq.mpr c29
  have c29b1 : (t196 != 0) = false := bne_eq_false_iff_eq.mpr c29
  clear c29
  by_cases c30 : t199 = 0
  rotate_left
  ·rw [if_neg c30] at H
   have c30b0 : (t199 == 0) = false := beq_eq_false_iff_ne.mpr c30
   have c30b1 : (t199 != 0) = true := bne_iff_ne.mpr c30
   exact (cohousinglaw05_head.no0 _ _ _ _ _ _ _ _ _ _ H).elim
  rw [if_pos c30] at H
  have c30b0 : (t199 == 0) = true := beq_iff_eq.mpr c30
  have c30b1 : (t199 != 0) = false := bne_eq_false_iff_eq.mpr c30
  clear c30
  by_cases c31 : t202 = 0
  rotate_left
  ·rw [if_neg c31] at H
   have c31b0 : (t202 == 0) = false := beq_eq_false_iff_ne.mpr c31
   have c31b1 : (t202 != 0) = true := bne_iff_ne.mpr c31
   exact (cohousinglaw05_head.no0 _ _ _ _ _ _ _ _ _ _ H).elim
  rw [if_pos c31] at H
  have c31b0 : (t202 == 0) = true := beq_iff_eq.mpr c31
  have c31b1 : (t202 != 0) = false := bne_eq_false_iff_eq.mpr c31
  clear c31
  by_cases c32 : t205 = 0
  rotate_left
  ·rw [if_neg c32] at H
   have c32b0 : (t205 == 0) = false := beq_eq_false_iff_ne.mpr c32
   have c32b1 : (t205 != 0) = true := bne_iff_ne.mpr c32
   exact (cohousinglaw05_head.no0 _ _ _ _ _ _ _ _ _ _ H).elim
  rw [if_pos c32] at H
  have c32b0 : (t205 == 0) = true := beq_iff_eq.mpr c32
  have c32b1 : (t205 != 0) = false := bne_eq_false_iff_eq.mpr c32
  clear c32
  have H' := mk_ H
  clear H
  go_wp2
  go_meet
  case rel => exact ⟨_, ((t211 == 0)), sd_, H', ⟨by first | omega | exact Nat.le_refl _⟩, ⟨by (with_reducible repeat (first | apply Kd.R_alloc | apply Kd.R_drewN | apply Kd.R_drew)); exact Kd.R_mono HO189.out wm_⟩, ⟨by (with_reducible repeat (first | apply Kd.R_alloc | apply Kd.R_drewN | apply Kd.R_drew)); exact Kd.R_mono HO193.out wm_⟩, ⟨by (with_reducible repeat (first | apply Kd.R_alloc | apply Kd.R_drewN | apply Kd.R_drew)); exact Kd.R_mono HO207.out wm_⟩, ⟨by (with_reducible repeat (first | apply Kd.R_alloc | apply Kd.R_drewN | apply Kd.R_drew)); exact Kd.R_mono HO210.out wm_⟩, ⟨kk_ BK203⟩, ⟨bs1_ HB GE203⟩⟩
 case rest =>
  clear HC10
  obtain ⟨kq, x17_9, rfl, HA, HJ9, HO_2, HO_3, HO_13, HO_15, BK203, HB⟩ := hcut
  cases kq with
  | zero => exact absurd HA.out (by simp [cohousinglaw05_head.j0])
  | succ kj9 =>
   have H := HA.out
   clear HA
   simp only [cohousinglaw05_head.j0] at H
   have HC33 := mk_ H
   clear H
   go_upto_region 10 with (fail)
   go_cut [17] (fun v17 wc => ∃ (kq : Nat) (x17_32 : Bool), v17 = .bool x17_32 ∧ Aside0 (cohousinglaw05_head.j1 kq y187 t204 t208 x17_32 = some true) ∧ Aside0 (kq ≤ kj9) ∧ Aside0 (Kd.R k51 51 wc w.heap.size (fun k_ => some k_ ≠ (v206 : Value).ownBlock ∧ some k_ ≠ (v209 : Value).ownBlock) (.slice Ao19 y187.length co19) y187) ∧ Aside0 (Kd.R k51 51 wc w.heap.size (fun k_ => some k_ ≠ ((.slice Ao19 y187.length co19) : Value).ownBlock ∧ some k_ ≠ (v209 : Value).ownBlock) v206 t204) ∧ Aside0 (Kd.R k51 51 wc w.heap.size (fun k_ => some k_ ≠ ((.slice Ao19 y187.length co19) : Value).ownBlock ∧ some k_ ≠ (v206 : Value).ownBlock) v209 t208) ∧ Aside0 (wc.heap[gb203]? = some (.cells #[.int .i64 t200, .int .i64 t201] 24 (0, 0))) ∧ Aside0 (Below w.heap.size w wc))
   case first =>
    have H := HC33.out
    clear HC33
    by_cases c34 : x17_9 = true
    rotate_left
    ·replace c34 := Bool.eq_false_iff.mpr c34
     subst c34
     have H1 : (cohousinglaw05_head.j1 kj9 y187 t204 t208 false) = some true := by rw [if_neg (show ¬ (false = true) by decide)] at H; exact H
     clear H
     have H := H1
     clear H1
     exact (cohousinglaw05_head.no1 _ _ _ _ H).elim
    subst c34
    have H1 : ((cohousinglaw05_piece.f 0 0 2).bind fun bt212 => ((cohousinglaw05_piece.f 5 9 0).bind fun bt217 => ((cohousinglaw05_piece.f 10 0 0).bind fun bt222 => ((cohousingref05_Same.f kj9 t190 (([(⟨bt212.1, (⟨bt212.2.1, bt212.2.2.1⟩ : S24), (⟨bt212.2.2.2.1, bt212.2.2.2.2⟩ : S24)⟩ : S51), (⟨bt217.1, (⟨bt217.2.1, bt217.2.2.1⟩ : S24), (⟨bt217.2.2.2.1, bt217.2.2.2.2⟩ : S24)⟩ : S51), (⟨bt222.1, (⟨bt222.2.1, bt222.2.2.1⟩ : S24), (⟨bt222.2.2.2.1, bt222.2.2.2.2⟩ : S24)⟩ : S51)] : List (S51)))).bind fun t230 => (if t230 = true then (if t195 = true then (if t194 = 5 then (if t198 = true then (cohousinglaw05_head.j1 kj9 y187 t204 t208 false) else (cohousinglaw05_head.j1 kj9 y187 t204 t208 (t200 == 14 && (t201 == 1)))) else (cohousinglaw05_head.j1 kj9 y187 t204 t208 false)) else (cohousinglaw05_head.j1 kj9 y187 t204 t208 false)) else (cohousinglaw05_head.j1 kj9 y187 t204 t208 false)))))) = some true := by rw [if_pos rfl] at H; exact H
    clear H
    have H := H1
    clear H1
    replace H := Option.bind_eq_some_iff.mp H
    obtain ⟨⟨t212, t213, t214, t215, t216⟩, A350, H⟩ := H
    replace H : ((cohousinglaw05_piece.f 5 9 0).bind fun bt217 => ((cohousinglaw05_piece.f 10 0 0).bind fun bt222 => ((cohousingref05_Same.f kj9 t190 (([(⟨t212, (⟨t213, t214⟩ : S24), (⟨t215, t216⟩ : S24)⟩ : S51), (⟨bt217.1, (⟨bt217.2.1, bt217.2.2.1⟩ : S24), (⟨bt217.2.2.2.1, bt217.2.2.2.2⟩ : S24)⟩ : S51), (⟨bt222.1, (⟨bt222.2.1, bt222.2.2.1⟩ : S24), (⟨bt222.2.2.2.1, bt222.2.2.2.2⟩ : S24)⟩ : S51)] : List (S51)))).bind fun t230 => (if t230 = true then (if t195 = true then (if t194 = 5 then (if t198 = true then (cohousinglaw05_head.j1 kj9 y187 t204 t208 false) else (cohousinglaw05_head.j1 kj9 y187 t204 t208 (t200 == 14 && (t201 == 1)))) else (cohousinglaw05_head.j1 kj9 y187 t204 t208 false)) else (cohousinglaw05_head.j1 kj9 y187 t204 t208 false)) else (cohousinglaw05_head.j1 kj9 y187 t204 t208 false))))) = some true := H
    have A35 := mk_ A350
    clear A350
    replace H := Option.bind_eq_some_iff.mp H
    obtain ⟨⟨t217, t218, t219, t220, t221⟩, A360, H⟩ := H
    replace H : ((cohousinglaw05_piece.f 10 0 0).bind fun bt222 => ((cohousingref05_Same.f kj9 t190 (([(⟨t212, (⟨t213, t214⟩ : S24), (⟨t215, t216⟩ : S24)⟩ : S51), (⟨t217, (⟨t218, t219⟩ : S24), (⟨t220, t221⟩ : S24)⟩ : S51), (⟨bt222.1, (⟨bt222.2.1, bt222.2.2.1⟩ : S24), (⟨bt222.2.2.2.1, bt222.2.2.2.2⟩ : S24)⟩ : S51)] : List (S51)))).bind fun t230 => (if t230 = true then (if t195 = true then (if t194 = 5 then (if t198 = true then (cohousinglaw05_head.j1 kj9 y187 t204 t208 false) else (cohousinglaw05_head.j1 kj9 y187 t204 t208 (t200 == 14 && (t201 == 1)))) else (cohousinglaw05_head.j1 kj9 y187 t204 t208 false)) else (cohousinglaw05_head.j1 kj9 y187 t204 t208 false)) else (cohousinglaw05_head.j1 kj9 y187 t204 t208 false)))) = some true := H
    have A36 := mk_ A360
    clear A360
    replace H := Option.bind_eq_some_iff.mp H
    obtain ⟨⟨t222, t223, t224, t225, t226⟩, A370, H⟩ := H
    replace H : ((cohousingref05_Same.f kj9 t190 (([(⟨t212, (⟨t213, t214⟩ : S24), (⟨t215, t216⟩ : S24)⟩ : S51), (⟨t217, (⟨t218, t219⟩ : S24), (⟨t220, t221⟩ : S24)⟩ : S51), (⟨t222, (⟨t223, t224⟩ : S24), (⟨t225, t226⟩ : S24)⟩ : S51)] : List (S51)))).bind fun t230 => (if t230 = true then (if t195 = true then (if t194 = 5 then (if t198 = true then (cohousinglaw05_head.j1 kj9 y187 t204 t208 false) else (cohousinglaw05_head.j1 kj9 y187 t204 t208 (t200 == 14 && (t201 == 1)))) else (cohousinglaw05_head.j1 kj9 y187 t204 t208 false)) else (cohousinglaw05_head.j1 kj9 y187 t204 t208 false)) else (cohousinglaw05_head.j1 kj9 y187 t204 t208 false))) = some true := H
    have A37 := mk_ A370
    clear A370
    obtain ⟨y227, hy227⟩ : ∃ y_ : List (S51), y_ = (([(⟨t212, (⟨t213, t214⟩ : S24), (⟨t215, t216⟩ : S24)⟩ : S51), (⟨t217, (⟨t218, t219⟩ : S24), (⟨t220, t221⟩ : S24)⟩ : S51), (⟨t222, (⟨t223, t224⟩ : S24), (⟨t225, t226⟩ : S24)⟩ : S51)] : List (S51))) := ⟨_, rfl⟩
    replace H : ((cohousingref05_Same.f kj9 t190 y227).bind fun t230 => (if t230 = true then (if t195 = true then (if t194 = 5 then (if t198 = true then (cohousinglaw05_head.j1 kj9 y187 t204 t208 false) else (cohousinglaw05_head.j1 kj9 y187 t204 t208 (t200 == 14 && (t201 == 1)))) else (cohousinglaw05_head.j1 kj9 y187 t204 t208 false)) else (cohousinglaw05_head.j1 kj9 y187 t204 t208 false)) else (cohousinglaw05_head.j1 kj9 y187 t204 t208 false))) = some true := by first | (rw [hy227]; with_reducible exact H) | (have H2_ := (Option.bind_some _ _).symm.trans H; rw [hy227]; with_reducible exact H2_) | (have H2_ := (Option.bind_some _ _).symm.trans H; with_reducible exact H2_) | with_reducible exact H | (rw [hy227]; exact H) | exact H
    have Ny227 := mk_ hy227
    clear hy227
    replace H := Option.bind_eq_some_iff.mp H
    obtain ⟨t230, A380, H⟩ := H
    replace H : (if t230 = true then (if t195 = true then (if t194 = 5 then (if t198 = true then (cohousinglaw05_head.j1 kj9 y187 t204 t208 false) else (cohousinglaw05_head.j1 kj9 y187 t204 t208 (t200 == 14 && (t201 == 1)))) else (cohousinglaw05_head.j1 kj9 y187 t204 t208 false)) else (cohousinglaw05_head.j1 kj9 y187 t204 t208 false)) else (cohousinglaw05_head.j1 kj9 y187 t204 t208 false)) = some true := H
    have A38 := mk_ A380
    clear A380
    by_cases c39 : t230 = true
    rotate_left
    ·replace c39 := Bool.eq_false_iff.mpr c39
     subst c39
     have H1 : (cohousinglaw05_head.j1 kj9 y187 t204 t208 false) = some true := by rw [if_neg (show ¬ (false = true) by decide)] at H; exact H
     clear H
     have H := H1
     clear H1
     exact (cohousinglaw05_head.no1 _ _ _ _ H).elim
    subst c39
    have H1 : (if t195 = true then (if t194 = 5 then (if t198 = true then (cohousinglaw05_head.j1 kj9 y187 t204 t208 false) else (cohousinglaw05_head.j1 kj9 y187 t204 t208 (t200 == 14 && (t201 == 1)))) else (cohousinglaw05_head.j1 kj9 y187 t204 t208 false)) else (cohousinglaw05_head.j1 kj9 y187 t204 t208 false)) = some true := by rw [if_pos rfl] at H; exact H
    clear H
    have H := H1
    clear H1
    by_cases c40 : t195 = true
    rotate_left
    ·replace c40 := Bool.eq_false_iff.mpr c40
     subst c40
     have H1 : (cohousinglaw05_head.j1 kj9 y187 t204 t208 false) = some true := by rw [if_neg (show ¬ (false = true) by decide)] at H; exact H
     clear H
     have H := H1
     clear H1
     exact (cohousinglaw05_head.no1 _ _ _ _ H).elim
    subst c40
    have H1 : (if t194 = 5 then (if t198 = true then (cohousinglaw05_head.j1 kj9 y187 t204 t208 false) else (cohousinglaw05_head.j1 kj9 y187 t204 t208 (t200 == 14 && (t201 == 1)))) else (cohousinglaw05_head.j1 kj9 y187 t204 t208 false)) = some true := by rw [if_pos rfl] at H; exact H
    clear H
    have H := H1
    clear H1
    by_cases c41 : t194 = 5
    rotate_left
    ·rw [if_neg c41] at H
     have c41b0 : (t194 == 5) = false := beq_eq_false_iff_ne.mpr c41
     have c41b1 : (t194 != 5) = true := bne_iff_ne.mpr c41
     (first | rw [c41b0] | (simp only [i64_w, i32_w]; rw [c41b0]) | skip)
     exact (cohousinglaw05_head.no1 _ _ _ _ H).elim
    rw [if_pos c41] at H
    have c41b0 : (t194 == 5) = true := beq_iff_eq.mpr c41
    have c41b1 : (t194 != 5) = false := bne_eq_false_iff_eq.mpr c41
    clear c41
    (first | rw [c41b0] | (simp only [i64_w, i32_w]; rw [c41b0]) | skip)
    by_cases c42 : t198 = true
    ·subst c42
     have H1 : (cohousinglaw05_head.j1 kj9 y187 t204 t208 false) = some true := by rw [if_pos rfl] at H; exact H
     clear H
     have H := H1
     clear H1
     exact (cohousinglaw05_head.no1 _ _ _ _ H).elim
    replace c42 := Bool.eq_false_iff.mpr c42
    subst c42
    have H1 : (cohousinglaw05_head.j1 kj9 y187 t204 t208 (t200 == 14 && (t201 == 1))) = some true := by rw [if_neg (show ¬ (false = true) by decide)] at H; exact H
    clear H
    have H := H1
    clear H1
    have H' := mk_ H
    clear H
    go_wp2_with (first | (go_at_call 33; (with_reducible refine (cohousinglaw05_piece.calls 0 0 2 t212 t213 t214 t215 t216 _ A35.out).mono ?_); rintro e w50 ⟨rfl, hb⟩; replace HO_2 := mk_ (Kd.R_below (rr_ HO_2) hb); replace HO_3 := mk_ (Kd.R_below (rr_ HO_3) hb); replace HO_13 := mk_ (Kd.R_below (rr_ HO_13) hb); replace HO_15 := mk_ (Kd.R_below (rr_ HO_15) hb); replace BK203 := mk_ (blk_below (kk_ BK203) hb); replace HB := mk_ (below_step (bs_ HB GE203.out) hb); (try clear hb)) | (go_at_call 33; (with_reducible refine (cohousinglaw05_piece.calls 5 9 0 t217 t218 t219 t220 t221 _ A36.out).mono ?_); rintro e w51 ⟨rfl, hb⟩; replace HO_2 := mk_ (Kd.R_below (rr_ HO_2) hb); replace HO_3 := mk_ (Kd.R_below (rr_ HO_3) hb); replace HO_13 := mk_ (Kd.R_below (rr_ HO_13) hb); replace HO_15 := mk_ (Kd.R_below (rr_ HO_15) hb); replace BK203 := mk_ (blk_below (kk_ BK203) hb); replace HB := mk_ (below_step (bs_ HB GE203.out) hb); (try clear hb)) | (go_at_call 33; (with_reducible refine (cohousinglaw05_piece.calls 10 0 0 t222 t223 t224 t225 t226 _ A37.out).mono ?_); rintro e w52 ⟨rfl, hb⟩; replace HO_2 := mk_ (Kd.R_below (rr_ HO_2) hb); replace HO_3 := mk_ (Kd.R_below (rr_ HO_3) hb); replace HO_13 := mk_ (Kd.R_below (rr_ HO_13) hb); replace HO_15 := mk_ (Kd.R_below (rr_ HO_15) hb); replace BK203 := mk_ (blk_below (kk_ BK203) hb); replace HB := mk_ (below_step (bs_ HB GE203.out) hb); (try clear hb)) | ((with_reducible refine gate_dst (N := 90) rfl ?_); (try (refine gate_guard (by rfl) ?_; dsimp only)); refine Kd.R_lit k51 _ 51 ?hg (N := 90) ?hd (xs := ([(⟨t212, (⟨t213, t214⟩ : S24), (⟨t215, t216⟩ : S24)⟩ : S51), (⟨t217, (⟨t218, t219⟩ : S24), (⟨t220, t221⟩ : S24)⟩ : S51), (⟨t222, (⟨t223, t224⟩ : S24), (⟨t225, t226⟩ : S24)⟩ : S51)] : List (S51))) (inner := [.int .i64 t212, .int .i64 t213, .int .i64 t214, .int .i64 t215, .int .i64 t216, .int .i64 t217, .int .i64 t218, .int .i64 t219, .int .i64 t220, .int .i64 t221, .int .i64 t222, .int .i64 t223, .int .i64 t224, .int .i64 t225, .int .i64 t226]) (ok := fun _ => True) (okp := fun _ => True) ?hr ?hp (fun _ hk => hk) trivial (Below.refl _ _) (Nat.le_refl _) (by simp) ?_; (case hd => rfl); (case hg => rfl); (case hr => first | (go_simp; done) | (go_simp; rfl)); (case hp => exact (Reps.c5 (show Kd.M k51 _ _ _ (⟨t212, (⟨t213, t214⟩ : S24), (⟨t215, t216⟩ : S24)⟩ : S51) [.int .i64 t212, .int .i64 t213, .int .i64 t214, .int .i64 t215, .int .i64 t216] from (k51_mkM _ _ _ (⟨t212, (⟨t213, t214⟩ : S24), (⟨t215, t216⟩ : S24)⟩ : S51) )) (Reps.c5 (show Kd.M k51 _ _ _ (⟨t217, (⟨t218, t219⟩ : S24), (⟨t220, t221⟩ : S24)⟩ : S51) [.int .i64 t217, .int .i64 t218, .int .i64 t219, .int .i64 t220, .int .i64 t221] from (k51_mkM _ _ _ (⟨t217, (⟨t218, t219⟩ : S24), (⟨t220, t221⟩ : S24)⟩ : S51) )) (Reps.c5 (show Kd.M k51 _ _ _ (⟨t222, (⟨t223, t224⟩ : S24), (⟨t225, t226⟩ : S24)⟩ : S51) [.int .i64 t222, .int .i64 t223, .int .i64 t224, .int .i64 t225, .int .i64 t226] from (k51_mkM _ _ _ (⟨t222, (⟨t223, t224⟩ : S24), (⟨t225, t226⟩ : S24)⟩ : S51) )) (Reps.none _ _))))); intro v228 w53 ho54 hb hg_ hnew_; clear hg_ hnew_; (first | rw [← Ny227.out] at ho54 | (simp only [Int.reduceToNat] at ho54; rw [← Ny227.out] at ho54)); have HO229 := mk_ (Kd.R_lower (Kd.R_new' (Kd.R_new' (Kd.R_new' (Kd.R_new' ho54 (Kd.R_lt (rr_ HO_2))) (Kd.R_lt (rr_ HO_3))) (Kd.R_lt (rr_ HO_13))) (Kd.R_lt (rr_ HO_15))) (below_size (bs_ HB GE203.out))); replace HO_2 := mk_ (Kd.R_elder' (rr_ HO_2) (Kd.R_base ho54) hb); replace HO_3 := mk_ (Kd.R_elder' (rr_ HO_3) (Kd.R_base ho54) hb); replace HO_13 := mk_ (Kd.R_elder' (rr_ HO_13) (Kd.R_base ho54) hb); replace HO_15 := mk_ (Kd.R_elder' (rr_ HO_15) (Kd.R_base ho54) hb); replace BK203 := mk_ (blk_below (kk_ BK203) hb); replace HB := mk_ (below_step (bs_ HB GE203.out) hb); clear hb ho54; obtain ⟨Ao55, co55, eo55⟩ := Kd.R_slice HO_3.out; subst eo55; obtain ⟨Ao56, co56, eo56⟩ := Kd.R_slice HO229.out; subst eo56) | (go_at_call 18; (with_reducible refine (cohousingref05_Same.calls kj9 _ _ t190 _ _ y227 true _ ?side1 ?side2 ?side3 ?side4 A38.out).mono ?_); (case side1 => exact cc_ ((Kd.R_reads' HO_3.out).2.2)); (case side2 => exact (Kd.R_reads' HO_3.out).2.1); (case side3 => exact cc_ ((Kd.R_reads' HO229.out).2.2)); (case side4 => exact (Kd.R_reads' HO229.out).2.1); rintro e w' ⟨rfl, ⟨nd, rfl⟩⟩; have hcz57_0 := bc0_ BK203.out; have hcz57_1 := bc1_ BK203.out; have hfz57_0 := blk_frozen BK203.out 0; have hfz57_1 := blk_frozen BK203.out 1))
    go_meet
    case rel => exact ⟨_, ((t200 == 14 && (t201 == 1))), sd_, H', ⟨by have := HJ9.out; first | omega | exact Nat.le_refl _⟩, ⟨by (with_reducible repeat (first | apply Kd.R_alloc | apply Kd.R_drewN | apply Kd.R_drew)); exact Kd.R_mono HO_2.out wm_⟩, ⟨by (with_reducible repeat (first | apply Kd.R_alloc | apply Kd.R_drewN | apply Kd.R_drew)); exact Kd.R_mono HO_13.out wm_⟩, ⟨by (with_reducible repeat (first | apply Kd.R_alloc | apply Kd.R_drewN | apply Kd.R_drew)); exact Kd.R_mono HO_15.out wm_⟩, ⟨kk_ BK203⟩, ⟨bs1_ HB GE203⟩⟩
   case rest =>
    clear HC33
    obtain ⟨kq, x17_32, rfl, HA, HJ32, HO_2, HO_13, HO_15, BK203, HB⟩ := hcut
    cases kq with
    | zero => exact absurd HA.out (by simp [cohousinglaw05_head.j1])
    | succ kj32 =>
     have H := HA.out
     clear HA
     simp only [cohousinglaw05_head.j1] at H
     by_cases c79 : x17_32 = true
     rotate_left
     ·replace c79 := Bool.eq_false_iff.mpr c79
      subst c79
      have H1 : (some false) = some true := by rw [if_neg (show ¬ (false = true) by decide)] at H; exact H
      clear H
      have H := H1
      clear H1
      exact absurd (Option.some.inj H) (by decide)
     subst c79
     have H1 : ((cohousinglaw05_piece.f 0 9 2).bind fun bt231 => ((cohousinglaw05_piece.f 10 20 2).bind fun bt236 => ((cohousingref05_Same.f kj32 t204 (([(⟨bt231.1, (⟨bt231.2.1, bt231.2.2.1⟩ : S24), (⟨bt231.2.2.2.1, bt231.2.2.2.2⟩ : S24)⟩ : S51), (⟨bt236.1, (⟨bt236.2.1, bt236.2.2.1⟩ : S24), (⟨bt236.2.2.2.1, bt236.2.2.2.2⟩ : S24)⟩ : S51)] : List (S51)))).bind fun t244 => (if t244 = true then ((cohousinglaw05_piece.f 0 0 1).bind fun bt245 => ((cohousingref05_Same.f kj32 t208 (([(⟨bt245.1, (⟨bt245.2.1, bt245.2.2.1⟩ : S24), (⟨bt245.2.2.2.1, bt245.2.2.2.2⟩ : S24)⟩ : S51)] : List (S51)))).bind fun t253 => (if t253 = true then ((piecewise_Valid.f kj32 y187).bind fun t254 => (some t254)) else (some false)))) else (some false))))) = some true := by rw [if_pos rfl] at H; exact H
     clear H
     have H := H1
     clear H1
     replace H := Option.bind_eq_some_iff.mp H
     obtain ⟨⟨t231, t232, t233, t234, t235⟩, A800, H⟩ := H
     replace H : ((cohousinglaw05_piece.f 10 20 2).bind fun bt236 => ((cohousingref05_Same.f kj32 t204 (([(⟨t231, (⟨t232, t233⟩ : S24), (⟨t234, t235⟩ : S24)⟩ : S51), (⟨bt236.1, (⟨bt236.2.1, bt236.2.2.1⟩ : S24), (⟨bt236.2.2.2.1, bt236.2.2.2.2⟩ : S24)⟩ : S51)] : List (S51)))).bind fun t244 => (if t244 = true then ((cohousinglaw05_piece.f 0 0 1).bind fun bt245 => ((cohousingref05_Same.f kj32 t208 (([(⟨bt245.1, (⟨bt245.2.1, bt245.2.2.1⟩ : S24), (⟨bt245.2.2.2.1, bt245.2.2.2.2⟩ : S24)⟩ : S51)] : List (S51)))).bind fun t253 => (if t253 = true then ((piecewise_Valid.f kj32 y187).bind fun t254 => (some t254)) else (some false)))) else (some false)))) = some true := H
     have A80 := mk_ A800
     clear A800
     replace H := Option.bind_eq_some_iff.mp H
     obtain ⟨⟨t236, t237, t238, t239, t240⟩, A810, H⟩ := H
     replace H : ((cohousingref05_Same.f kj32 t204 (([(⟨t231, (⟨t232, t233⟩ : S24), (⟨t234, t235⟩ : S24)⟩ : S51), (⟨t236, (⟨t237, t238⟩ : S24), (⟨t239, t240⟩ : S24)⟩ : S51)] : List (S51)))).bind fun t244 => (if t244 = true then ((cohousinglaw05_piece.f 0 0 1).bind fun bt245 => ((cohousingref05_Same.f kj32 t208 (([(⟨bt245.1, (⟨bt245.2.1, bt245.2.2.1⟩ : S24), (⟨bt245.2.2.2.1, bt245.2.2.2.2⟩ : S24)⟩ : S51)] : List (S51)))).bind fun t253 => (if t253 = true then ((piecewise_Valid.f kj32 y187).bind fun t254 => (some t254)) else (some false)))) else (some false))) = some true := H
     have A81 := mk_ A810
     clear A810
     obtain ⟨y241, hy241⟩ : ∃ y_ : List (S51), y_ = (([(⟨t231, (⟨t232, t233⟩ : S24), (⟨t234, t235⟩ : S24)⟩ : S51), (⟨t236, (⟨t237, t238⟩ : S24), (⟨t239, t240⟩ : S24)⟩ : S51)] : List (S51))) := ⟨_, rfl⟩
     replace H : ((cohousingref05_Same.f kj32 t204 y241).bind fun t244 => (if t244 = true then ((cohousinglaw05_piece.f 0 0 1).bind fun bt245 => ((cohousingref05_Same.f kj32 t208 (([(⟨bt245.1, (⟨bt245.2.1, bt245.2.2.1⟩ : S24), (⟨bt245.2.2.2.1, bt245.2.2.2.2⟩ : S24)⟩ : S51)] : List (S51)))).bind fun t253 => (if t253 = true then ((piecewise_Valid.f kj32 y187).bind fun t254 => (some t254)) else (some false)))) else (some false))) = some true := by first | (rw [hy241]; with_reducible exact H) | (have H2_ := (Option.bind_some _ _).symm.trans H; rw [hy241]; with_reducible exact H2_) | (have H2_ := (Option.bind_some _ _).symm.trans H; with_reducible exact H2_) | with_reducible exact H | (rw [hy241]; exact H) | exact H
     have Ny241 := mk_ hy241
     clear hy241
     replace H := Option.bind_eq_some_iff.mp H
     obtain ⟨t244, A820, H⟩ := H
     replace H : (if t244 = true then ((cohousinglaw05_piece.f 0 0 1).bind fun bt245 => ((cohousingref05_Same.f kj32 t208 (([(⟨bt245.1, (⟨bt245.2.1, bt245.2.2.1⟩ : S24), (⟨bt245.2.2.2.1, bt245.2.2.2.2⟩ : S24)⟩ : S51)] : List (S51)))).bind fun t253 => (if t253 = true then ((piecewise_Valid.f kj32 y187).bind fun t254 => (some t254)) else (some false)))) else (some false)) = some true := H
     have A82 := mk_ A820
     clear A820
     by_cases c83 : t244 = true
     rotate_left
     ·replace c83 := Bool.eq_false_iff.mpr c83
      subst c83
      have H1 : (some false) = some true := by rw [if_neg (show ¬ (false = true) by decide)] at H; exact H
      clear H
      have H := H1
      clear H1
      exact absurd (Option.some.inj H) (by decide)
     subst c83
     have H1 : ((cohousinglaw05_piece.f 0 0 1).bind fun bt245 => ((cohousingref05_Same.f kj32 t208 (([(⟨bt245.1, (⟨bt245.2.1, bt245.2.2.1⟩ : S24), (⟨bt245.2.2.2.1, bt245.2.2.2.2⟩ : S24)⟩ : S51)] : List (S51)))).bind fun t253 => (if t253 = true then ((piecewise_Valid.f kj32 y187).bind fun t254 => (some t254)) else (some false)))) = some true := by rw [if_pos rfl] at H; exact H
     clear H
     have H := H1
     clear H1
     replace H := Option.bind_eq_some_iff.mp H
     obtain ⟨⟨t245, t246, t247, t248, t249⟩, A840, H⟩ := H
     replace H : ((cohousingref05_Same.f kj32 t208 (([(⟨t245, (⟨t246, t247⟩ : S24), (⟨t248, t249⟩ : S24)⟩ : S51)] : List (S51)))).bind fun t253 => (if t253 = true then ((piecewise_Valid.f kj32 y187).bind fun t254 => (some t254)) else (some false))) = some true := H
     have A84 := mk_ A840
     clear A840
     obtain ⟨y250, hy250⟩ : ∃ y_ : List (S51), y_ = (([(⟨t245, (⟨t246, t247⟩ : S24), (⟨t248, t249⟩ : S24)⟩ : S51)] : List (S51))) := ⟨_, rfl⟩
     replace H : ((cohousingref05_Same.f kj32 t208 y250).bind fun t253 => (if t253 = true then ((piecewise_Valid.f kj32 y187).bind fun t254 => (some t254)) else (some false))) = some true := by first | (rw [hy250]; with_reducible exact H) | (have H2_ := (Option.bind_some _ _).symm.trans H; rw [hy250]; with_reducible exact H2_) | (have H2_ := (Option.bind_some _ _).symm.trans H; with_reducible exact H2_) | with_reducible exact H | (rw [hy250]; exact H) | exact H
     have Ny250 := mk_ hy250
     clear hy250
     replace H := Option.bind_eq_some_iff.mp H
     obtain ⟨t253, A850, H⟩ := H
     replace H : (if t253 = true then ((piecewise_Valid.f kj32 y187).bind fun t254 => (some t254)) else (some false)) = some true := H
     have A85 := mk_ A850
     clear A850
     by_cases c86 : t253 = true
     rotate_left
     ·replace c86 := Bool.eq_false_iff.mpr c86
      subst c86
      have H1 : (some false) = some true := by rw [if_neg (show ¬ (false = true) by decide)] at H; exact H
      clear H
      have H := H1
      clear H1
      exact absurd (Option.some.inj H) (by decide)
     subst c86
     have H1 : ((piecewise_Valid.f kj32 y187).bind fun t254 => (some t254)) = some true := by rw [if_pos rfl] at H; exact H
     clear H
     have H := H1
     clear H1
     replace H := Option.bind_eq_some_iff.mp H
     obtain ⟨t254, A870, H⟩ := H
     replace H : (some t254) = some true := H
     have A87 := mk_ A870
     clear A870
     have hfin_ := Option.some.inj H
     go_wp2_with (first | (go_at_call 33; (with_reducible refine (cohousinglaw05_piece.calls 0 9 2 t231 t232 t233 t234 t235 _ A80.out).mono ?_); rintro e w88 ⟨rfl, hb⟩; replace HO_2 := mk_ (Kd.R_below (rr_ HO_2) hb); replace HO_13 := mk_ (Kd.R_below (rr_ HO_13) hb); replace HO_15 := mk_ (Kd.R_below (rr_ HO_15) hb); replace BK203 := mk_ (blk_below (kk_ BK203) hb); replace HB := mk_ (below_step (bs_ HB GE203.out) hb); (try clear hb)) | (go_at_call 33; (with_reducible refine (cohousinglaw05_piece.calls 10 20 2 t236 t237 t238 t239 t240 _ A81.out).mono ?_); rintro e w89 ⟨rfl, hb⟩; replace HO_2 := mk_ (Kd.R_below (rr_ HO_2) hb); replace HO_13 := mk_ (Kd.R_below (rr_ HO_13) hb); replace HO_15 := mk_ (Kd.R_below (rr_ HO_15) hb); replace BK203 := mk_ (blk_below (kk_ BK203) hb); replace HB := mk_ (below_step (bs_ HB GE203.out) hb); (try clear hb)) | ((with_reducible refine gate_dst (N := 114) rfl ?_); (try (refine gate_guard (by rfl) ?_; dsimp only)); refine Kd.R_lit k51 _ 51 ?hg (N := 114) ?hd (xs := ([(⟨t231, (⟨t232, t233⟩ : S24), (⟨t234, t235⟩ : S24)⟩ : S51), (⟨t236, (⟨t237, t238⟩ : S24), (⟨t239, t240⟩ : S24)⟩ : S51)] : List (S51))) (inner := [.int .i64 t231, .int .i64 t232, .int .i64 t233, .int .i64 t234, .int .i64 t235, .int .i64 t236, .int .i64 t237, .int .i64 t238, .int .i64 t239, .int .i64 t240]) (ok := fun _ => True) (okp := fun _ => True) ?hr ?hp (fun _ hk => hk) trivial (Below.refl _ _) (Nat.le_refl _) (by simp) ?_; (case hd => rfl); (case hg => rfl); (case hr => first | (go_simp; done) | (go_simp; rfl)); (case hp => exact (Reps.c5 (show Kd.M k51 _ _ _ (⟨t231, (⟨t232, t233⟩ : S24), (⟨t234, t235⟩ : S24)⟩ : S51) [.int .i64 t231, .int .i64 t232, .int .i64 t233, .int .i64 t234, .int .i64 t235] from (k51_mkM _ _ _ (⟨t231, (⟨t232, t233⟩ : S24), (⟨t234, t235⟩ : S24)⟩ : S51) )) (Reps.c5 (show Kd.M k51 _ _ _ (⟨t236, (⟨t237, t238⟩ : S24), (⟨t239, t240⟩ : S24)⟩ : S51) [.int .i64 t236, .int .i64 t237, .int .i64 t238, .int .i64 t239, .int .i64 t240] from (k51_mkM _ _ _ (⟨t236, (⟨t237, t238⟩ : S24), (⟨t239, t240⟩ : S24)⟩ : S51) )) (Reps.none _ _)))); intro v242 w90 ho91 hb hg_ hnew_; clear hg_ hnew_; (first | rw [← Ny241.out] at ho91 | (simp only [Int.reduceToNat] at ho91; rw [← Ny241.out] at ho91)); have HO243 := mk_ (Kd.R_lower (Kd.R_new' (Kd.R_new' (Kd.R_new' ho91 (Kd.R_lt (rr_ HO_2))) (Kd.R_lt (rr_ HO_13))) (Kd.R_lt (rr_ HO_15))) (below_size (bs_ HB GE203.out))); replace HO_2 := mk_ (Kd.R_elder' (rr_ HO_2) (Kd.R_base ho91) hb); replace HO_13 := mk_ (Kd.R_elder' (rr_ HO_13) (Kd.R_base ho91) hb); replace HO_15 := mk_ (Kd.R_elder' (rr_ HO_15) (Kd.R_base ho91) hb); replace BK203 := mk_ (blk_below (kk_ BK203) hb); replace HB := mk_ (below_step (bs_ HB GE203.out) hb); clear hb ho91; obtain ⟨Ao92, co92, eo92⟩ := Kd.R_slice HO_13.out; subst eo92; obtain ⟨Ao93, co93, eo93⟩ := Kd.R_slice HO243.out; subst eo93) | (go_at_call 18; (with_reducible refine (cohousingref05_Same.calls kj32 _ _ t204 _ _ y241 true _ ?side1 ?side2 ?side3 ?side4 A82.out).mono ?_); (case side1 => exact cc_ ((Kd.R_reads' HO_13.out).2.2)); (case side2 => exact (Kd.R_reads' HO_13.out).2.1); (case side3 => exact cc_ ((Kd.R_reads' HO243.out).2.2)); (case side4 => exact (Kd.R_reads' HO243.out).2.1); rintro e w' ⟨rfl, ⟨nd, rfl⟩⟩) | (go_at_call 33; (with_reducible refine (cohousinglaw05_piece.calls 0 0 1 t245 t246 t247 t248 t249 _ A84.out).mono ?_); rintro e w94 ⟨rfl, hb⟩; replace HO_2 := mk_ (Kd.R_below (rr_ HO_2) hb); replace HO_13 := mk_ (Kd.R_below (rr_ HO_13) hb); replace HO_15 := mk_ (Kd.R_below (rr_ HO_15) hb); replace HO243 := mk_ (Kd.R_below (rr_ HO243) hb); replace BK203 := mk_ (blk_below (kk_ BK203) hb); replace HB := mk_ (below_step (bs_ HB GE203.out) hb); (try clear hb)) | ((with_reducible refine gate_dst (N := 120) rfl ?_); (try (refine gate_guard (by rfl) ?_; dsimp only)); refine Kd.R_lit k51 _ 51 ?hg (N := 120) ?hd (xs := ([(⟨t245, (⟨t246, t247⟩ : S24), (⟨t248, t249⟩ : S24)⟩ : S51)] : List (S51))) (inner := [.int .i64 t245, .int .i64 t246, .int .i64 t247, .int .i64 t248, .int .i64 t249]) (ok := fun _ => True) (okp := fun _ => True) ?hr ?hp (fun _ hk => hk) trivial (Below.refl _ _) (Nat.le_refl _) (by simp) ?_; (case hd => rfl); (case hg => rfl); (case hr => first | (go_simp; done) | (go_simp; rfl)); (case hp => exact (Reps.c5 (show Kd.M k51 _ _ _ (⟨t245, (⟨t246, t247⟩ : S24), (⟨t248, t249⟩ : S24)⟩ : S51) [.int .i64 t245, .int .i64 t246, .int .i64 t247, .int .i64 t248, .int .i64 t249] from (k51_mkM _ _ _ (⟨t245, (⟨t246, t247⟩ : S24), (⟨t248, t249⟩ : S24)⟩ : S51) )) (Reps.none _ _))); intro v251 w95 ho96 hb hg_ hnew_; clear hg_ hnew_; (first | rw [← Ny250.out] at ho96 | (simp only [Int.reduceToNat] at ho96; rw [← Ny250.out] at ho96)); have HO252 := mk_ (Kd.R_lower (Kd.R_new' (Kd.R_new' (Kd.R_new' (Kd.R_new' ho96 (Kd.R_lt (rr_ HO_2))) (Kd.R_lt (rr_ HO_13))) (Kd.R_lt (rr_ HO_15))) (Kd.R_lt (rr_ HO243))) (below_size (bs_ HB GE203.out))); replace HO_2 := mk_ (Kd.R_elder' (rr_ HO_2) (Kd.R_base ho96) hb); replace HO_13 := mk_ (Kd.R_elder' (rr_ HO_13) (Kd.R_base ho96) hb); replace HO_15 := mk_ (Kd.R_elder' (rr_ HO_15) (Kd.R_base ho96) hb); replace HO243 := mk_ (Kd.R_elder' (rr_ HO243) (Kd.R_base ho96) hb); replace BK203 := mk_ (blk_below (kk_ BK203) hb); replace HB := mk_ (below_step (bs_ HB GE203.out) hb); clear hb ho96; obtain ⟨Ao97, co97, eo97⟩ := Kd.R_slice HO_15.out; subst eo97; obtain ⟨Ao98, co98, eo98⟩ := Kd.R_slice HO252.out; subst eo98) | (go_at_call 18; (with_reducible refine (cohousingref05_Same.calls kj32 _ _ t208 _ _ y250 true _ ?side1 ?side2 ?side3 ?side4 A85.out).mono ?_); (case side1 => exact cc_ ((Kd.R_reads' HO_15.out).2.2)); (case side2 => exact (Kd.R_reads' HO_15.out).2.1); (case side3 => exact cc_ ((Kd.R_reads' HO252.out).2.2)); (case side4 => exact (Kd.R_reads' HO252.out).2.1); rintro e w' ⟨rfl, ⟨nd, rfl⟩⟩) | (go_at_call 14; (with_reducible refine (piecewise_Valid.calls kj32 _ _ y187 t254 _ ?side1 ?side2 A87.out).mono ?_); (case side1 => exact cc_ ((Kd.R_reads' HO_2.out).2.2)); (case side2 => exact (Kd.R_reads' HO_2.out).2.1); rintro e w99 ⟨rfl, hb⟩; replace HO_2 := mk_ (Kd.R_below (rr_ HO_2) hb); replace HO_13 := mk_ (Kd.R_below (rr_ HO_13) hb); replace HO_15 := mk_ (Kd.R_below (rr_ HO_15) hb); replace HO243 := mk_ (Kd.R_below (rr_ HO243) hb); replace HO252 := mk_ (Kd.R_below (rr_ HO252) hb); replace BK203 := mk_ (blk_below (kk_ BK203) hb); replace HB := mk_ (below_step (bs_ HB GE203.out) hb); (try clear hb)))
     go_ret
     exact ⟨by first | (rw [hfin_]; done) | rfl | (simp [errW_none, errW_some] <;> rfl) | (simp [*, errW_none, errW_some] <;> rfl), bs1_ HB GE203⟩
end
section
def cohousinglaw05_few.f (l0 : List (S51)) : Option (Bool) := some (decide ((l0.length : Int) ≤ 70))
theorem cohousinglaw05_few.calls (A0 : Option Addr) (c0 : Nat) (l0 : List (S51)) (r : Bool) (w : World) (hr0 : Kd.C k51 w A0 l0.length l0) (hc0 : l0.length ≤ c0) (h : cohousinglaw05_few.f l0 = some r) :
  Calls Try.prog 11 #[.slice A0 l0.length c0] w fun e w' => e = .returned (.bool r) ∧ Drawn0 w w' := by
 have HR0 := mk_ hr0
 have HC0 := mk_ hc0
 clear hr0 hc0
 have H : (some (decide ((l0.length : Int) ≤ 70))) = some r := h
 clear h
 obtain rfl := Option.some.inj H
 go_enter Try.func11, Try.ntmps11
 go_wp2
 go_ret
 exact ⟨by first | rfl | (simp; done) | (simp [*]; done), by repeat (first | exact Drawn0.refl _ | apply Drawn0.step)⟩
end
section
def cohousingref01_common.l0 : Nat → Int → Int → Option (Int)
 | 0, _, _ => none
 | k + 1, x0, x1 => if x1 = 0 then (some x0) else (cohousingref01_common.l0 k x1 (Int.tmod x0 x1))
def cohousingref01_common.f (k : Nat) (a0 : Int) (a1 : Int) : Option (Int) := cohousingref01_common.l0 k a0 a1
theorem cohousingref01_common.calls (k : Nat) (a0 : Int) (a1 : Int) (r : Int) (w : World) (h : cohousingref01_common.f k a0 a1 = some r) :
  Calls Try.prog 60 #[.int .u64 a0, .int .u64 a1] w fun e w' => e = .returned (.int .u64 r) ∧ Drawn0 w w' := by
 have H : (cohousingref01_common.l0 k a0 a1) = some r := h
 clear h
 have H' := mk_ H
 clear H
 go_enter Try.func60, Try.ntmps60
 go_wp2
 go_loopg [0, 1] k (fun kq v0 v1 w' => ∃ (x0_1 : Int) (x1_1 : Int), v0 = .int .u64 x0_1 ∧ v1 = .int .u64 x1_1 ∧ Aside0 (cohousingref01_common.l0 kq x0_1 x1_1 = some r) ∧ Aside0 (kq ≤ k) ∧ Drawn0 w w')
 case atStart => exact ⟨(a0), (a1), sd_, sd_, H', ⟨Nat.le_refl _⟩, by repeat (first | exact Drawn0.refl _ | apply Drawn0.step)⟩
 case round =>
  clear H'
  obtain ⟨x0_1, x1_1, rfl, rfl, HA, HK1, ⟨m1, rfl⟩⟩ := hrel
  cases gk with
  | zero => exact absurd HA.out (by simp [cohousingref01_common.l0])
  | succ k1 =>
   have H := HA.out
   clear HA
   simp only [cohousingref01_common.l0] at H
   by_cases c3 : x1_1 = 0
   ·rw [if_pos c3] at H
    have c3b0 : (x1_1 == 0) = true := beq_iff_eq.mpr c3
    have c3b1 : (x1_1 != 0) = false := bne_eq_false_iff_eq.mpr c3
    clear c3
    obtain rfl := Option.some.inj H
    go_wp2
    go_ret
    exact ⟨by first | rfl | (simp; done) | (simp [*]; done), by repeat (first | exact Drawn0.refl _ | apply Drawn0.step)⟩
   rw [if_neg c3] at H
   have c3b0 : (x1_1 == 0) = false := beq_eq_false_iff_ne.mpr c3
   have c3b1 : (x1_1 != 0) = true := bne_iff_ne.mpr c3
   have H' := mk_ H
   clear H
   go_wp2
   go_roundg k1
   case measure => have := HK1.out; omega
   case rel => exact ⟨(x1_1), (Int.tmod x0_1 x1_1), sd_, sd_, H', ⟨by have := HK1.out; omega⟩, by repeat (first | exact Drawn0.refl _ | apply Drawn0.step)⟩
end
section
def cohousingref01_size.f (a0 : Int) : Option (Int) := if a0 < 0 then (some (IntKind.u64.wrap ((IntKind.u64.wrap (wrap64 (-(wrap64 (a0 + 1))))) + 1))) else (some (IntKind.u64.wrap (a0)))
theorem cohousingref01_size.calls (a0 : Int) (r : Int) (w : World) (h : cohousingref01_size.f a0 = some r) :
  Calls Try.prog 61 #[.int .i64 a0] w fun e w' => e = .returned (.int .u64 r) ∧ Drawn0 w w' := by
 have H : (if a0 < 0 then (some (IntKind.u64.wrap ((IntKind.u64.wrap (wrap64 (-(wrap64 (a0 + 1))))) + 1))) else (some (IntKind.u64.wrap (a0)))) = some r := h
 clear h
 by_cases c2 : a0 < 0
 rotate_left
 ·rw [if_neg c2] at H
  have c2b0 : decide (a0 < 0) = false := decide_eq_false c2
  clear c2
  obtain rfl := Option.some.inj H
  go_enter Try.func61, Try.ntmps61
  go_wp2
  go_ret
  exact ⟨by first | rfl | (simp; done) | (simp [*]; done), by repeat (first | exact Drawn0.refl _ | apply Drawn0.step)⟩
 rw [if_pos c2] at H
 have c2b0 : decide (a0 < 0) = true := decide_eq_true c2
 clear c2
 obtain rfl := Option.some.inj H
 go_enter Try.func61, Try.ntmps61
 go_wp2
 go_ret
 exact ⟨by first | rfl | (simp; done) | (simp [*]; done), by repeat (first | exact Drawn0.refl _ | apply Drawn0.step)⟩
end
section
def cohousingref01_Make.j0 : Nat → Int → Int → Int → Int → Bool → Option (Int × Int × Int)
 | 0, _, _, _, _, _ => none
 | k + 1, x0, x1, x7, x8, x30 => if x30 = true then (some (0, 0, 3)) else (if ((decide (x0 < 0)) != (decide (x1 < 0))) = true then (some (wrap64 (-(wrap64 (x7))), wrap64 (x8), 0)) else (some (wrap64 (x7), wrap64 (x8), 0)))
def cohousingref01_Make.f (k : Nat) (a0 : Int) (a1 : Int) : Option (Int × Int × Int) := if a1 = 0 then (some (0, 0, 7)) else ((cohousingref01_size.f a0).bind fun t256 => ((cohousingref01_size.f a1).bind fun t257 => ((cohousingref01_common.f k t256 t257).bind fun t258 => ((cohousingref01_size.f a0).bind fun t259 => (if t258 = 0 then (none) else ((cohousingref01_size.f a1).bind fun t260 => (if (IntKind.u64.wrap (Int.tdiv t259 t258)) > 1000000000 then (cohousingref01_Make.j0 k a0 a1 (IntKind.u64.wrap (Int.tdiv t259 t258)) (IntKind.u64.wrap (Int.tdiv t260 t258)) true) else (cohousingref01_Make.j0 k a0 a1 (IntKind.u64.wrap (Int.tdiv t259 t258)) (IntKind.u64.wrap (Int.tdiv t260 t258)) (decide ((IntKind.u64.wrap (Int.tdiv t260 t258)) > 1000000000))))))))))
theorem cohousingref01_Make.calls (k : Nat) (a0 : Int) (a1 : Int) (r1 : Int) (r2 : Int) (r3 : Int) (w : World) (h : cohousingref01_Make.f k a0 a1 = some (r1, r2, r3)) :
  Calls Try.prog 54 #[.int .i64 a0, .int .i64 a1] w fun e w' => e = .returned (.tuple #[.agg #[.int .i64 r1, .int .i64 r2], .int .i64 r3]) ∧ Below w.heap.size w w' := by
 have hu24 := Try.underlying24
 have HB := mk_ (Below.refl w.heap.size w)
 have H : (if a1 = 0 then (some (0, 0, 7)) else ((cohousingref01_size.f a0).bind fun t256 => ((cohousingref01_size.f a1).bind fun t257 => ((cohousingref01_common.f k t256 t257).bind fun t258 => ((cohousingref01_size.f a0).bind fun t259 => (if t258 = 0 then (none) else ((cohousingref01_size.f a1).bind fun t260 => (if (IntKind.u64.wrap (Int.tdiv t259 t258)) > 1000000000 then (cohousingref01_Make.j0 k a0 a1 (IntKind.u64.wrap (Int.tdiv t259 t258)) (IntKind.u64.wrap (Int.tdiv t260 t258)) true) else (cohousingref01_Make.j0 k a0 a1 (IntKind.u64.wrap (Int.tdiv t259 t258)) (IntKind.u64.wrap (Int.tdiv t260 t258)) (decide ((IntKind.u64.wrap (Int.tdiv t260 t258)) > 1000000000))))))))))) = some (r1, r2, r3) := h
 clear h
 by_cases c3 : a1 = 0
 ·rw [if_pos c3] at H
  have c3b0 : (a1 == 0) = true := beq_iff_eq.mpr c3
  have c3b1 : (a1 != 0) = false := bne_eq_false_iff_eq.mpr c3
  clear c3
  simp only [Option.some.injEq, Prod.mk.injEq] at H
  obtain ⟨rfl, rfl, rfl⟩ := H
  go_enter Try.func54, Try.ntmps54
  go_wp2_with (first | ((with_reducible refine gate_dst (N := 4) rfl ?_); refine box_event ?hg (N := 4) ?hd (cs := #[.int .i64 0, .int .i64 0]) (t := 24) ?hr ?_; (case hd => rfl); (case hg => rfl); (case hr => first | (go_simp; done) | (go_simp; rfl)); intro gb255 hg w4 hbox hb; have BK255 := mk_ (hbox); have GW255 := mk_ (bz_ hg (bb_ HB)); have GE255 := mk_ (bz_ hg (bb_ HB)); replace HB := mk_ (below_step (bb_ HB) hb); clear hb hbox hg; have hcz5_0 := bc0_ BK255.out; have hcz5_1 := bc1_ BK255.out; have hfz5_0 := blk_frozen BK255.out 0; have hfz5_1 := blk_frozen BK255.out 1))
  refine bodyPost_ret (results_ct rfl _ _ gb255 24 #[.int .i64 0, .int .i64 0] (0, 0) _ rfl (by (with_reducible repeat (first | refine blk_drewN ?_ _ | refine blk_drew ?_ | refine blk_alloc ?_ _)); refine blk_put (cs := #[.int .i64 0, .int .i64 0]) ?_ 1 _ rfl; (with_reducible repeat (first | refine blk_drewN ?_ _ | refine blk_drew ?_ | refine blk_alloc ?_ _)); refine blk_put (cs := #[.int .i64 0, .int .i64 0]) ?_ 0 _ rfl; (with_reducible repeat (first | refine blk_drewN ?_ _ | refine blk_drew ?_ | refine blk_alloc ?_ _)); exact BK255.out) Try.underlying24 rfl (by kernel_rfl)) rfl ?_
  exact ⟨ew_, bs1_ HB GE255⟩
 rw [if_neg c3] at H
 have c3b0 : (a1 == 0) = false := beq_eq_false_iff_ne.mpr c3
 have c3b1 : (a1 != 0) = true := bne_iff_ne.mpr c3
 replace H := Option.bind_eq_some_iff.mp H
 obtain ⟨t256, A60, H⟩ := H
 replace H : ((cohousingref01_size.f a1).bind fun t257 => ((cohousingref01_common.f k t256 t257).bind fun t258 => ((cohousingref01_size.f a0).bind fun t259 => (if t258 = 0 then (none) else ((cohousingref01_size.f a1).bind fun t260 => (if (IntKind.u64.wrap (Int.tdiv t259 t258)) > 1000000000 then (cohousingref01_Make.j0 k a0 a1 (IntKind.u64.wrap (Int.tdiv t259 t258)) (IntKind.u64.wrap (Int.tdiv t260 t258)) true) else (cohousingref01_Make.j0 k a0 a1 (IntKind.u64.wrap (Int.tdiv t259 t258)) (IntKind.u64.wrap (Int.tdiv t260 t258)) (decide ((IntKind.u64.wrap (Int.tdiv t260 t258)) > 1000000000))))))))) = some (r1, r2, r3) := H
 have A6 := mk_ A60
 clear A60
 replace H := Option.bind_eq_some_iff.mp H
 obtain ⟨t257, A70, H⟩ := H
 replace H : ((cohousingref01_common.f k t256 t257).bind fun t258 => ((cohousingref01_size.f a0).bind fun t259 => (if t258 = 0 then (none) else ((cohousingref01_size.f a1).bind fun t260 => (if (IntKind.u64.wrap (Int.tdiv t259 t258)) > 1000000000 then (cohousingref01_Make.j0 k a0 a1 (IntKind.u64.wrap (Int.tdiv t259 t258)) (IntKind.u64.wrap (Int.tdiv t260 t258)) true) else (cohousingref01_Make.j0 k a0 a1 (IntKind.u64.wrap (Int.tdiv t259 t258)) (IntKind.u64.wrap (Int.tdiv t260 t258)) (decide ((IntKind.u64.wrap (Int.tdiv t260 t258)) > 1000000000)))))))) = some (r1, r2, r3) := H
 have A7 := mk_ A70
 clear A70
 replace H := Option.bind_eq_some_iff.mp H
 obtain ⟨t258, A80, H⟩ := H
 replace H : ((cohousingref01_size.f a0).bind fun t259 => (if t258 = 0 then (none) else ((cohousingref01_size.f a1).bind fun t260 => (if (IntKind.u64.wrap (Int.tdiv t259 t258)) > 1000000000 then (cohousingref01_Make.j0 k a0 a1 (IntKind.u64.wrap (Int.tdiv t259 t258)) (IntKind.u64.wrap (Int.tdiv t260 t258)) true) else (cohousingref01_Make.j0 k a0 a1 (IntKind.u64.wrap (Int.tdiv t259 t258)) (IntKind.u64.wrap (Int.tdiv t260 t258)) (decide ((IntKind.u64.wrap (Int.tdiv t260 t258)) > 1000000000))))))) = some (r1, r2, r3) := H
 have A8 := mk_ A80
 clear A80
 replace H := Option.bind_eq_some_iff.mp H
 obtain ⟨t259, A90, H⟩ := H
 replace H : (if t258 = 0 then (none) else ((cohousingref01_size.f a1).bind fun t260 => (if (IntKind.u64.wrap (Int.tdiv t259 t258)) > 1000000000 then (cohousingref01_Make.j0 k a0 a1 (IntKind.u64.wrap (Int.tdiv t259 t258)) (IntKind.u64.wrap (Int.tdiv t260 t258)) true) else (cohousingref01_Make.j0 k a0 a1 (IntKind.u64.wrap (Int.tdiv t259 t258)) (IntKind.u64.wrap (Int.tdiv t260 t258)) (decide ((IntKind.u64.wrap (Int.tdiv t260 t258)) > 1000000000)))))) = some (r1, r2, r3) := H
 have A9 := mk_ A90
 clear A90
 by_cases c10 : t258 = 0
 ·rw [if_pos c10] at H
  exact absurd H (by simp)
 rw [if_neg c10] at H
 have c10b0 : (t258 == 0) = false := beq_eq_false_iff_ne.mpr c10
 have c10b1 : (t258 != 0) = true := bne_iff_ne.mpr c10
 replace H := Option.bind_eq_some_iff.mp H
 obtain ⟨t260, A110, H⟩ := H
 replace H : (if (IntKind.u64.wrap (Int.tdiv t259 t258)) > 1000000000 then (cohousingref01_Make.j0 k a0 a1 (IntKind.u64.wrap (Int.tdiv t259 t258)) (IntKind.u64.wrap (Int.tdiv t260 t258)) true) else (cohousingref01_Make.j0 k a0 a1 (IntKind.u64.wrap (Int.tdiv t259 t258)) (IntKind.u64.wrap (Int.tdiv t260 t258)) (decide ((IntKind.u64.wrap (Int.tdiv t260 t258)) > 1000000000)))) = some (r1, r2, r3) := H
 have A11 := mk_ A110
 clear A110
 have HC12 := mk_ H
 clear H
 go_enter Try.func54, Try.ntmps54
 go_upto_region 6 with (first | ((with_reducible refine gate_dst (N := 4) rfl ?_); refine box_event ?hg (N := 4) ?hd (cs := #[.int .i64 0, .int .i64 0]) (t := 24) ?hr ?_; (case hd => rfl); (case hg => rfl); (case hr => first | (go_simp; done) | (go_simp; rfl)); intro gb255 hg w13 hbox hb; have BK255 := mk_ (hbox); have GW255 := mk_ (bz_ hg (bb_ HB)); have GE255 := mk_ (bz_ hg (bb_ HB)); replace HB := mk_ (below_step (bb_ HB) hb); clear hb hbox hg) | ((with_reducible refine gate_callee (f := 61) rfl ?_); refine gl_ (some 13) Try.func61 #[.int .i64 a0] ?_; (with_reducible refine (cohousingref01_size.calls a0 t256 _ A6.out).mono ?_); rintro e w' ⟨rfl, ⟨nd, rfl⟩⟩; refine ⟨_, rfl, ?_⟩) | ((with_reducible refine gate_callee (f := 61) rfl ?_); refine gl_ (some 15) Try.func61 #[.int .i64 a1] ?_; (with_reducible refine (cohousingref01_size.calls a1 t257 _ A7.out).mono ?_); rintro e w' ⟨rfl, ⟨nd, rfl⟩⟩; refine ⟨_, rfl, ?_⟩) | ((with_reducible refine gate_callee (f := 60) rfl ?_); refine gl_ (some 16) Try.func60 #[.int .u64 t256, .int .u64 t257] ?_; (with_reducible refine (cohousingref01_common.calls k t256 t257 t258 _ A8.out).mono ?_); rintro e w' ⟨rfl, ⟨nd, rfl⟩⟩; refine ⟨_, rfl, ?_⟩) | ((with_reducible refine gate_callee (f := 61) rfl ?_); refine gl_ (some 18) Try.func61 #[.int .i64 a0] ?_; (with_reducible refine (cohousingref01_size.calls a0 t259 _ A9.out).mono ?_); rintro e w' ⟨rfl, ⟨nd, rfl⟩⟩; refine ⟨_, rfl, ?_⟩) | ((with_reducible refine gate_callee (f := 61) rfl ?_); refine gl_ (some 22) Try.func61 #[.int .i64 a1] ?_; (with_reducible refine (cohousingref01_size.calls a1 t260 _ A11.out).mono ?_); rintro e w' ⟨rfl, ⟨nd, rfl⟩⟩; refine ⟨_, rfl, ?_⟩))
 (try simp only [Act.put, sI_, s0_, sS_])
 go_cut [30] (fun v30 wc => ∃ (kq : Nat) (x30_11 : Bool), v30 = .bool x30_11 ∧ Aside0 (cohousingref01_Make.j0 kq a0 a1 (IntKind.u64.wrap (Int.tdiv t259 t258)) (IntKind.u64.wrap (Int.tdiv t260 t258)) x30_11 = some (r1, r2, r3)) ∧ Aside0 (kq ≤ k) ∧ Aside0 (wc.heap[gb255]? = some (.cells #[.int .i64 0, .int .i64 0] 24 (0, 0))) ∧ Aside0 (Below w.heap.size w wc))
 case first =>
  have H := HC12.out
  clear HC12
  by_cases c14 : (IntKind.u64.wrap (Int.tdiv t259 t258)) > 1000000000
  rotate_left
  ·rw [if_neg c14] at H
   have c14b0 : decide (1000000000 < (IntKind.u64.wrap (Int.tdiv t259 t258))) = false := decide_eq_false c14
   clear c14
   (first | rw [c14b0] | (simp only [i64_w, i32_w]; rw [c14b0]) | skip)
   have H' := mk_ H
   clear H
   go_wp2
   go_meet
   case rel => exact ⟨_, (decide ((IntKind.u64.wrap (Int.tdiv t260 t258)) > 1000000000)), sd_, H', ⟨by first | omega | exact Nat.le_refl _⟩, ⟨kk_ BK255⟩, ⟨bs1_ HB GE255⟩⟩
  rw [if_pos c14] at H
  have c14b0 : decide (1000000000 < (IntKind.u64.wrap (Int.tdiv t259 t258))) = true := decide_eq_true c14
  clear c14
  (first | rw [c14b0] | (simp only [i64_w, i32_w]; rw [c14b0]) | skip)
  have H' := mk_ H
  clear H
  go_wp2
  go_meet
  case rel => exact ⟨_, (true), sd_, H', ⟨by first | omega | exact Nat.le_refl _⟩, ⟨kk_ BK255⟩, ⟨bs1_ HB GE255⟩⟩
 case rest =>
  clear HC12
  obtain ⟨kq, x30_11, rfl, HA, HJ11, BK255, HB⟩ := hcut
  cases kq with
  | zero => exact absurd HA.out (by simp [cohousingref01_Make.j0])
  | succ kj11 =>
   have H := HA.out
   clear HA
   simp only [cohousingref01_Make.j0] at H
   by_cases c15 : x30_11 = true
   ·subst c15
    have H1 : (some (0, 0, 3)) = some (r1, r2, r3) := by rw [if_pos rfl] at H; exact H
    clear H
    have H := H1
    clear H1
    simp only [Option.some.injEq, Prod.mk.injEq] at H
    obtain ⟨rfl, rfl, rfl⟩ := H
    have hcz16_0 := bc0_ BK255.out
    have hcz16_1 := bc1_ BK255.out
    have hfz16_0 := blk_frozen BK255.out 0
    have hfz16_1 := blk_frozen BK255.out 1
    go_wp2
    refine bodyPost_ret (results_ct rfl _ _ gb255 24 #[.int .i64 0, .int .i64 0] (0, 0) _ rfl (by (with_reducible repeat (first | refine blk_drewN ?_ _ | refine blk_drew ?_ | refine blk_alloc ?_ _)); refine blk_put (cs := #[.int .i64 0, .int .i64 0]) ?_ 1 _ rfl; (with_reducible repeat (first | refine blk_drewN ?_ _ | refine blk_drew ?_ | refine blk_alloc ?_ _)); refine blk_put (cs := #[.int .i64 0, .int .i64 0]) ?_ 0 _ rfl; (with_reducible repeat (first | refine blk_drewN ?_ _ | refine blk_drew ?_ | refine blk_alloc ?_ _)); exact BK255.out) Try.underlying24 rfl (by kernel_rfl)) rfl ?_
    exact ⟨ew_, bs1_ HB GE255⟩
   replace c15 := Bool.eq_false_iff.mpr c15
   subst c15
   have H1 : (if ((decide (a0 < 0)) != (decide (a1 < 0))) = true then (some (wrap64 (-(wrap64 ((IntKind.u64.wrap (Int.tdiv t259 t258))))), wrap64 ((IntKind.u64.wrap (Int.tdiv t260 t258))), 0)) else (some (wrap64 ((IntKind.u64.wrap (Int.tdiv t259 t258))), wrap64 ((IntKind.u64.wrap (Int.tdiv t260 t258))), 0))) = some (r1, r2, r3) := by rw [if_neg (show ¬ (false = true) by decide)] at H; exact H
   clear H
   have H := H1
   clear H1
   by_cases c17 : ((decide (a0 < 0)) != (decide (a1 < 0))) = true
   rotate_left
   ·rw [if_neg c17] at H
    have c17b0 : ((decide (a0 < 0)) != (decide (a1 < 0))) = false := by simpa using c17
    (try (have c17b1 : decide ((decide (a0 < 0)) = (decide (a1 < 0))) = true := by simpa using c17))
    (try (have c17b2 : ((decide (a0 < 0)) == (decide (a1 < 0))) = true := by simpa using c17))
    clear c17
    simp only [Option.some.injEq, Prod.mk.injEq] at H
    obtain ⟨rfl, rfl, rfl⟩ := H
    have hcz19_0 := bc0_ BK255.out
    have hcz19_1 := bc1_ BK255.out
    have hfz19_0 := blk_frozen BK255.out 0
    have hfz19_1 := blk_frozen BK255.out 1
    go_wp2
    refine bodyPost_ret (results_ct rfl _ _ gb255 24 #[.int .i64 (wrap64 ((IntKind.u64.wrap (Int.tdiv t259 t258)))), .int .i64 (wrap64 ((IntKind.u64.wrap (Int.tdiv t260 t258))))] (0, 0) _ rfl (by (with_reducible repeat (first | refine blk_drewN ?_ _ | refine blk_drew ?_ | refine blk_alloc ?_ _)); refine blk_put (cs := #[.int .i64 (wrap64 ((IntKind.u64.wrap (Int.tdiv t259 t258)))), .int .i64 0]) ?_ 1 _ rfl; (with_reducible repeat (first | refine blk_drewN ?_ _ | refine blk_drew ?_ | refine blk_alloc ?_ _)); refine blk_put (cs := #[.int .i64 0, .int .i64 0]) ?_ 0 _ rfl; (with_reducible repeat (first | refine blk_drewN ?_ _ | refine blk_drew ?_ | refine blk_alloc ?_ _)); exact BK255.out) Try.underlying24 rfl (by kernel_rfl)) rfl ?_
    exact ⟨ew_, bs1_ HB GE255⟩
   rw [if_pos c17] at H
   have c17b0 : ((decide (a0 < 0)) != (decide (a1 < 0))) = true := c17
   (try (have c17b1 : decide ((decide (a0 < 0)) = (decide (a1 < 0))) = false := by simpa using c17))
   (try (have c17b2 : ((decide (a0 < 0)) == (decide (a1 < 0))) = false := by simpa using c17))
   (try (have c17b3 : ¬ ((decide (a0 < 0)) = (decide (a1 < 0))) := by simpa using c17))
   clear c17
   simp only [Option.some.injEq, Prod.mk.injEq] at H
   obtain ⟨rfl, rfl, rfl⟩ := H
   have hcz18_0 := bc0_ BK255.out
   have hcz18_1 := bc1_ BK255.out
   have hfz18_0 := blk_frozen BK255.out 0
   have hfz18_1 := blk_frozen BK255.out 1
   go_wp2
   refine bodyPost_ret (results_ct rfl _ _ gb255 24 #[.int .i64 (wrap64 (-(wrap64 ((IntKind.u64.wrap (Int.tdiv t259 t258)))))), .int .i64 (wrap64 ((IntKind.u64.wrap (Int.tdiv t260 t258))))] (0, 0) _ rfl (by (with_reducible repeat (first | refine blk_drewN ?_ _ | refine blk_drew ?_ | refine blk_alloc ?_ _)); refine blk_put (cs := #[.int .i64 (wrap64 (-(wrap64 ((IntKind.u64.wrap (Int.tdiv t259 t258)))))), .int .i64 0]) ?_ 1 _ rfl; (with_reducible repeat (first | refine blk_drewN ?_ _ | refine blk_drew ?_ | refine blk_alloc ?_ _)); refine blk_put (cs := #[.int .i64 0, .int .i64 0]) ?_ 0 _ rfl; (with_reducible repeat (first | refine blk_drewN ?_ _ | refine blk_drew ?_ | refine blk_alloc ?_ _)); exact BK255.out) Try.underlying24 rfl (by kernel_rfl)) rfl ?_
   exact ⟨ew_, bs1_ HB GE255⟩
end
section
attribute [local go_sem high] eqA24
def cohousingref01_Valid.f (k : Nat) (a0_0 : Int) (a0_1 : Int) : Option (Bool) := if a0_1 < 1 then (some false) else ((cohousingref01_Make.f k a0_0 a0_1).bind fun bt262 => (if bt262.2.2 = 0 then (some (bt262.1 == a0_0 && (bt262.2.1 == a0_1))) else (some false)))
theorem cohousingref01_Valid.calls (k : Nat) (a0_0 : Int) (a0_1 : Int) (r : Bool) (w : World) (h : cohousingref01_Valid.f k a0_0 a0_1 = some r) :
  Calls Try.prog 30 #[.agg #[.int .i64 a0_0, .int .i64 a0_1]] w fun e w' => e = .returned (.bool r) ∧ Below w.heap.size w w' := by
 have hu24 := Try.underlying24
 have HB := mk_ (Below.refl w.heap.size w)
 have H : (if a0_1 < 1 then (some false) else ((cohousingref01_Make.f k a0_0 a0_1).bind fun bt262 => (if bt262.2.2 = 0 then (some (bt262.1 == a0_0 && (bt262.2.1 == a0_1))) else (some false)))) = some r := h
 clear h
 by_cases c2 : a0_1 < 1
 ·rw [if_pos c2] at H
  have c2b0 : decide (a0_1 < 1) = true := decide_eq_true c2
  clear c2
  obtain rfl := Option.some.inj H
  go_enter Try.func30, Try.ntmps30
  go_wp2_with (first | ((with_reducible refine gate_dst (N := 1) rfl ?_); refine box_event ?hg (N := 1) ?hd (cs := #[.int .i64 a0_0, .int .i64 a0_1]) (t := 24) ?hr ?_; (case hd => rfl); (case hg => rfl); (case hr => first | (go_simp; done) | (go_simp; rfl)); intro gb261 hg w3 hbox hb; have BK261 := mk_ (hbox); have GW261 := mk_ (bz_ hg (bb_ HB)); have GE261 := mk_ (bz_ hg (bb_ HB)); replace HB := mk_ (below_step (bb_ HB) hb); clear hb hbox hg; have hcz4_0 := bc0_ BK261.out; have hcz4_1 := bc1_ BK261.out; have hfz4_0 := blk_frozen BK261.out 0; have hfz4_1 := blk_frozen BK261.out 1))
  go_ret
  exact ⟨ew_, bs1_ HB GE261⟩
 rw [if_neg c2] at H
 have c2b0 : decide (a0_1 < 1) = false := decide_eq_false c2
 clear c2
 replace H := Option.bind_eq_some_iff.mp H
 obtain ⟨⟨t262, t263, t264⟩, A50, H⟩ := H
 replace H : (if t264 = 0 then (some (t262 == a0_0 && (t263 == a0_1))) else (some false)) = some r := H
 have A5 := mk_ A50
 clear A50
 by_cases c6 : t264 = 0
 rotate_left
 ·rw [if_neg c6] at H
  have c6b0 : (t264 == 0) = false := beq_eq_false_iff_ne.mpr c6
  have c6b1 : (t264 != 0) = true := bne_iff_ne.mpr c6
  obtain rfl := Option.some.inj H
  go_enter Try.func30, Try.ntmps30
  go_wp2_with (first | ((with_reducible refine gate_dst (N := 1) rfl ?_); refine box_event ?hg (N := 1) ?hd (cs := #[.int .i64 a0_0, .int .i64 a0_1]) (t := 24) ?hr ?_; (case hd => rfl); (case hg => rfl); (case hr => first | (go_simp; done) | (go_simp; rfl)); intro gb261 hg w14 hbox hb; have BK261 := mk_ (hbox); have GW261 := mk_ (bz_ hg (bb_ HB)); have GE261 := mk_ (bz_ hg (bb_ HB)); replace HB := mk_ (below_step (bb_ HB) hb); clear hb hbox hg; have hcz15_0 := bc0_ BK261.out; have hcz15_1 := bc1_ BK261.out; have hfz15_0 := blk_frozen BK261.out 0; have hfz15_1 := blk_frozen BK261.out 1) | ((with_reducible refine gate_callee (f := 54) rfl ?_); refine gl_ (some 13) Try.func54 #[.int .i64 a0_0, .int .i64 a0_1] ?_; (with_reducible refine (cohousingref01_Make.calls k a0_0 a0_1 t262 t263 t264 _ A5.out).mono ?_); rintro e w16 ⟨rfl, hb⟩; refine ⟨_, rfl, ?_⟩; replace BK261 := mk_ (blk_below (kk_ BK261) hb); replace HB := mk_ (below_step (bs_ HB GE261.out) hb); (try clear hb)) | ((with_reducible refine gate_dst (N := 3) rfl ?_); refine box_event ?hg (N := 3) ?hd (cs := #[.int .i64 0, .int .i64 0]) (t := 24) ?hr ?_; (case hd => rfl); (case hg => rfl); (case hr => first | (go_simp; done) | (go_simp; rfl)); intro gb265 hg w17 hbox hb; have BK265 := mk_ (hbox); have GW265 := mk_ (bz_ hg (bs_ HB GE261.out)); have GE265 := mk_ (bz_ hg (bs_ HB GE261.out)); replace HB := mk_ (below_step (bs_ HB GE261.out) hb); have NB261_265 := mk_ (bl_ hg (kk_ BK261)); have NB265_261 := mk_ (bg_ hg (kk_ BK261)); replace BK261 := mk_ (blk_below (kk_ BK261) hb); clear hb hbox hg; have hnb18 := NB265_261.out; have hnc18 := NB261_265.out; have hcz19_0 := bc0_ BK265.out; have hcz19_1 := bc1_ BK265.out; have hfz19_0 := blk_frozen BK265.out 0; have hfz19_1 := blk_frozen BK265.out 1))
  go_ret
  exact ⟨ew_, bs2_ HB GE261 GE265⟩
 rw [if_pos c6] at H
 have c6b0 : (t264 == 0) = true := beq_iff_eq.mpr c6
 have c6b1 : (t264 != 0) = false := bne_eq_false_iff_eq.mpr c6
 clear c6
 obtain rfl := Option.some.inj H
 go_enter Try.func30, Try.ntmps30
 go_wp2_with (first | ((with_reducible refine gate_dst (N := 1) rfl ?_); refine box_event ?hg (N := 1) ?hd (cs := #[.int .i64 a0_0, .int .i64 a0_1]) (t := 24) ?hr ?_; (case hd => rfl); (case hg => rfl); (case hr => first | (go_simp; done) | (go_simp; rfl)); intro gb261 hg w7 hbox hb; have BK261 := mk_ (hbox); have GW261 := mk_ (bz_ hg (bb_ HB)); have GE261 := mk_ (bz_ hg (bb_ HB)); replace HB := mk_ (below_step (bb_ HB) hb); clear hb hbox hg; have hcz8_0 := bc0_ BK261.out; have hcz8_1 := bc1_ BK261.out; have hfz8_0 := blk_frozen BK261.out 0; have hfz8_1 := blk_frozen BK261.out 1) | ((with_reducible refine gate_callee (f := 54) rfl ?_); refine gl_ (some 13) Try.func54 #[.int .i64 a0_0, .int .i64 a0_1] ?_; (with_reducible refine (cohousingref01_Make.calls k a0_0 a0_1 t262 t263 t264 _ A5.out).mono ?_); rintro e w9 ⟨rfl, hb⟩; refine ⟨_, rfl, ?_⟩; replace BK261 := mk_ (blk_below (kk_ BK261) hb); replace HB := mk_ (below_step (bs_ HB GE261.out) hb); (try clear hb)) | ((with_reducible refine gate_dst (N := 3) rfl ?_); refine box_event ?hg (N := 3) ?hd (cs := #[.int .i64 0, .int .i64 0]) (t := 24) ?hr ?_; (case hd => rfl); (case hg => rfl); (case hr => first | (go_simp; done) | (go_simp; rfl)); intro gb265 hg w10 hbox hb; have BK265 := mk_ (hbox); have GW265 := mk_ (bz_ hg (bs_ HB GE261.out)); have GE265 := mk_ (bz_ hg (bs_ HB GE261.out)); replace HB := mk_ (below_step (bs_ HB GE261.out) hb); have NB261_265 := mk_ (bl_ hg (kk_ BK261)); have NB265_261 := mk_ (bg_ hg (kk_ BK261)); replace BK261 := mk_ (blk_below (kk_ BK261) hb); clear hb hbox hg; have hnb11 := NB265_261.out; have hnc11 := NB261_265.out; have hcz12_0 := bc0_ BK265.out; have hcz12_1 := bc1_ BK265.out; have hfz12_0 := blk_frozen BK265.out 0; have hfz12_1 := blk_frozen BK265.out 1; have hcz13_0 := bc0_ BK261.out; have hcz13_1 := bc1_ BK261.out; have hfz13_0 := blk_frozen BK261.out 0; have hfz13_1 := blk_frozen BK261.out 1))
 go_ret
 exact ⟨ew_, bs2_ HB GE261 GE265⟩
end
section
mutual
def cohousingref05_Valid.j0 : Nat → List (S51) → Bool → Option (Bool)
 | 0, _, _ => none
 | k + 1, x0, x20 => if x20 = true then (some false) else (cohousingref05_Valid.l0 k x0 0)
def cohousingref05_Valid.l0 : Nat → List (S51) → Int → Option (Bool)
 | 0, _, _ => none
 | k + 1, x0, x3 => if x3 < (x0.length : Int) then (if x3 > 0 then (if 0 ≤ x3 then (if 0 ≤ (wrap64 (x3 - 1)) then (if (wrap64 (x3 - 1)) < (x0.length : Int) then (if ((rd_T51 x0 x3).f0) ≤ ((rd_T51 x0 (wrap64 (x3 - 1))).f0) then (cohousingref05_Valid.j2 k x0 x3 true) else (cohousingref05_Valid.j2 k x0 x3 (decide (((rd_T51 x0 x3).f0) > 100000)))) else (none)) else (none)) else (none)) else (if 0 ≤ x3 then (cohousingref05_Valid.j2 k x0 x3 (decide (((rd_T51 x0 x3).f0) > 100000))) else (none))) else (some true)
def cohousingref05_Valid.j2 : Nat → List (S51) → Int → Bool → Option (Bool)
 | 0, _, _, _ => none
 | k + 1, x0, x3, x50 => if x50 = true then (some false) else (if 0 ≤ x3 then (if x3 < (x0.length : Int) then ((cohousingref01_Valid.f k ((rd_T51 x0 x3).f1.f0) ((rd_T51 x0 x3).f1.f1)).bind fun t272 => ((cohousingref01_Valid.f k ((rd_T51 x0 x3).f2.f0) ((rd_T51 x0 x3).f2.f1)).bind fun t274 => (if t272 = true then (if t274 = true then (if ((rd_T51 x0 x3).f1.f1) > 100 then (some false) else (if ((rd_T51 x0 x3).f2.f1) > 100 then (some false) else (if ((rd_T51 x0 x3).f2.f0) > 100000 then (some false) else (if ((rd_T51 x0 x3).f2.f0) < (-100000) then (some false) else (cohousingref05_Valid.l0 k x0 (wrap64 (x3 + 1))))))) else (some false)) else (some false)))) else (none)) else (none))
end
def cohousingref05_Valid.f (k : Nat) (l0 : List (S51)) : Option (Bool) := if (l0.length : Int) < 1 then (cohousingref05_Valid.j0 k l0 true) else (if (l0.length : Int) > 64 then (cohousingref05_Valid.j0 k l0 true) else (if 0 < (l0.length : Int) then (cohousingref05_Valid.j0 k l0 (((rd_T51 l0 0).f0) != 0)) else (none)))
theorem cohousingref05_Valid.calls (k : Nat) (A0 : Option Addr) (c0 : Nat) (l0 : List (S51)) (r : Bool) (w : World) (hr0 : Kd.C k51 w A0 l0.length l0) (hc0 : l0.length ≤ c0) (h : cohousingref05_Valid.f k l0 = some r) :
  Calls Try.prog 15 #[.slice A0 l0.length c0] w fun e w' => e = .returned (.bool r) ∧ Below w.heap.size w w' := by
 have hu24 := Try.underlying24
 have HR0 := mk_ hr0
 have HC0 := mk_ hc0
 clear hr0 hc0
 have HB := mk_ (Below.refl w.heap.size w)
 have H : (if (l0.length : Int) < 1 then (cohousingref05_Valid.j0 k l0 true) else (if (l0.length : Int) > 64 then (cohousingref05_Valid.j0 k l0 true) else (if 0 < (l0.length : Int) then (cohousingref05_Valid.j0 k l0 (((rd_T51 l0 0).f0) != 0)) else (none)))) = some r := h
 clear h
 have HC2 := mk_ H
 clear H
 go_enter Try.func15, Try.ntmps15
 go_upto_region 1 with (fail)
 repeat (go_quiet (fail); go_upto_region 1 with (fail))
 go_cut [20] (fun v20 wc => ∃ (kq : Nat) (x20_1 : Bool), v20 = .bool x20_1 ∧ Aside0 (cohousingref05_Valid.j0 kq l0 x20_1 = some r) ∧ Aside0 (kq ≤ k) ∧ Aside0 (Below w.heap.size w wc))
 case first =>
  have H := HC2.out
  clear HC2
  by_cases c3 : (l0.length : Int) < 1
  ·rw [if_pos c3] at H
   have c3b0 : decide ((l0.length : Int) < 1) = true := decide_eq_true c3
   have c3b1 : decide (l0.length < 1) = true := decide_eq_true (by omega)
   clear c3
   (first | rw [c3b0] | (simp only [i64_w, i32_w]; rw [c3b0]) | skip)
   have H' := mk_ H
   clear H
   go_wp2
   repeat (go_quiet (fail); try go_wp2)
   go_meet
   case rel => exact ⟨_, (true), sd_, H', ⟨by first | omega | exact Nat.le_refl _⟩, ⟨bb_ HB⟩⟩
  rw [if_neg c3] at H
  have c3b0 : decide ((l0.length : Int) < 1) = false := decide_eq_false c3
  have c3b1 : decide (l0.length < 1) = false := decide_eq_false (by omega)
  clear c3
  (first | rw [c3b0] | (simp only [i64_w, i32_w]; rw [c3b0]) | skip)
  by_cases c4 : (l0.length : Int) > 64
  ·rw [if_pos c4] at H
   have c4b0 : decide (64 < (l0.length : Int)) = true := decide_eq_true c4
   have c4b1 : decide (64 < l0.length) = true := decide_eq_true (by omega)
   clear c4
   have H' := mk_ H
   clear H
   go_wp2
   repeat (go_quiet (fail); try go_wp2)
   go_meet
   case rel => exact ⟨_, (true), sd_, H', ⟨by first | omega | exact Nat.le_refl _⟩, ⟨bb_ HB⟩⟩
  rw [if_neg c4] at H
  have c4b0 : decide (64 < (l0.length : Int)) = false := decide_eq_false c4
  have c4b1 : decide (64 < l0.length) = false := decide_eq_false (by omega)
  clear c4
  by_cases c5 : 0 < (l0.length : Int)
  rotate_left
  ·rw [if_neg c5] at H
   exact absurd H (by simp)
  rw [if_pos c5] at H
  have c5b0 : decide (0 < (l0.length : Int)) = true := decide_eq_true c5
  have c5b1 : decide (0 < l0.length) = true := decide_eq_true (by omega)
  clear c5
  have H' := mk_ H
  clear H
  have p266 : 0 ≤ (0 : Int) := (by omega)
  have q266 : 0 < (l0.length : Int) := od_
  obtain ⟨ad266, e266, hx266_0, hx266_1, hx266_2, hx266_3, hx266_4⟩ := at_T51 HR0.out 0 p266 q266
  cases e266
  have qi266 : (0 < l0.length) = True := eq_true (by omega)
  (try rw [show ((0 : Int)).toNat = 0 from rfl] at hx266_0)
  (try rw [show 0 * 5 = 0 from rfl] at hx266_0)
  (try rw [Addr.add_zero'] at hx266_0)
  (try rw [show ((0 : Int)).toNat = 0 from rfl] at hx266_1)
  (try rw [show 0 * 5 = 0 from rfl] at hx266_1)
  (try rw [Addr.add_zero'] at hx266_1)
  (try rw [show ((0 : Int)).toNat = 0 from rfl] at hx266_2)
  (try rw [show 0 * 5 = 0 from rfl] at hx266_2)
  (try rw [Addr.add_zero'] at hx266_2)
  (try rw [show ((0 : Int)).toNat = 0 from rfl] at hx266_3)
  (try rw [show 0 * 5 = 0 from rfl] at hx266_3)
  (try rw [Addr.add_zero'] at hx266_3)
  (try rw [show ((0 : Int)).toNat = 0 from rfl] at hx266_4)
  (try rw [show 0 * 5 = 0 from rfl] at hx266_4)
  (try rw [Addr.add_zero'] at hx266_4)
  replace hx266_0 := cb_ HB hx266_0
  replace hx266_1 := cb_ HB hx266_1
  replace hx266_2 := cb_ HB hx266_2
  replace hx266_3 := cb_ HB hx266_3
  replace hx266_4 := cb_ HB hx266_4
  replace p266 := eq_true p266
  replace q266 := eq_true q266
  go_wp2
  repeat (go_quiet (fail); try go_wp2)
  go_meet
  case rel => exact ⟨_, ((((rd_T51 l0 0).f0) != 0)), sd_, H', ⟨by first | omega | exact Nat.le_refl _⟩, ⟨bb_ HB⟩⟩
 case rest =>
  clear HC2
  obtain ⟨kq, x20_1, rfl, HA, HJ1, HB⟩ := hcut
  cases kq with
  | zero => exact absurd HA.out (by simp [cohousingref05_Valid.j0])
  | succ kj1 =>
   have H := HA.out
   clear HA
   simp only [cohousingref05_Valid.j0] at H
   by_cases c6 : x20_1 = true
   ·subst c6
    have H1 : (some false) = some r := by rw [if_pos rfl] at H; exact H
    clear H
    have H := H1
    clear H1
    obtain rfl := Option.some.inj H
    go_wp2
    repeat (go_quiet (fail); try go_wp2)
    go_ret
    exact ⟨ew_, bb_ HB⟩
   replace c6 := Bool.eq_false_iff.mpr c6
   subst c6
   have H1 : (cohousingref05_Valid.l0 kj1 l0 0) = some r := by rw [if_neg (show ¬ (false = true) by decide)] at H; exact H
   clear H
   have H := H1
   clear H1
   have H' := mk_ H
   clear H
   go_wp2
   repeat (go_quiet (fail); try go_wp2)
   go_loopg [3] kj1 (fun kq v3 w' => ∃ (x3_2 : Int), v3 = .int .i64 x3_2 ∧ Aside0 (cohousingref05_Valid.l0 kq l0 x3_2 = some r) ∧ Aside0 (kq ≤ kj1) ∧ Aside0 (Below w.heap.size w w'))
   case atStart => exact ⟨(0), sd_, H', ⟨Nat.le_refl _⟩, ⟨bb_ HB⟩⟩
   case round =>
    clear H'
    obtain ⟨x3_2, rfl, HA, HK2, HB⟩ := hrel
    cases gk with
    | zero => exact absurd HA.out (by simp [cohousingref05_Valid.l0])
    | succ k2 =>
     have H := HA.out
     clear HA
     simp only [cohousingref05_Valid.l0] at H
     by_cases c7 : x3_2 < (l0.length : Int)
     rotate_left
     ·rw [if_neg c7] at H
      have c7b0 : decide (x3_2 < (l0.length : Int)) = false := decide_eq_false c7
      clear c7
      obtain rfl := Option.some.inj H
      go_wp2
      repeat (go_quiet (fail); try go_wp2)
      go_ret
      exact ⟨ew_, bb_ HB⟩
     rw [if_pos c7] at H
     have c7b0 : decide (x3_2 < (l0.length : Int)) = true := decide_eq_true c7
     clear c7
     have HC8 := mk_ H
     clear H
     go_upto_region 6 with (fail)
     repeat (go_quiet (fail); go_upto_region 6 with (fail))
     go_cut [50] (fun v50 wc => ∃ (kq : Nat) (x50_7 : Bool), v50 = .bool x50_7 ∧ Aside0 (cohousingref05_Valid.j2 kq l0 x3_2 x50_7 = some r) ∧ Aside0 (kq ≤ k2) ∧ Aside0 (Below w.heap.size w wc))
     case first =>
      have H := HC8.out
      clear HC8
      by_cases c9 : x3_2 > 0
      rotate_left
      ·rw [if_neg c9] at H
       have c9b0 : decide (0 < x3_2) = false := decide_eq_false c9
       clear c9
       (first | rw [c9b0] | (simp only [i64_w, i32_w]; rw [c9b0]) | skip)
       by_cases c15 : 0 ≤ x3_2
       rotate_left
       ·rw [if_neg c15] at H
        exact absurd H (by simp)
       rw [if_pos c15] at H
       have c15b0 : decide (0 ≤ x3_2) = true := decide_eq_true c15
       clear c15
       have H' := mk_ H
       clear H
       have p270 : 0 ≤ (x3_2 : Int) := od_
       have q270 : x3_2 < (l0.length : Int) := od_
       obtain ⟨ad270, e270, hx270_0, hx270_1, hx270_2, hx270_3, hx270_4⟩ := at_T51 HR0.out x3_2 p270 q270
       cases e270
       replace hx270_0 := cb_ HB hx270_0
       replace hx270_1 := cb_ HB hx270_1
       replace hx270_2 := cb_ HB hx270_2
       replace hx270_3 := cb_ HB hx270_3
       replace hx270_4 := cb_ HB hx270_4
       replace p270 := eq_true p270
       replace q270 := eq_true q270
       go_wp2
       repeat (go_quiet (fail); try go_wp2)
       go_meet
       case rel => exact ⟨_, (decide (((rd_T51 l0 x3_2).f0) > 100000)), sd_, H', ⟨by have := HJ1.out; have := HK2.out; first | omega | exact Nat.le_refl _⟩, ⟨bb_ HB⟩⟩
      rw [if_pos c9] at H
      have c9b0 : decide (0 < x3_2) = true := decide_eq_true c9
      clear c9
      (first | rw [c9b0] | (simp only [i64_w, i32_w]; rw [c9b0]) | skip)
      by_cases c10 : 0 ≤ x3_2
      rotate_left
      ·rw [if_neg c10] at H
       exact absurd H (by simp)
      rw [if_pos c10] at H
      have c10b0 : decide (0 ≤ x3_2) = true := decide_eq_true c10
      clear c10
      obtain ⟨ji11, hji11⟩ : ∃ j_ : Int, (wrap64 (x3_2 - 1)) = j_ := ⟨_, rfl⟩
      replace H : (if 0 ≤ (ji11) then (if (ji11) < (l0.length : Int) then (if ((rd_T51 l0 x3_2).f0) ≤ ((rd_T51 l0 (ji11)).f0) then (cohousingref05_Valid.j2 k2 l0 x3_2 true) else (cohousingref05_Valid.j2 k2 l0 x3_2 (decide (((rd_T51 l0 x3_2).f0) > 100000)))) else (none)) else (none)) = some r := by first | (rw [hji11] at H; exact H) | (simp only [hji11] at H ⊢; exact H)
      have hji11w : (IntKind.i64.wrap (x3_2 - 1)) = ji11 := (i64_w _).trans hji11
      by_cases c12 : 0 ≤ (ji11)
      rotate_left
      ·rw [if_neg c12] at H
       exact absurd H (by simp)
      rw [if_pos c12] at H
      have c12b0 : decide (0 ≤ (ji11)) = true := decide_eq_true c12
      clear c12
      by_cases c13 : (ji11) < (l0.length : Int)
      rotate_left
      ·rw [if_neg c13] at H
       exact absurd H (by simp)
      rw [if_pos c13] at H
      have c13b0 : decide ((ji11) < (l0.length : Int)) = true := decide_eq_true c13
      clear c13
      by_cases c14 : ((rd_T51 l0 x3_2).f0) ≤ ((rd_T51 l0 (ji11)).f0)
      ·rw [if_pos c14] at H
       have c14b0 : decide (((rd_T51 l0 x3_2).f0) ≤ ((rd_T51 l0 (ji11)).f0)) = true := decide_eq_true c14
       clear c14
       have H' := mk_ H
       clear H
       have p267 : 0 ≤ (x3_2 : Int) := od_
       have q267 : x3_2 < (l0.length : Int) := od_
       obtain ⟨ad267, e267, hx267_0, hx267_1, hx267_2, hx267_3, hx267_4⟩ := at_T51 HR0.out x3_2 p267 q267
       cases e267
       replace hx267_0 := cb_ HB hx267_0
       replace hx267_1 := cb_ HB hx267_1
       replace hx267_2 := cb_ HB hx267_2
       replace hx267_3 := cb_ HB hx267_3
       replace hx267_4 := cb_ HB hx267_4
       replace p267 := eq_true p267
       replace q267 := eq_true q267
       have p268 : 0 ≤ ((ji11) : Int) := od_
       have q268 : (ji11) < (l0.length : Int) := od_
       obtain ⟨ad268, e268, hx268_0, hx268_1, hx268_2, hx268_3, hx268_4⟩ := at_T51 HR0.out (ji11) p268 q268
       obtain rfl : ad267 = ad268 := (by injection e268)
       replace hx268_0 := cb_ HB hx268_0
       replace hx268_1 := cb_ HB hx268_1
       replace hx268_2 := cb_ HB hx268_2
       replace hx268_3 := cb_ HB hx268_3
       replace hx268_4 := cb_ HB hx268_4
       replace p268 := eq_true p268
       replace q268 := eq_true q268
       go_wp2
       repeat (go_quiet (fail); try go_wp2)
       go_meet
       case rel => exact ⟨_, (true), sd_, H', ⟨by have := HJ1.out; have := HK2.out; first | omega | exact Nat.le_refl _⟩, ⟨bb_ HB⟩⟩
      rw [if_neg c14] at H
      have c14b0 : decide (((rd_T51 l0 x3_2).f0) ≤ ((rd_T51 l0 (ji11)).f0)) = false := decide_eq_false c14
      clear c14
      have H' := mk_ H
      clear H
      have p267 : 0 ≤ (x3_2 : Int) := od_
      have q267 : x3_2 < (l0.length : Int) := od_
      obtain ⟨ad267, e267, hx267_0, hx267_1, hx267_2, hx267_3, hx267_4⟩ := at_T51 HR0.out x3_2 p267 q267
      cases e267
      replace hx267_0 := cb_ HB hx267_0
      replace hx267_1 := cb_ HB hx267_1
      replace hx267_2 := cb_ HB hx267_2
      replace hx267_3 := cb_ HB hx267_3
      replace hx267_4 := cb_ HB hx267_4
      replace p267 := eq_true p267
      replace q267 := eq_true q267
      have p268 : 0 ≤ ((ji11) : Int) := od_
      have q268 : (ji11) < (l0.length : Int) := od_
      obtain ⟨ad268, e268, hx268_0, hx268_1, hx268_2, hx268_3, hx268_4⟩ := at_T51 HR0.out (ji11) p268 q268
      obtain rfl : ad267 = ad268 := (by injection e268)
      replace hx268_0 := cb_ HB hx268_0
      replace hx268_1 := cb_ HB hx268_1
      replace hx268_2 := cb_ HB hx268_2
      replace hx268_3 := cb_ HB hx268_3
      replace hx268_4 := cb_ HB hx268_4
      replace p268 := eq_true p268
      replace q268 := eq_true q268
      have p269 : 0 ≤ (x3_2 : Int) := od_
      have q269 : x3_2 < (l0.length : Int) := od_
      obtain ⟨ad269, e269, hx269_0, hx269_1, hx269_2, hx269_3, hx269_4⟩ := at_T51 HR0.out x3_2 p269 q269
      obtain rfl : ad267 = ad269 := (by injection e269)
      replace hx269_0 := cb_ HB hx269_0
      replace hx269_1 := cb_ HB hx269_1
      replace hx269_2 := cb_ HB hx269_2
      replace hx269_3 := cb_ HB hx269_3
      replace hx269_4 := cb_ HB hx269_4
      replace p269 := eq_true p269
      replace q269 := eq_true q269
      go_wp2
      repeat (go_quiet (fail); try go_wp2)
      go_meet
      case rel => exact ⟨_, (decide (((rd_T51 l0 x3_2).f0) > 100000)), sd_, H', ⟨by have := HJ1.out; have := HK2.out; first | omega | exact Nat.le_refl _⟩, ⟨bb_ HB⟩⟩
     case rest =>
      clear HC8
      obtain ⟨kq, x50_7, rfl, HA, HJ7, HB⟩ := hcut
      cases kq with
      | zero => exact absurd HA.out (by simp [cohousingref05_Valid.j2])
      | succ kj7 =>
       have H := HA.out
       clear HA
       simp only [cohousingref05_Valid.j2] at H
       by_cases c16 : x50_7 = true
       ·subst c16
        have H1 : (some false) = some r := by rw [if_pos rfl] at H; exact H
        clear H
        have H := H1
        clear H1
        obtain rfl := Option.some.inj H
        go_wp2
        repeat (go_quiet (fail); try go_wp2)
        go_ret
        exact ⟨ew_, bb_ HB⟩
       replace c16 := Bool.eq_false_iff.mpr c16
       subst c16
       have H1 : (if 0 ≤ x3_2 then (if x3_2 < (l0.length : Int) then ((cohousingref01_Valid.f kj7 ((rd_T51 l0 x3_2).f1.f0) ((rd_T51 l0 x3_2).f1.f1)).bind fun t272 => ((cohousingref01_Valid.f kj7 ((rd_T51 l0 x3_2).f2.f0) ((rd_T51 l0 x3_2).f2.f1)).bind fun t274 => (if t272 = true then (if t274 = true then (if ((rd_T51 l0 x3_2).f1.f1) > 100 then (some false) else (if ((rd_T51 l0 x3_2).f2.f1) > 100 then (some false) else (if ((rd_T51 l0 x3_2).f2.f0) > 100000 then (some false) else (if ((rd_T51 l0 x3_2).f2.f0) < (-100000) then (some false) else (cohousingref05_Valid.l0 kj7 l0 (wrap64 (x3_2 + 1))))))) else (some false)) else (some false)))) else (none)) else (none)) = some r := by rw [if_neg (show ¬ (false = true) by decide)] at H; exact H
       clear H
       have H := H1
       clear H1
       by_cases c17 : 0 ≤ x3_2
       rotate_left
       ·rw [if_neg c17] at H
        exact absurd H (by simp)
       rw [if_pos c17] at H
       have c17b0 : decide (0 ≤ x3_2) = true := decide_eq_true c17
       clear c17
       by_cases c18 : x3_2 < (l0.length : Int)
       rotate_left
       ·rw [if_neg c18] at H
        exact absurd H (by simp)
       rw [if_pos c18] at H
       have c18b0 : decide (x3_2 < (l0.length : Int)) = true := decide_eq_true c18
       clear c18
       replace H := Option.bind_eq_some_iff.mp H
       obtain ⟨t272, A190, H⟩ := H
       replace H : ((cohousingref01_Valid.f kj7 ((rd_T51 l0 x3_2).f2.f0) ((rd_T51 l0 x3_2).f2.f1)).bind fun t274 => (if t272 = true then (if t274 = true then (if ((rd_T51 l0 x3_2).f1.f1) > 100 then (some false) else (if ((rd_T51 l0 x3_2).f2.f1) > 100 then (some false) else (if ((rd_T51 l0 x3_2).f2.f0) > 100000 then (some false) else (if ((rd_T51 l0 x3_2).f2.f0) < (-100000) then (some false) else (cohousingref05_Valid.l0 kj7 l0 (wrap64 (x3_2 + 1))))))) else (some false)) else (some false))) = some r := H
       have A19 := mk_ A190
       clear A190
       replace H := Option.bind_eq_some_iff.mp H
       obtain ⟨t274, A200, H⟩ := H
       replace H : (if t272 = true then (if t274 = true then (if ((rd_T51 l0 x3_2).f1.f1) > 100 then (some false) else (if ((rd_T51 l0 x3_2).f2.f1) > 100 then (some false) else (if ((rd_T51 l0 x3_2).f2.f0) > 100000 then (some false) else (if ((rd_T51 l0 x3_2).f2.f0) < (-100000) then (some false) else (cohousingref05_Valid.l0 kj7 l0 (wrap64 (x3_2 + 1))))))) else (some false)) else (some false)) = some r := H
       have A20 := mk_ A200
       clear A200
       by_cases c21 : t272 = true
       rotate_left
       ·replace c21 := Bool.eq_false_iff.mpr c21
        subst c21
        have H1 : (some false) = some r := by rw [if_neg (show ¬ (false = true) by decide)] at H; exact H
        clear H
        have H := H1
        clear H1
        obtain rfl := Option.some.inj H
        have p271 : 0 ≤ (x3_2 : Int) := od_
        have q271 : x3_2 < (l0.length : Int) := od_
        obtain ⟨ad271, e271, hx271_0, hx271_1, hx271_2, hx271_3, hx271_4⟩ := at_T51 HR0.out x3_2 p271 q271
        cases e271
        replace hx271_0 := cb_ HB hx271_0
        replace hx271_1 := cb_ HB hx271_1
        replace hx271_2 := cb_ HB hx271_2
        replace hx271_3 := cb_ HB hx271_3
        replace hx271_4 := cb_ HB hx271_4
        replace p271 := eq_true p271
        replace q271 := eq_true q271
        go_wp2_with (first | (go_at_call 30; (with_reducible refine (cohousingref01_Valid.calls kj7 ((rd_T51 l0 x3_2).f1.f0) ((rd_T51 l0 x3_2).f1.f1) false _ A19.out).mono ?_); rintro e w39 ⟨rfl, hb⟩; replace HB := mk_ (below_step (bb_ HB) hb); (try clear hb); have p273 : 0 ≤ (x3_2 : Int) := od_; have q273 : x3_2 < (l0.length : Int) := od_; obtain ⟨ad273, e273, hx273_0, hx273_1, hx273_2, hx273_3, hx273_4⟩ := at_T51 HR0.out x3_2 p273 q273; obtain rfl : ad271 = ad273 := (by injection e273); replace hx273_0 := cb_ HB hx273_0; replace hx273_1 := cb_ HB hx273_1; replace hx273_2 := cb_ HB hx273_2; replace hx273_3 := cb_ HB hx273_3; replace hx273_4 := cb_ HB hx273_4; replace p273 := eq_true p273; replace q273 := eq_true q273) | (go_at_call 30; (with_reducible refine (cohousingref01_Valid.calls kj7 ((rd_T51 l0 x3_2).f2.f0) ((rd_T51 l0 x3_2).f2.f1) t274 _ A20.out).mono ?_); rintro e w40 ⟨rfl, hb⟩; replace HB := mk_ (below_step (bb_ HB) hb); (try clear hb)))
        repeat (go_quiet (first | fail); try go_wp2_with (first | fail))
        go_ret
        exact ⟨ew_, bb_ HB⟩
       subst c21
       have H1 : (if t274 = true then (if ((rd_T51 l0 x3_2).f1.f1) > 100 then (some false) else (if ((rd_T51 l0 x3_2).f2.f1) > 100 then (some false) else (if ((rd_T51 l0 x3_2).f2.f0) > 100000 then (some false) else (if ((rd_T51 l0 x3_2).f2.f0) < (-100000) then (some false) else (cohousingref05_Valid.l0 kj7 l0 (wrap64 (x3_2 + 1))))))) else (some false)) = some r := by rw [if_pos rfl] at H; exact H
       clear H
       have H := H1
       clear H1
       by_cases c22 : t274 = true
       rotate_left
       ·replace c22 := Bool.eq_false_iff.mpr c22
        subst c22
        have H1 : (some false) = some r := by rw [if_neg (show ¬ (false = true) by decide)] at H; exact H
        clear H
        have H := H1
        clear H1
        obtain rfl := Option.some.inj H
        have p271 : 0 ≤ (x3_2 : Int) := od_
        have q271 : x3_2 < (l0.length : Int) := od_
        obtain ⟨ad271, e271, hx271_0, hx271_1, hx271_2, hx271_3, hx271_4⟩ := at_T51 HR0.out x3_2 p271 q271
        cases e271
        replace hx271_0 := cb_ HB hx271_0
        replace hx271_1 := cb_ HB hx271_1
        replace hx271_2 := cb_ HB hx271_2
        replace hx271_3 := cb_ HB hx271_3
        replace hx271_4 := cb_ HB hx271_4
        replace p271 := eq_true p271
        replace q271 := eq_true q271
        go_wp2_with (first | (go_at_call 30; (with_reducible refine (cohousingref01_Valid.calls kj7 ((rd_T51 l0 x3_2).f1.f0) ((rd_T51 l0 x3_2).f1.f1) true _ A19.out).mono ?_); rintro e w37 ⟨rfl, hb⟩; replace HB := mk_ (below_step (bb_ HB) hb); (try clear hb); have p273 : 0 ≤ (x3_2 : Int) := od_; have q273 : x3_2 < (l0.length : Int) := od_; obtain ⟨ad273, e273, hx273_0, hx273_1, hx273_2, hx273_3, hx273_4⟩ := at_T51 HR0.out x3_2 p273 q273; obtain rfl : ad271 = ad273 := (by injection e273); replace hx273_0 := cb_ HB hx273_0; replace hx273_1 := cb_ HB hx273_1; replace hx273_2 := cb_ HB hx273_2; replace hx273_3 := cb_ HB hx273_3; replace hx273_4 := cb_ HB hx273_4; replace p273 := eq_true p273; replace q273 := eq_true q273) | (go_at_call 30; (with_reducible refine (cohousingref01_Valid.calls kj7 ((rd_T51 l0 x3_2).f2.f0) ((rd_T51 l0 x3_2).f2.f1) false _ A20.out).mono ?_); rintro e w38 ⟨rfl, hb⟩; replace HB := mk_ (below_step (bb_ HB) hb); (try clear hb)))
        repeat (go_quiet (first | fail); try go_wp2_with (first | fail))
        go_ret
        exact ⟨ew_, bb_ HB⟩
       subst c22
       have H1 : (if ((rd_T51 l0 x3_2).f1.f1) > 100 then (some false) else (if ((rd_T51 l0 x3_2).f2.f1) > 100 then (some false) else (if ((rd_T51 l0 x3_2).f2.f0) > 100000 then (some false) else (if ((rd_T51 l0 x3_2).f2.f0) < (-100000) then (some false) else (cohousingref05_Valid.l0 kj7 l0 (wrap64 (x3_2 + 1))))))) = some r := by rw [if_pos rfl] at H; exact H
       clear H
       have H := H1
       clear H1
       by_cases c23 : ((rd_T51 l0 x3_2).f1.f1) > 100
       ·rw [if_pos c23] at H
        have c23b0 : decide (100 < ((rd_T51 l0 x3_2).f1.f1)) = true := decide_eq_true c23
        clear c23
        obtain rfl := Option.some.inj H
        have p271 : 0 ≤ (x3_2 : Int) := od_
        have q271 : x3_2 < (l0.length : Int) := od_
        obtain ⟨ad271, e271, hx271_0, hx271_1, hx271_2, hx271_3, hx271_4⟩ := at_T51 HR0.out x3_2 p271 q271
        cases e271
        replace hx271_0 := cb_ HB hx271_0
        replace hx271_1 := cb_ HB hx271_1
        replace hx271_2 := cb_ HB hx271_2
        replace hx271_3 := cb_ HB hx271_3
        replace hx271_4 := cb_ HB hx271_4
        replace p271 := eq_true p271
        replace q271 := eq_true q271
        go_wp2_with (first | (go_at_call 30; (with_reducible refine (cohousingref01_Valid.calls kj7 ((rd_T51 l0 x3_2).f1.f0) ((rd_T51 l0 x3_2).f1.f1) true _ A19.out).mono ?_); rintro e w24 ⟨rfl, hb⟩; replace HB := mk_ (below_step (bb_ HB) hb); (try clear hb); have p273 : 0 ≤ (x3_2 : Int) := od_; have q273 : x3_2 < (l0.length : Int) := od_; obtain ⟨ad273, e273, hx273_0, hx273_1, hx273_2, hx273_3, hx273_4⟩ := at_T51 HR0.out x3_2 p273 q273; obtain rfl : ad271 = ad273 := (by injection e273); replace hx273_0 := cb_ HB hx273_0; replace hx273_1 := cb_ HB hx273_1; replace hx273_2 := cb_ HB hx273_2; replace hx273_3 := cb_ HB hx273_3; replace hx273_4 := cb_ HB hx273_4; replace p273 := eq_true p273; replace q273 := eq_true q273) | (go_at_call 30; (with_reducible refine (cohousingref01_Valid.calls kj7 ((rd_T51 l0 x3_2).f2.f0) ((rd_T51 l0 x3_2).f2.f1) true _ A20.out).mono ?_); rintro e w25 ⟨rfl, hb⟩; replace HB := mk_ (below_step (bb_ HB) hb); (try clear hb); have p275 : 0 ≤ (x3_2 : Int) := od_; have q275 : x3_2 < (l0.length : Int) := od_; obtain ⟨ad275, e275, hx275_0, hx275_1, hx275_2, hx275_3, hx275_4⟩ := at_T51 HR0.out x3_2 p275 q275; obtain rfl : ad271 = ad275 := (by injection e275); replace hx275_0 := cb_ HB hx275_0; replace hx275_1 := cb_ HB hx275_1; replace hx275_2 := cb_ HB hx275_2; replace hx275_3 := cb_ HB hx275_3; replace hx275_4 := cb_ HB hx275_4; replace p275 := eq_true p275; replace q275 := eq_true q275))
        repeat (go_quiet (first | fail); try go_wp2_with (first | fail))
        go_ret
        exact ⟨ew_, bb_ HB⟩
       rw [if_neg c23] at H
       have c23b0 : decide (100 < ((rd_T51 l0 x3_2).f1.f1)) = false := decide_eq_false c23
       clear c23
       by_cases c26 : ((rd_T51 l0 x3_2).f2.f1) > 100
       ·rw [if_pos c26] at H
        have c26b0 : decide (100 < ((rd_T51 l0 x3_2).f2.f1)) = true := decide_eq_true c26
        clear c26
        obtain rfl := Option.some.inj H
        have p271 : 0 ≤ (x3_2 : Int) := od_
        have q271 : x3_2 < (l0.length : Int) := od_
        obtain ⟨ad271, e271, hx271_0, hx271_1, hx271_2, hx271_3, hx271_4⟩ := at_T51 HR0.out x3_2 p271 q271
        cases e271
        replace hx271_0 := cb_ HB hx271_0
        replace hx271_1 := cb_ HB hx271_1
        replace hx271_2 := cb_ HB hx271_2
        replace hx271_3 := cb_ HB hx271_3
        replace hx271_4 := cb_ HB hx271_4
        replace p271 := eq_true p271
        replace q271 := eq_true q271
        go_wp2_with (first | (go_at_call 30; (with_reducible refine (cohousingref01_Valid.calls kj7 ((rd_T51 l0 x3_2).f1.f0) ((rd_T51 l0 x3_2).f1.f1) true _ A19.out).mono ?_); rintro e w27 ⟨rfl, hb⟩; replace HB := mk_ (below_step (bb_ HB) hb); (try clear hb); have p273 : 0 ≤ (x3_2 : Int) := od_; have q273 : x3_2 < (l0.length : Int) := od_; obtain ⟨ad273, e273, hx273_0, hx273_1, hx273_2, hx273_3, hx273_4⟩ := at_T51 HR0.out x3_2 p273 q273; obtain rfl : ad271 = ad273 := (by injection e273); replace hx273_0 := cb_ HB hx273_0; replace hx273_1 := cb_ HB hx273_1; replace hx273_2 := cb_ HB hx273_2; replace hx273_3 := cb_ HB hx273_3; replace hx273_4 := cb_ HB hx273_4; replace p273 := eq_true p273; replace q273 := eq_true q273) | (go_at_call 30; (with_reducible refine (cohousingref01_Valid.calls kj7 ((rd_T51 l0 x3_2).f2.f0) ((rd_T51 l0 x3_2).f2.f1) true _ A20.out).mono ?_); rintro e w28 ⟨rfl, hb⟩; replace HB := mk_ (below_step (bb_ HB) hb); (try clear hb); have p275 : 0 ≤ (x3_2 : Int) := od_; have q275 : x3_2 < (l0.length : Int) := od_; obtain ⟨ad275, e275, hx275_0, hx275_1, hx275_2, hx275_3, hx275_4⟩ := at_T51 HR0.out x3_2 p275 q275; obtain rfl : ad271 = ad275 := (by injection e275); replace hx275_0 := cb_ HB hx275_0; replace hx275_1 := cb_ HB hx275_1; replace hx275_2 := cb_ HB hx275_2; replace hx275_3 := cb_ HB hx275_3; replace hx275_4 := cb_ HB hx275_4; replace p275 := eq_true p275; replace q275 := eq_true q275; have p276 : 0 ≤ (x3_2 : Int) := od_; have q276 : x3_2 < (l0.length : Int) := od_; obtain ⟨ad276, e276, hx276_0, hx276_1, hx276_2, hx276_3, hx276_4⟩ := at_T51 HR0.out x3_2 p276 q276; obtain rfl : ad271 = ad276 := (by injection e276); replace hx276_0 := cb_ HB hx276_0; replace hx276_1 := cb_ HB hx276_1; replace hx276_2 := cb_ HB hx276_2; replace hx276_3 := cb_ HB hx276_3; replace hx276_4 := cb_ HB hx276_4; replace p276 := eq_true p276; replace q276 := eq_true q276))
        repeat (go_quiet (first | fail); try go_wp2_with (first | fail))
        go_ret
        exact ⟨ew_, bb_ HB⟩
       rw [if_neg c26] at H
       have c26b0 : decide (100 < ((rd_T51 l0 x3_2).f2.f1)) = false := decide_eq_false c26
       clear c26
       by_cases c29 : ((rd_T51 l0 x3_2).f2.f0) > 100000
       ·rw [if_pos c29] at H
        have c29b0 : decide (100000 < ((rd_T51 l0 x3_2).f2.f0)) = true := decide_eq_true c29
        clear c29
        obtain rfl := Option.some.inj H
        have p271 : 0 ≤ (x3_2 : Int) := od_
        have q271 : x3_2 < (l0.length : Int) := od_
        obtain ⟨ad271, e271, hx271_0, hx271_1, hx271_2, hx271_3, hx271_4⟩ := at_T51 HR0.out x3_2 p271 q271
        cases e271
        replace hx271_0 := cb_ HB hx271_0
        replace hx271_1 := cb_ HB hx271_1
        replace hx271_2 := cb_ HB hx271_2
        replace hx271_3 := cb_ HB hx271_3
        replace hx271_4 := cb_ HB hx271_4
        replace p271 := eq_true p271
        replace q271 := eq_true q271
        go_wp2_with (first | (go_at_call 30; (with_reducible refine (cohousingref01_Valid.calls kj7 ((rd_T51 l0 x3_2).f1.f0) ((rd_T51 l0 x3_2).f1.f1) true _ A19.out).mono ?_); rintro e w30 ⟨rfl, hb⟩; replace HB := mk_ (below_step (bb_ HB) hb); (try clear hb); have p273 : 0 ≤ (x3_2 : Int) := od_; have q273 : x3_2 < (l0.length : Int) := od_; obtain ⟨ad273, e273, hx273_0, hx273_1, hx273_2, hx273_3, hx273_4⟩ := at_T51 HR0.out x3_2 p273 q273; obtain rfl : ad271 = ad273 := (by injection e273); replace hx273_0 := cb_ HB hx273_0; replace hx273_1 := cb_ HB hx273_1; replace hx273_2 := cb_ HB hx273_2; replace hx273_3 := cb_ HB hx273_3; replace hx273_4 := cb_ HB hx273_4; replace p273 := eq_true p273; replace q273 := eq_true q273) | (go_at_call 30; (with_reducible refine (cohousingref01_Valid.calls kj7 ((rd_T51 l0 x3_2).f2.f0) ((rd_T51 l0 x3_2).f2.f1) true _ A20.out).mono ?_); rintro e w31 ⟨rfl, hb⟩; replace HB := mk_ (below_step (bb_ HB) hb); (try clear hb); have p275 : 0 ≤ (x3_2 : Int) := od_; have q275 : x3_2 < (l0.length : Int) := od_; obtain ⟨ad275, e275, hx275_0, hx275_1, hx275_2, hx275_3, hx275_4⟩ := at_T51 HR0.out x3_2 p275 q275; obtain rfl : ad271 = ad275 := (by injection e275); replace hx275_0 := cb_ HB hx275_0; replace hx275_1 := cb_ HB hx275_1; replace hx275_2 := cb_ HB hx275_2; replace hx275_3 := cb_ HB hx275_3; replace hx275_4 := cb_ HB hx275_4; replace p275 := eq_true p275; replace q275 := eq_true q275; have p276 : 0 ≤ (x3_2 : Int) := od_; have q276 : x3_2 < (l0.length : Int) := od_; obtain ⟨ad276, e276, hx276_0, hx276_1, hx276_2, hx276_3, hx276_4⟩ := at_T51 HR0.out x3_2 p276 q276; obtain rfl : ad271 = ad276 := (by injection e276); replace hx276_0 := cb_ HB hx276_0; replace hx276_1 := cb_ HB hx276_1; replace hx276_2 := cb_ HB hx276_2; replace hx276_3 := cb_ HB hx276_3; replace hx276_4 := cb_ HB hx276_4; replace p276 := eq_true p276; replace q276 := eq_true q276; have p277 : 0 ≤ (x3_2 : Int) := od_; have q277 : x3_2 < (l0.length : Int) := od_; obtain ⟨ad277, e277, hx277_0, hx277_1, hx277_2, hx277_3, hx277_4⟩ := at_T51 HR0.out x3_2 p277 q277; obtain rfl : ad271 = ad277 := (by injection e277); replace hx277_0 := cb_ HB hx277_0; replace hx277_1 := cb_ HB hx277_1; replace hx277_2 := cb_ HB hx277_2; replace hx277_3 := cb_ HB hx277_3; replace hx277_4 := cb_ HB hx277_4; replace p277 := eq_true p277; replace q277 := eq_true q277))
        repeat (go_quiet (first | fail); try go_wp2_with (first | fail))
        go_ret
        exact ⟨ew_, bb_ HB⟩
       rw [if_neg c29] at H
       have c29b0 : decide (100000 < ((rd_T51 l0 x3_2).f2.f0)) = false := decide_eq_false c29
       clear c29
       by_cases c32 : ((rd_T51 l0 x3_2).f2.f0) < (-100000)
       case' _ =>
        rw [if_pos c32] at H
        have c32b0 : decide (((rd_T51 l0 x3_2).f2.f0) < (-100000)) = true := decide_eq_true c32
        clear c32
        obtain rfl := Option.some.inj H
        have p271 : 0 ≤ (x3_2 : Int) := od_
        have q271 : x3_2 < (l0.length : Int) := od_
        obtain ⟨ad271, e271, hx271_0, hx271_1, hx271_2, hx271_3, hx271_4⟩ := at_T51 HR0.out x3_2 p271 q271
        cases e271
        replace hx271_0 := cb_ HB hx271_0
        replace hx271_1 := cb_ HB hx271_1
        replace hx271_2 := cb_ HB hx271_2
        replace hx271_3 := cb_ HB hx271_3
        replace hx271_4 := cb_ HB hx271_4
        replace p271 := eq_true p271
        replace q271 := eq_true q271
       rotate_left
       case' _ =>
        rw [if_neg c32] at H
        have c32b0 : decide (((rd_T51 l0 x3_2).f2.f0) < (-100000)) = false := decide_eq_false c32
        clear c32
        have H' := mk_ H
        clear H
        have p271 : 0 ≤ (x3_2 : Int) := od_
        have q271 : x3_2 < (l0.length : Int) := od_
        obtain ⟨ad271, e271, hx271_0, hx271_1, hx271_2, hx271_3, hx271_4⟩ := at_T51 HR0.out x3_2 p271 q271
        cases e271
        replace hx271_0 := cb_ HB hx271_0
        replace hx271_1 := cb_ HB hx271_1
        replace hx271_2 := cb_ HB hx271_2
        replace hx271_3 := cb_ HB hx271_3
        replace hx271_4 := cb_ HB hx271_4
        replace p271 := eq_true p271
        replace q271 := eq_true q271
       rotate_left
       all_goals go_wp2_with (first | (go_at_call 30; (with_reducible refine (cohousingref01_Valid.calls kj7 ((rd_T51 l0 x3_2).f1.f0) ((rd_T51 l0 x3_2).f1.f1) true _ A19.out).mono ?_); rintro e w33 ⟨rfl, hb⟩; replace HB := mk_ (below_step (bb_ HB) hb); (try clear hb); have p273 : 0 ≤ (x3_2 : Int) := od_; have q273 : x3_2 < (l0.length : Int) := od_; obtain ⟨ad273, e273, hx273_0, hx273_1, hx273_2, hx273_3, hx273_4⟩ := at_T51 HR0.out x3_2 p273 q273; obtain rfl : ad271 = ad273 := (by injection e273); replace hx273_0 := cb_ HB hx273_0; replace hx273_1 := cb_ HB hx273_1; replace hx273_2 := cb_ HB hx273_2; replace hx273_3 := cb_ HB hx273_3; replace hx273_4 := cb_ HB hx273_4; replace p273 := eq_true p273; replace q273 := eq_true q273) | (go_at_call 30; (with_reducible refine (cohousingref01_Valid.calls kj7 ((rd_T51 l0 x3_2).f2.f0) ((rd_T51 l0 x3_2).f2.f1) true _ A20.out).mono ?_); rintro e w34 ⟨rfl, hb⟩; replace HB := mk_ (below_step (bb_ HB) hb); (try clear hb); have p275 : 0 ≤ (x3_2 : Int) := od_; have q275 : x3_2 < (l0.length : Int) := od_; obtain ⟨ad275, e275, hx275_0, hx275_1, hx275_2, hx275_3, hx275_4⟩ := at_T51 HR0.out x3_2 p275 q275; obtain rfl : ad271 = ad275 := (by injection e275); replace hx275_0 := cb_ HB hx275_0; replace hx275_1 := cb_ HB hx275_1; replace hx275_2 := cb_ HB hx275_2; replace hx275_3 := cb_ HB hx275_3; replace hx275_4 := cb_ HB hx275_4; replace p275 := eq_true p275; replace q275 := eq_true q275; have p276 : 0 ≤ (x3_2 : Int) := od_; have q276 : x3_2 < (l0.length : Int) := od_; obtain ⟨ad276, e276, hx276_0, hx276_1, hx276_2, hx276_3, hx276_4⟩ := at_T51 HR0.out x3_2 p276 q276; obtain rfl : ad271 = ad276 := (by injection e276); replace hx276_0 := cb_ HB hx276_0; replace hx276_1 := cb_ HB hx276_1; replace hx276_2 := cb_ HB hx276_2; replace hx276_3 := cb_ HB hx276_3; replace hx276_4 := cb_ HB hx276_4; replace p276 := eq_true p276; replace q276 := eq_true q276; have p277 : 0 ≤ (x3_2 : Int) := od_; have q277 : x3_2 < (l0.length : Int) := od_; obtain ⟨ad277, e277, hx277_0, hx277_1, hx277_2, hx277_3, hx277_4⟩ := at_T51 HR0.out x3_2 p277 q277; obtain rfl : ad271 = ad277 := (by injection e277); replace hx277_0 := cb_ HB hx277_0; replace hx277_1 := cb_ HB hx277_1; replace hx277_2 := cb_ HB hx277_2; replace hx277_3 := cb_ HB hx277_3; replace hx277_4 := cb_ HB hx277_4; replace p277 := eq_true p277; replace q277 := eq_true q277; have p278 : 0 ≤ (x3_2 : Int) := od_; have q278 : x3_2 < (l0.length : Int) := od_; obtain ⟨ad278, e278, hx278_0, hx278_1, hx278_2, hx278_3, hx278_4⟩ := at_T51 HR0.out x3_2 p278 q278; obtain rfl : ad271 = ad278 := (by injection e278); replace hx278_0 := cb_ HB hx278_0; replace hx278_1 := cb_ HB hx278_1; replace hx278_2 := cb_ HB hx278_2; replace hx278_3 := cb_ HB hx278_3; replace hx278_4 := cb_ HB hx278_4; replace p278 := eq_true p278; replace q278 := eq_true q278))
       ·repeat (go_quiet (first | fail); try go_wp2_with (first | fail))
        go_ret
        exact ⟨ew_, bb_ HB⟩
       ·repeat (go_quiet (first | fail); try go_wp2_with (first | fail))
        go_roundg kj7
        case measure => have := HJ1.out; have := HK2.out; have := HJ7.out; omega
        case rel => exact ⟨(wrap64 (x3_2 + 1)), sd_, H', ⟨by have := HJ1.out; have := HK2.out; have := HJ7.out; omega⟩, ⟨bb_ HB⟩⟩
end
end Go.Proofs.Ytmhimmodigeeiaa.P
end
