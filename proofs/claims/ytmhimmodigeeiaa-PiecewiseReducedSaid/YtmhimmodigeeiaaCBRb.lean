/- Part 2 of the proof of PiecewiseReduced: what it alone needs. -/
import Derived.Test.YtmhimmodigeeiaaCBRa
set_option linter.unusedVariables false
set_option linter.unusedSimpArgs false
section
namespace Go.Proofs.Ytmhimmodigeeiaa.P
open Go.RowKit Go.Proofs.YtmhimmodigeeiaaW.PrintWords Go.Proofs.YtmhimmodigeeiaaW.PrintLast Go.Proofs.YtmhimmodigeeiaaW.PrintMore
set_option linter.unusedVariables false
set_option linter.unusedSimpArgs false
open Classical
def Good (r : List PC × Int) : Prop := r.2 ≠ 0 ∨ (r.2 = 0 ∧ FOk r.1 ∧ ∀ i, i + 1 < r.1.length → ¬ same (lineL (pA r.1 i)) (lineL (pA r.1 (i + 1))))
theorem good_resS {es : List (LN × Int)} (h : Es es) : Good (resS (outM none es)) := by
 rcases resS_cases (outM none es) with (e | e) | ⟨e, hok, hlen⟩
 ·rw [e]; exact .inl (by simp)
 ·rw [e]; exact .inl (by simp)
 ·rw [e]; exact .inr ⟨rfl, out_fok h hok hlen, out_red h hok⟩
theorem good_ev {r : List PC × Int} (h : Good r) (h0 : r.2 = 0) : Ev (fun k => piecewise_Valid.f k r.1) true ∧ Ev (fun k => cohousingref05_Valid.f k r.1) true ∧ Ev (fun k => cohousingref05_Reduced.f k r.1) true := by
 rcases h with h | ⟨_, hf, hr⟩
 ·exact absurd h0 h
 ·have h1 := rvalid_ev _ (fok_ib hf)
  rw [decide_eq_true hf] at h1
  exact ⟨⟨100, fun k hk => (valid_eq _ hk).trans (congrArg some (decide_eq_true hf))⟩, h1, reduced_ev hf hr⟩
theorem good_scR {a b : Int} (hb : 0 < b) {f : List PC} (hf : FOk f) : Good (scR [] (outM none (scEs a b f))) := by
 have h := scEs_es (a := a) hb hf
 rcases scR_cases (a := a) (b := b) hf with e | ⟨e, hok, hlen⟩
 ·rw [e]; exact .inl (by simp)
 ·rw [e]; exact .inr ⟨rfl, out_fok h hok hlen, out_red h hok⟩
theorem reduced_ (f g : List PC) (hIf : ∀ p ∈ f, IBP p) (hIg : ∀ p ∈ g, IBP p) (a b : Int) (ha : IB a) (hb : IB b) : Ev (fun k => cohousinglaw05_PiecewiseReduced.f k f g a b) true := by
 obtain ⟨bb, hb1, hb2⟩ := both_ev f g hIf hIg
 have skip : Ev (fun k => cohousinglaw05_PiecewiseReduced.j0 k f g true true a b) true := by
  refine Ev.step ?_
  simp only [cohousinglaw05_PiecewiseReduced.j0, if_true]
  exact Ev.pure _
 unfold cohousinglaw05_PiecewiseReduced.f
 refine Ev.bnd head_ev (Ev.bnd hb1 ?_)
 cases bb with
 | false =>
  simp only [Bool.false_eq_true, if_false]
  exact skip
 | true =>
  obtain ⟨hf, hg⟩ := hb2 rfl
  simp only [if_true]
  refine Ev.bnd (rv_ref ha hb) ?_
  by_cases hr : RV a b
  case neg =>
   simp only [decide_eq_false hr, Bool.not_false]
   exact skip
  simp only [decide_eq_true hr, Bool.not_true]
  obtain ⟨M, hM, hS, hM1, hM0⟩ := stM_ex hf hg
  have g1 := good_resS (addEs_es hf hg hS hM0)
  have g2 := good_resS (leastEs_es hf hg hS hM0)
  have g3 := good_scR (a := a) (b := b) (by have := hr.1; omega) hf
  refine Ev.step ?_
  simp only [cohousinglaw05_PiecewiseReduced.j0, Bool.false_eq_true, if_false, add_eq hf hg hM, least_eq hf hg hM, Option.bind_some]
  refine Ev.bnd (scale_ev hr hf) ?_
  generalize resS (outM none (addEs f g M)) = r1 at *
  generalize resS (outM none (leastEs f g M)) = r2 at *
  generalize scR [] (outM none (scEs a b f)) = r3 at *
  have j1 : Ev (fun k => cohousinglaw05_PiecewiseReduced.j1 k true r3.1 r3.2 r2.1 r2.2 true) true := by
   refine Ev.step ?_
   by_cases c3 : r3.2 = 0
   ·obtain ⟨v1, v2, v3⟩ := good_ev g3 c3
    simp only [cohousinglaw05_PiecewiseReduced.j1, c3, if_true]
    refine Ev.bnd v1 ?_
    simp only [if_true]
    refine Ev.bnd v2 ?_
    simp only [if_true]
    refine Ev.bnd v3 ?_
    by_cases c2 : r2.2 = 0
    ·obtain ⟨u1, u2, u3⟩ := good_ev g2 c2
     simp only [c2, if_true]
     refine Ev.bnd u1 ?_
     simp only [if_true]
     refine Ev.bnd u2 ?_
     simp only [if_true]
     exact Ev.bnd u3 (Ev.pure _)
    ·simp only [c2, if_false, if_true]
     exact Ev.pure _
   ·simp only [cohousinglaw05_PiecewiseReduced.j1, c3, if_false]
    by_cases c2 : r2.2 = 0
    ·obtain ⟨u1, u2, u3⟩ := good_ev g2 c2
     simp only [c2, if_true]
     refine Ev.bnd u1 ?_
     simp only [if_true]
     refine Ev.bnd u2 ?_
     simp only [if_true]
     exact Ev.bnd u3 (Ev.pure _)
    ·simp only [c2, if_false, if_true]
     exact Ev.pure _
  by_cases c1 : r1.2 = 0
  ·obtain ⟨v1, v2, v3⟩ := good_ev g1 c1
   simp only [c1, if_true]
   refine Ev.bnd v1 ?_
   simp only [if_true]
   refine Ev.bnd v2 ?_
   simp only [if_true]
   exact Ev.bnd v3 j1
  ·simp only [c1, if_false]
   exact j1
end Go.Proofs.Ytmhimmodigeeiaa.P
end
