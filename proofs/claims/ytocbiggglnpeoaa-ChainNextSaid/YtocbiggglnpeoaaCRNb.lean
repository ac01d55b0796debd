/- Part 2 of the proof of ChainNext: what it alone needs. -/
import Derived.Test.YtocbiggglnpeoaaCRNa
set_option linter.unusedVariables false
set_option linter.unusedSimpArgs false
section
namespace Go.Proofs.Ytocbiggglnpeoaa.P
open Go.RowKit Go.Proofs.YtocbiggglnpeoaaW.PrintWords Go.Proofs.YtocbiggglnpeoaaW.PrintLast Go.Proofs.YtocbiggglnpeoaaW.PrintMore Go.Proofs.YtocbiggglnpeoaaH
open Classical
theorem next_ (fl : List FT) (pa : List PT) (ms : List MT) (gs : List Int) : Ev (fun k => cohousinglaw26_ChainNext.f k fl pa ms gs) true := by
 have out : Ev (fun k => cohousinglaw26_ChainNext.j0 k ms gs true true fl pa) true := by
  refine Ev.step ?_
  simp only [cohousinglaw26_ChainNext.j0, if_true]
  exact Ev.pure _
 unfold cohousinglaw26_ChainNext.f
 refine Ev.bnd head26 ?_
 refine Ev.bnd (FewM_f fl pa) ?_
 by_cases h1 : FewM fl pa
 case neg =>
  simp only [decide_eq_false h1, Bool.false_eq_true, if_false]
  exact out
 simp only [decide_eq_true h1, if_true]
 have hf := h1.f
 have hp := h1.p
 refine Ev.bnd (Valid_f fl pa (by omega) h1.wb) ?_
 by_cases hM : Market fl pa
 case neg =>
  simp only [decide_eq_false hM, Bool.false_eq_true, if_false]
  exact out
 simp only [decide_eq_true hM, if_true]
 by_cases h2 : (ms.length : Int) > 30
 ·simp only [h2, if_true]; exact out
 simp only [h2, if_false]
 by_cases h3 : (gs.length : Int) > 30
 ·rw [decide_eq_true h3]; exact out
 rw [decide_eq_false h3]
 refine Ev.step ?_
 have e0 := Next_f (ms := []) (gs := []) h1 (by simp) (by simp)
 rw [next_same hM] at e0
 simp only [cohousinglaw26_ChainNext.j0, Bool.false_eq_true, if_false, e0, Option.bind_some, if_true]
 refine Ev.bnd (Same_f fl pa fl pa (by omega) (by omega) h1.wb) ?_
 rw [decide_eq_true ⟨rfl, rfl⟩]
 refine Ev.step ?_
 have e1 := Next_f (ms := ms) (gs := gs) h1 (by omega) (by omega)
 simp only [cohousinglaw26_ChainNext.j1, Bool.not_true, Bool.false_eq_true, if_false, e1, Option.bind_some]
 rw [nextR_eq]
 by_cases h4 : Market fl pa ∧ MovesV fl pa ms ∧ GoneV pa gs
 case neg =>
  simp only [h4, if_false, if_true, show ¬ ((1 : Int) = 0) by omega, List.length_nil, show (wrap64 (((0 : Nat) : Int) + ((0 : Nat) : Int)) == 0) = true by simp [wrap64]]
  exact Ev.pure _
 simp only [h4, and_self, if_true]
 by_cases h5 : Dist ms gs pa pa.length
 case neg =>
  simp only [h5, if_false, if_true, show ¬ ((22 : Int) = 0) by omega, List.length_nil, show (wrap64 (((0 : Nat) : Int) + ((0 : Nat) : Int)) == 0) = true by simp [wrap64]]
  exact Ev.pure _
 have hV := h4.2.1
 have hG := h4.2.2
 have hK := market_kept hM hV h5
 have e4 := Valid26_f (few_kept (ms := ms) (gs := gs) h1)
 rw [decide_eq_true hK] at e4
 have hcnt := stay_count hM hG
 have hlen : (((kept ms gs pa pa.length).length : Int) != wrap64 ((pa.length : Int) - (gs.length : Int))) = false := by
  rw [bne_eq_false_iff_eq, kept_len]
  unfold wrap64
  omega
 simp only [h5, if_true, e4, Option.bind_some, hlen]
 refine Ev.step ?_
 simp only [cohousinglaw26_ChainNext.j2, Bool.false_eq_true, if_false]
 have key : ∀ i, i ≤ pa.length → Ev (fun k => cohousinglaw26_ChainNext.l0 k ms gs true ((kept ms gs pa i).length : Int) (i : Int) fl pa fl (kept ms gs pa pa.length)) true := by
  refine loopUp pa.length _ ?_ ?_
  ·have c1 : ¬ (((pa.length : Nat) : Int) < (pa.length : Int)) := by omega
   refine Ev.step ?_
   simp only [cohousinglaw26_ChainNext.l0, c1, if_false]
   exact Ev.pure _
  ·intro i hi ih
   have c1 : (i : Int) < (pa.length : Int) := by omega
   have c2 : (0 : Int) ≤ (i : Int) := by omega
   have hw := wrap_nat (show i ≤ 140737488355328 by omega)
   refine Ev.step ?_
   simp only [cohousinglaw26_ChainNext.l0, c1, c2, if_true]
   refine Ev.bnd (In_f gs (pid pa i) (by omega)) ?_
   by_cases hg : pid pa i ∈ gs
   ·have hg' := (inR_pos gs (pid pa i)).2 hg
    simp only [hg', if_true, hw]
    rw [kept_stop ms gs pa hg] at ih
    exact ih
   ·have hg' : ¬ (inR gs (pid pa i) ≥ 0) := fun h => hg ((inR_pos gs (pid pa i)).1 h)
    simp only [hg', if_false]
    have loop : ∀ m, m ≤ ms.length → Ev (fun k => cohousinglaw26_ChainNext.l1 k ms gs true ((kept ms gs pa i).length : Int) (i : Int) ((toM ms m (pid pa i)).getD (pfl pa i)) (m : Int) fl pa fl (kept ms gs pa pa.length) (pid pa i) (pfl pa i) (pwt pa i)) true := by
     refine loopUp ms.length _ ?_ ?_
     ·have d1 : ¬ (((ms.length : Nat) : Int) < (ms.length : Int)) := by omega
      obtain ⟨t, et⟩ := kept_pre ms gs pa hi hg
      have d2 : (0 : Int) ≤ ((kept ms gs pa i).length : Int) := by omega
      have d3' : (kept ms gs pa i).length < (kept ms gs pa pa.length).length := by rw [et, List.length_append, List.length_cons]; omega
      have d3 : ((kept ms gs pa i).length : Int) < ((kept ms gs pa pa.length).length : Int) := by omega
      have d4 : rd_T46 (kept ms gs pa pa.length) ((kept ms gs pa i).length : Int) = newP ms pa i := by
       rw [pa_get _ _ d3']
       simp [et]
      have hkl : (kept ms gs pa i).length ≤ 140737488355328 := by have := kept_len ms gs pa i; have := stay_len gs pa i; omega
      refine Ev.step ?_
      simp only [cohousinglaw26_ChainNext.l1, d1, d2, d3, d4, if_true, if_false, newP]
      simp only [show flA ms pa i = (toM ms ms.length (pid pa i)).getD (pfl pa i) from rfl, if_true]
      refine Ev.bnd (SameInts_f (pwt pa i) (pwt pa i) (by have := h1.w i hi; omega)) ?_
      simp only [decide_true, if_true, wrap_nat hkl, hw]
      rw [kept_next ms gs pa hg] at ih
      exact ih
     ·intro m hm ihm
      have d1 : (m : Int) < (ms.length : Int) := by omega
      have d2 : (0 : Int) ≤ (m : Int) := by omega
      have hw2 := wrap_nat (show m ≤ 140737488355328 by omega)
      rw [toM_succ] at ihm
      unfold upd at ihm
      refine Ev.step ?_
      by_cases e : (rd_T51 ms (m : Int)).f0 = pid pa i
      ·rw [if_pos e.symm] at ihm
       simp only [cohousinglaw26_ChainNext.l1, d1, d2, e, if_true, hw2]
       exact ihm
      ·rw [if_neg (fun h => e h.symm)] at ihm
       simp only [cohousinglaw26_ChainNext.l1, d1, d2, e, if_true, if_false, hw2]
       exact ihm
    exact loop 0 (by omega)
 exact key 0 (by omega)
end Go.Proofs.Ytocbiggglnpeoaa.P
end
