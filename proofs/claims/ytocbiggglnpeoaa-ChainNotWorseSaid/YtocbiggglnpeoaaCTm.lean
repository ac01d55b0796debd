/- Part 13 of the base that the seat's proofs share: words, walks and plain laws. -/
import Derived.ArgAppend
import Derived.Below
import Derived.BigQuiet
import Derived.ChangeOld
import Derived.ChangeSlices
import Derived.Deep.AppendLies
import Derived.Deep.CutBlock
import Derived.Deep.DeepCutAuto
import Derived.Deep.Draws
import Derived.Deep.LoopGhost
import Derived.Deep.OwnRows
import Derived.Deep.QuietTactic
import Derived.Deep.RegionHeld3
import Derived.Deep.Slices
import Derived.KernelRfl
import Derived.Laws.BitsLemmas
import Derived.Laws.BytesArg
import Derived.Laws.IdiomCopy
import Derived.Laws.MakeOwn
import Derived.Laws.OwnMore
import Derived.Laws.Rows
import Derived.Laws.Slices
import Derived.Laws.StructEq
import Derived.Lib.AppendStr
import Derived.Lib.BufferOwn
import Derived.Lib.ConvBytes
import Derived.Lib.SliceRun
import Derived.LoopIn
import Derived.LoopNIn
import Derived.Maps.AppendAt
import Derived.Maps.Own
import Derived.OpenShut
import Derived.OrdersHeld
import Derived.OwnWalk
import Derived.OwnWalkIn
import Derived.ProofKit
import Derived.RangeFuncBound
import Derived.RangeFuncCalls
import Derived.RangeFuncLeaves
import Derived.RangeFuncNested
import Derived.RowKit
import Derived.RowKit3
import Derived.ShutString
import Derived.SizedLaws
import Derived.Tactics
import Derived.TacticsInMore
import Derived.Test.YtocbiggglnpeoaaProg
import Derived.WalkKit
import Derived.WideLaws
import Derived.Test.YtocbiggglnpeoaaCTl
set_option linter.unusedVariables false
set_option linter.unusedSimpArgs false
section
namespace Go.Proofs.Ytocbiggglnpeoaa.P
open Go.RowKit Go.Proofs.YtocbiggglnpeoaaW.PrintWords Go.Proofs.YtocbiggglnpeoaaW.PrintLast Go.Proofs.YtocbiggglnpeoaaW.PrintMore Go.Proofs.YtocbiggglnpeoaaH
open Classical
theorem loopUp (n : Nat) (P : Nat → Prop) (h0 : P n) (hs : ∀ i, i < n → P (i + 1) → P i) : ∀ i, i ≤ n → P i := by
 have key : ∀ d i, i + d = n → P i := by
  intro d
  induction d with
  | zero => intro i hi; rw [show i = n by omega]; exact h0
  | succ d ih => intro i hi; exact hs i (by omega) (ih (i + 1) (by omega))
 exact fun i hi => key (n - i) i (by omega)
def firstI (p : Nat → Bool) : Nat → Nat → Int
 | 0, _ => -1
 | d + 1, i => if p i = true then (i : Int) else firstI p d (i + 1)
theorem firstI_is (p : Nat → Bool) : ∀ d i, (firstI p d i = -1 ∧ ∀ j, i ≤ j → j < i + d → p j = false) ∨ ∃ j, i ≤ j ∧ j < i + d ∧ p j = true ∧ (∀ m, i ≤ m → m < j → p m = false) ∧ firstI p d i = j := by
 intro d
 induction d with
 | zero => intro i; exact .inl ⟨rfl, fun j h1 h2 => absurd h2 (by omega)⟩
 | succ d ih =>
  intro i
  unfold firstI
  by_cases h : p i = true
  ·rw [if_pos h]
   exact .inr ⟨i, Nat.le_refl _, by omega, h, fun m h1 h2 => absurd h2 (by omega), rfl⟩
  ·rw [if_neg h]
   have hf : p i = false := by cases hx : p i with | false => rfl | true => exact absurd hx h
   rcases ih (i + 1) with ⟨e, ha⟩ | ⟨j, h1, h2, h3, h4, e⟩
   ·refine .inl ⟨e, fun j h1 h2 => ?_⟩
    by_cases hj : j = i
    ·rw [hj]; exact hf
    ·exact ha j (by omega) (by omega)
   ·refine .inr ⟨j, by omega, by omega, h3, fun m hm1 hm2 => ?_, e⟩
    by_cases hj : m = i
    ·rw [hj]; exact hf
    ·exact h4 m (by omega) hm2
def inR (l : List Int) (x : Int) : Int := firstI (fun j => rd l (j : Int) == x) l.length 0
theorem inR_is (l : List Int) (x : Int) : (inR l x = -1 ∧ ∀ j, j < l.length → rd l (j : Int) ≠ x) ∨ ∃ j : Nat, j < l.length ∧ rd l (j : Int) = x ∧ (∀ m : Nat, m < j → rd l (m : Int) ≠ x) ∧ inR l x = j := by
 rcases firstI_is (fun j => rd l (j : Int) == x) l.length 0 with ⟨e, h⟩ | ⟨j, _, h2, h3, h4, e⟩
 ·exact .inl ⟨e, fun j hj => beq_eq_false_iff_ne.1 (h j (by omega) (by omega))⟩
 ·exact .inr ⟨j, by omega, eq_of_beq h3, fun m hm => beq_eq_false_iff_ne.1 (h4 m (by omega) hm), e⟩
theorem inR_pos (l : List Int) (x : Int) : inR l x ≥ 0 ↔ x ∈ l := by
 rcases inR_is l x with ⟨e, h⟩ | ⟨j, h1, h2, _, e⟩
 ·rw [e]
  constructor
  ·intro h; omega
  ·intro hm
   obtain ⟨j, hj, e2⟩ := List.mem_iff_getElem.1 hm
   exact absurd ((rd_get l j hj).trans e2) (h j hj)
 ·rw [e]
  exact ⟨fun _ => by rw [← h2, rd_get l j h1]; exact List.getElem_mem h1, fun _ => by omega⟩
theorem inR_neg (l : List Int) (x : Int) : inR l x < 0 ↔ x ∉ l := by
 rw [← inR_pos]
 constructor
 ·intro h; omega
 ·intro h; omega
theorem In_f (l : List Int) (x : Int) (hB : l.length ≤ 140737488355328) : Ev (fun k => cohousingref23_In.f k l x) (inR l x) := by
 have key : ∀ d i, i + d = l.length → Ev (fun k => cohousingref23_In.l0 k l x (i : Int)) (firstI (fun j => rd l (j : Int) == x) d i) := by
  intro d
  induction d with
  | zero =>
   intro i hi
   have h1 : ¬ ((i : Int) < (l.length : Int)) := by omega
   refine Ev.step ?_
   simp only [cohousingref23_In.l0, h1, if_false]
   exact Ev.pure _
  | succ d ih =>
   intro i hi
   have h1 : (i : Int) < (l.length : Int) := by omega
   have h2 : (0 : Int) ≤ (i : Int) := by omega
   refine Ev.step ?_
   unfold firstI
   by_cases h : rd l (i : Int) = x
   ·simp only [cohousingref23_In.l0, h1, h2, h, if_true, beq_self_eq_true]
    exact Ev.pure _
   ·have hb : (rd l (i : Int) == x) = false := beq_eq_false_iff_ne.2 h
    simp only [cohousingref23_In.l0, h1, h2, h, if_true, if_false, hb, Bool.false_eq_true, wrap_nat (show i ≤ 140737488355328 by omega)]
    exact ih (i + 1) (by omega)
 exact key l.length 0 (by omega)
theorem Has_f (l : List FT) (x : Int) (hB : l.length ≤ 140737488355328) : Ev (fun k => cohousingref23_Has.f k l x) (decide (HasF l x)) := by
 have key : ∀ i, i ≤ l.length → ((∀ j, j < i → fid l j ≠ x) → Ev (fun k => cohousingref23_Has.l0 k l x (i : Int)) (decide (HasF l x))) := by
  refine loopUp l.length _ ?_ ?_
  ·intro hn
   have h1 : ¬ (((l.length : Nat) : Int) < (l.length : Int)) := by omega
   refine Ev.step ?_
   simp only [cohousingref23_Has.l0, h1, if_false]
   rw [decide_eq_false (fun ⟨j, hj, e⟩ => hn j hj e)]
   exact Ev.pure _
  ·intro i hi ih hn
   have h1 : (i : Int) < (l.length : Int) := by omega
   have h2 : (0 : Int) ≤ (i : Int) := by omega
   refine Ev.step ?_
   by_cases h : (rd_T84 l (i : Int)).f0 = x
   ·simp only [cohousingref23_Has.l0, h1, h2, h, if_true]
    rw [decide_eq_true ⟨i, hi, h⟩]
    exact Ev.pure _
   ·simp only [cohousingref23_Has.l0, h1, h2, h, if_true, if_false, wrap_nat (show i ≤ 140737488355328 by omega)]
    refine ih (fun j hj => ?_)
    by_cases e : j = i
    ·rw [e]; exact h
    ·exact hn j (by omega)
 exact key 0 (by omega) (fun j hj => absurd hj (Nat.not_lt_zero _))
theorem wrap_pred {i : Nat} (h0 : 0 < i) (h : i ≤ 140737488355328) : wrap64 ((i : Int) - 1) = ((i - 1 : Nat) : Int) := by unfold wrap64; omega
theorem Flats_f (l : List FT) : Ev (fun k => cohousingref23_Flats.f k l) (decide (FlatsV l)) := by
 unfold cohousingref23_Flats.f
 by_cases hl : (l.length : Int) > 64
 ·simp only [hl, if_true]
  rw [decide_eq_false (fun h => by have := h.len; omega)]
  exact Ev.pure _
 simp only [hl, if_false]
 have hB : l.length ≤ 64 := by omega
 have key : ∀ i, i ≤ l.length → ((∀ j, j < i → flatAt l j = true) → Ev (fun k => cohousingref23_Flats.l0 k l (i : Int)) (decide (FlatsV l))) := by
  refine loopUp l.length _ ?_ ?_
  ·intro hn
   have h1 : ¬ (((l.length : Nat) : Int) < (l.length : Int)) := by omega
   refine Ev.step ?_
   simp only [cohousingref23_Flats.l0, h1, if_false]
   rw [decide_eq_true ((flatsOk_iff l).1 (flatsOk_true hn))]
   exact Ev.pure _
  ·intro i hi ih hn
   have h1 : (i : Int) < (l.length : Int) := by omega
   have h2 : (0 : Int) ≤ (i : Int) := by omega
   have bad : flatAt l i = false → decide (FlatsV l) = false := fun h => decide_eq_false (fun hv => by
    have := (flatsOk_iff l).2 hv
    rw [flatsOk_false hi h] at this
    cases this)
   have fa : ∀ P : Prop, (P → ¬ (lastF l i < (rd_T84 l (i : Int)).f0 ∧ (rd_T84 l (i : Int)).f0 ≤ 64 ∧ 1 ≤ (rd_T84 l (i : Int)).f1 ∧ (rd_T84 l (i : Int)).f1 ≤ 10)) → P → decide (FlatsV l) = false := fun P h hP => bad (decide_eq_false (h hP))
   have lo : 0 ≤ lastF l i := by
    unfold lastF
    by_cases e : i = 0
    ·rw [if_pos e]; exact Int.le_refl _
    ·rw [if_neg e]
     have := of_decide_eq_true (hn (i - 1) (by omega))
     have h3 : 0 ≤ lastF l (i - 1) ∨ True := .inr trivial
     have : ∀ m, m < i → 0 < (rd_T84 l (m : Int)).f0 := by
      intro m
      induction m with
      | zero => intro hm; have := (of_decide_eq_true (hn 0 hm)).1; simpa [lastF] using this
      | succ m ihm => intro hm; have h4 := ihm (by omega); have h5 := (of_decide_eq_true (hn (m + 1) hm)).1; rw [lastF_succ] at h5; omega
     have := this (i - 1) (by omega)
     omega
   refine Ev.step ?_
   by_cases c1 : (rd_T84 l (i : Int)).f0 < 1
   ·simp only [cohousingref23_Flats.l0, h1, h2, c1, if_true]
    rw [fa _ (fun h => by omega) c1]
    exact Ev.pure _
   by_cases c2 : (rd_T84 l (i : Int)).f0 > 64
   ·simp only [cohousingref23_Flats.l0, h1, h2, c1, c2, if_true, if_false]
    rw [fa _ (fun h => by omega) c2]
    exact Ev.pure _
   have tail : lastF l i < (rd_T84 l (i : Int)).f0 → Ev (fun k => if ((rd_T84 l (i : Int)).f1) < 1 then (some false) else (if ((rd_T84 l (i : Int)).f1) > 10 then (some false) else (cohousingref23_Flats.l0 k l (wrap64 ((i : Int) + 1))))) (decide (FlatsV l)) := by
    intro hlast
    by_cases c3 : (rd_T84 l (i : Int)).f1 < 1
    ·simp only [c3, if_true]
     rw [fa _ (fun h => by omega) c3]
     exact Ev.pure _
    by_cases c4 : (rd_T84 l (i : Int)).f1 > 10
    ·simp only [c3, c4, if_true, if_false]
     rw [fa _ (fun h => by omega) c4]
     exact Ev.pure _
    simp only [c3, c4, if_false, wrap_nat (show i ≤ 140737488355328 by omega)]
    refine ih (fun j hj => ?_)
    by_cases e : j = i
    ·rw [e]; exact decide_eq_true ⟨hlast, by omega, by omega, by omega⟩
    ·exact hn j (by omega)
   by_cases c5 : 0 < i
   ·have h3 : (i : Int) > 0 := by omega
    have h4 : (0 : Int) ≤ ((i - 1 : Nat) : Int) := by omega
    have h5 : ((i - 1 : Nat) : Int) < (l.length : Int) := by omega
    have hla : lastF l i = (rd_T84 l ((i - 1 : Nat) : Int)).f0 := by unfold lastF; rw [if_neg (by omega)]
    by_cases c6 : (rd_T84 l (i : Int)).f0 ≤ (rd_T84 l ((i - 1 : Nat) : Int)).f0
    ·simp only [cohousingref23_Flats.l0, h1, h2, c1, c2, h3, wrap_pred c5 (show i ≤ 140737488355328 by omega), h4, h5, c6, if_true, if_false]
     rw [fa _ (fun h => by omega) c6]
     exact Ev.pure _
    ·simp only [cohousingref23_Flats.l0, h1, h2, c1, c2, h3, wrap_pred c5 (show i ≤ 140737488355328 by omega), h4, h5, c6, if_true, if_false]
     exact tail (by omega)
   ·have h3 : ¬ ((i : Int) > 0) := by omega
    simp only [cohousingref23_Flats.l0, h1, h2, c1, c2, h3, if_true, if_false]
    exact tail (by unfold lastF; rw [if_pos (by omega)]; omega)
 exact key 0 (by omega) (fun j hj => absurd hj (Nat.not_lt_zero _))
def PartyV (fl : List FT) (pa : List PT) (n : Nat) : Prop :=
 (1 ≤ pid pa n ∧ pid pa n ≤ 64 ∧ (0 < n → pid pa (n - 1) < pid pa n)) ∧ (pfl pa n ≠ 0 → HasF fl (pfl pa n) ∧ ∀ j, j < n → pfl pa j ≠ pfl pa n) ∧ (∀ k, k < (pwt pa n).length → HasF fl (rd (pwt pa n) (k : Int))) ∧ (∀ j k, j < k → k < (pwt pa n).length → rd (pwt pa n) (j : Int) ≠ rd (pwt pa n) (k : Int))
theorem market_party {fl : List FT} {pa : List PT} (hf : FlatsV fl) (h : ∀ n, n < pa.length → PartyV fl pa n) : Market fl pa := by
 have ha := asc_adj (pid pa) 0 pa.length
 obtain ⟨h1, h2⟩ := ha.1 (fun n hn => by
  have := (h n hn).1
  by_cases e : n = 0
  ·rw [if_pos e]; omega
  ·rw [if_neg e]; exact this.2.2 (by omega))
 exact ⟨hf, h2, fun i hi => ⟨(h i hi).1.1, (h i hi).1.2.1⟩, fun i hi h0 => ((h i hi).2.1 h0).1, fun i j hij hj h0 => ((h j hj).2.1 h0).2 i hij, fun i hi => (h i hi).2.2.1, fun i hi => (h i hi).2.2.2⟩
theorem party_market {fl : List FT} {pa : List PT} (h : Market fl pa) {n : Nat} (hn : n < pa.length) : PartyV fl pa n :=
 ⟨⟨(h.rng n hn).1, (h.rng n hn).2, fun h0 => h.asc (n - 1) n (by omega) hn⟩, fun h0 => ⟨h.own n hn h0, fun j hj => h.dis j n hj hn h0⟩, h.wnt n hn, h.wdis n hn⟩
def WB (pa : List PT) : Prop := ∀ i, i < pa.length → (pwt pa i).length ≤ 140737488355328
theorem Valid_f (fl : List FT) (pa : List PT) (hF : fl.length ≤ 140737488355328) (hW : WB pa) : Ev (fun k => cohousingref23_Valid.f k fl pa) (decide (Market fl pa)) := by
 unfold cohousingref23_Valid.f
 refine Ev.bnd (Flats_f fl) ?_
 have out : ¬ Market fl pa → Ev (fun k => cohousingref23_Valid.j0 k true fl pa) (decide (Market fl pa)) := fun h => by
  rw [decide_eq_false h]
  refine Ev.step ?_
  simp only [cohousingref23_Valid.j0, if_true]
  exact Ev.pure _
 by_cases hf : FlatsV fl
 ·simp only [decide_eq_true hf, if_true]
  by_cases hl : (pa.length : Int) > 64
  ·rw [decide_eq_true hl]
   exact out (fun h => by have := h.len; omega)
  ·rw [decide_eq_false hl]
   have hB : pa.length ≤ 64 := by omega
   refine Ev.step ?_
   simp only [cohousingref23_Valid.j0, Bool.false_eq_true, if_false]
   have key : ∀ i, i ≤ pa.length → ((∀ j, j < i → PartyV fl pa j) → Ev (fun k => cohousingref23_Valid.l0 k (i : Int) fl pa) (decide (Market fl pa))) := by
    refine loopUp pa.length _ ?_ ?_
    ·intro hn
     have h1 : ¬ (((pa.length : Nat) : Int) < (pa.length : Int)) := by omega
     refine Ev.step ?_
     simp only [cohousingref23_Valid.l0, h1, if_false]
     rw [decide_eq_true (market_party hf hn)]
     exact Ev.pure _
    ·intro i hi ih hn
     have h1 : (i : Int) < (pa.length : Int) := by omega
     have h2 : (0 : Int) ≤ (i : Int) := by omega
     have bad : ¬ PartyV fl pa i → decide (Market fl pa) = false := fun h => decide_eq_false (fun hm => h (party_market hm hi))
     have hwi := hW i hi
     have l2 : (1 ≤ pid pa i ∧ pid pa i ≤ 64 ∧ (0 < i → pid pa (i - 1) < pid pa i)) → (pfl pa i ≠ 0 → HasF fl (pfl pa i) ∧ ∀ j, j < i → pfl pa j ≠ pfl pa i) →
       ∀ m, m ≤ (pwt pa i).length → ((∀ k, k < m → HasF fl (rd (pwt pa i) (k : Int)) ∧ ∀ j, j < k → rd (pwt pa i) (j : Int) ≠ rd (pwt pa i) (k : Int)) → Ev (fun k => cohousingref23_Valid.l2 k (i : Int) (m : Int) fl pa (pid pa i) (pfl pa i) (pwt pa i)) (decide (Market fl pa))) := by
      intro g1 g2
      refine loopUp (pwt pa i).length _ ?_ ?_
      ·intro hk
       have c1 : ¬ ((((pwt pa i).length : Nat) : Int) < ((pwt pa i).length : Int)) := by omega
       refine Ev.step ?_
       simp only [cohousingref23_Valid.l2, c1, if_false, wrap_nat (show i ≤ 140737488355328 by omega)]
       refine ih (fun j hj => ?_)
       by_cases e : j = i
       ·rw [e]; exact ⟨g1, g2, fun k hk' => (hk k hk').1, fun a b hab hb => (hk b hb).2 a hab⟩
       ·exact hn j (by omega)
      ·intro m hm ihm hk
       have c1 : (m : Int) < ((pwt pa i).length : Int) := by omega
       have c2 : (0 : Int) ≤ (m : Int) := by omega
       refine Ev.step ?_
       simp only [cohousingref23_Valid.l2, c1, c2, if_true]
       refine Ev.bnd (Has_f fl _ hF) ?_
       by_cases c3 : HasF fl (rd (pwt pa i) (m : Int))
       ·simp only [decide_eq_true c3, if_true]
        refine Ev.bnd (In_f (pwt pa i) _ hwi) ?_
        rcases inR_is (pwt pa i) (rd (pwt pa i) (m : Int)) with ⟨e, hno⟩ | ⟨j, hj, e1, e2, e3⟩
        ·exact absurd rfl (hno m hm)
        ·rw [e3]
         have hjm : j ≤ m := by
          rcases Nat.lt_or_ge m j with h | h
          ·exact absurd rfl (e2 m h)
          ·exact h
         by_cases c4 : j = m
         ·subst c4
          simp only [if_true, wrap_nat (show j ≤ 140737488355328 by omega)]
          refine ihm (fun k hk' => ?_)
          by_cases e : k = j
          ·subst e; exact ⟨c3, e2⟩
          ·exact hk k (by omega)
         ·have c5 : ¬ ((j : Int) = (m : Int)) := by omega
          simp only [c5, if_false]
          rw [bad (fun h => h.2.2.2 j m (by omega) hm e1)]
          exact Ev.pure _
       ·simp only [decide_eq_false c3, Bool.false_eq_true, if_false]
        rw [bad (fun h => c3 (h.2.2.1 m hm))]
        exact Ev.pure _
     have l1 : (1 ≤ pid pa i ∧ pid pa i ≤ 64 ∧ (0 < i → pid pa (i - 1) < pid pa i)) → (pfl pa i ≠ 0 → HasF fl (pfl pa i)) →
       ∀ m, m ≤ i → ((pfl pa i ≠ 0 → ∀ j, j < m → pfl pa j ≠ pfl pa i) → Ev (fun k => cohousingref23_Valid.l1 k (i : Int) (m : Int) fl pa (pid pa i) (pfl pa i) (pwt pa i)) (decide (Market fl pa))) := by
      intro g1 g2
      refine loopUp i _ ?_ ?_
      ·intro hk
       have c1 : ¬ ((i : Int) < (i : Int)) := by omega
       refine Ev.step ?_
       simp only [cohousingref23_Valid.l1, c1, if_false]
       exact l2 g1 (fun h0 => ⟨g2 h0, hk h0⟩) 0 (by omega) (fun k hk => absurd hk (Nat.not_lt_zero _))
      ·intro m hm ihm hk
       have c1 : (m : Int) < (i : Int) := by omega
       have c2 : (0 : Int) ≤ (m : Int) := by omega
       have c3 : (m : Int) < (pa.length : Int) := by omega
       refine Ev.step ?_
       by_cases c4 : pfl pa i = 0
       ·have c4' : (rd_T46 pa (i : Int)).f1 = 0 := c4
        simp only [cohousingref23_Valid.l1, c1, c4', if_true, wrap_nat (show m ≤ 140737488355328 by omega)]
        rw [← c4']
        exact ihm (fun h0 => absurd c4 h0)
       ·have c4' : ¬ ((rd_T46 pa (i : Int)).f1 = 0) := c4
        by_cases c5 : (rd_T46 pa (m : Int)).f1 = (rd_T46 pa (i : Int)).f1
        ·simp only [cohousingref23_Valid.l1, c1, c2, c3, c4', c5, if_true, if_false]
         rw [bad (fun h => (h.2.1 c4).2 m hm c5)]
         exact Ev.pure _
        ·simp only [cohousingref23_Valid.l1, c1, c2, c3, c4', c5, if_true, if_false, wrap_nat (show m ≤ 140737488355328 by omega)]
         refine ihm (fun h0 j hj => ?_)
         by_cases e : j = m
         ·rw [e]; exact c5
         ·exact hk h0 j (by omega)
     have j2t : ¬ (1 ≤ pid pa i ∧ pid pa i ≤ 64 ∧ (0 < i → pid pa (i - 1) < pid pa i)) → Ev (fun k => cohousingref23_Valid.j2 k (i : Int) true fl pa (pid pa i) (pfl pa i) (pwt pa i)) (decide (Market fl pa)) := by
      intro g
      refine Ev.step ?_
      simp only [cohousingref23_Valid.j2, if_true]
      rw [bad (fun h => g h.1)]
      exact Ev.pure _
     have j2f : (1 ≤ pid pa i ∧ pid pa i ≤ 64 ∧ (0 < i → pid pa (i - 1) < pid pa i)) → Ev (fun k => cohousingref23_Valid.j2 k (i : Int) false fl pa (pid pa i) (pfl pa i) (pwt pa i)) (decide (Market fl pa)) := by
      intro g
      refine Ev.step ?_
      simp only [cohousingref23_Valid.j2, Bool.false_eq_true, if_false]
      refine Ev.bnd (Has_f fl _ hF) ?_
      have j3f : (pfl pa i ≠ 0 → HasF fl (pfl pa i)) → Ev (fun k => cohousingref23_Valid.j3 k (i : Int) false fl pa (pid pa i) (pfl pa i) (pwt pa i)) (decide (Market fl pa)) := fun g2 => by
       refine Ev.step ?_
       simp only [cohousingref23_Valid.j3, Bool.false_eq_true, if_false]
       exact l1 g g2 0 (by omega) (fun _ j hj => absurd hj (Nat.not_lt_zero _))
      by_cases c4 : pfl pa i = 0
      ·have c4' : (rd_T46 pa (i : Int)).f1 = 0 := c4
       simp only [c4', if_true]
       have := j3f (fun h => absurd c4 h)
       simp only [pfl, c4'] at this
       exact this
      ·have c4' : ¬ ((rd_T46 pa (i : Int)).f1 = 0) := c4
       simp only [c4', if_false]
       by_cases c5 : HasF fl (pfl pa i)
       ·rw [decide_eq_true c5]
        exact j3f (fun _ => c5)
       ·rw [decide_eq_false c5]
        refine Ev.step ?_
        simp only [cohousingref23_Valid.j3, Bool.not_false, if_true]
        rw [bad (fun h => c5 (h.2.1 c4).1)]
        exact Ev.pure _
     refine Ev.step ?_
     by_cases c1 : (rd_T46 pa (i : Int)).f0 < 1
     ·simp only [cohousingref23_Valid.l0, h1, h2, c1, if_true]
      exact j2t (fun h => by have := h.1; simp only [pid] at this; omega)
     by_cases c2 : (rd_T46 pa (i : Int)).f0 > 64
     ·simp only [cohousingref23_Valid.l0, h1, h2, c1, c2, if_true, if_false]
      exact j2t (fun h => by have := h.2.1; simp only [pid] at this; omega)
     by_cases c5 : 0 < i
     ·have h3 : (i : Int) > 0 := by omega
      have h4 : (0 : Int) ≤ ((i - 1 : Nat) : Int) := by omega
      have h5 : ((i - 1 : Nat) : Int) < (pa.length : Int) := by omega
      simp only [cohousingref23_Valid.l0, h1, h2, c1, c2, h3, wrap_pred c5 (show i ≤ 140737488355328 by omega), h4, h5, if_true, if_false]
      by_cases c6 : (rd_T46 pa (i : Int)).f0 ≤ (rd_T46 pa ((i - 1 : Nat) : Int)).f0
      ·rw [decide_eq_true c6]
       exact j2t (fun h => by have := h.2.2 c5; simp only [pid] at this; omega)
      ·rw [decide_eq_false c6]
       exact j2f ⟨by simp only [pid]; omega, by simp only [pid]; omega, fun _ => by simp only [pid]; omega⟩
     ·have h3 : ¬ ((i : Int) > 0) := by omega
      simp only [cohousingref23_Valid.l0, h1, h2, c1, c2, h3, if_true, if_false]
      exact j2f ⟨by simp only [pid]; omega, by simp only [pid]; omega, fun h => absurd h c5⟩
   exact key 0 (by omega) (fun j hj => absurd hj (Nat.not_lt_zero _))
 ·simp only [decide_eq_false hf, Bool.false_eq_true, if_false]
  exact out (fun h => hf h.flv)
structure FewM (fl : List FT) (pa : List PT) : Prop where
 f : fl.length ≤ 20
 p : pa.length ≤ 20
 w : ∀ i, i < pa.length → (pwt pa i).length ≤ 30
theorem FewM_f (fl : List FT) (pa : List PT) : Ev (fun k => cohousingref23_Few.f k fl pa) (decide (FewM fl pa)) := by
 unfold cohousingref23_Few.f
 have out : ¬ FewM fl pa → Ev (fun k => cohousingref23_Few.j0 k true fl pa) (decide (FewM fl pa)) := fun h => by
  rw [decide_eq_false h]
  refine Ev.step ?_
  simp only [cohousingref23_Few.j0, if_true]
  exact Ev.pure _
 by_cases h1 : (fl.length : Int) > 20
 ·simp only [h1, if_true]
  exact out (fun h => by have := h.f; omega)
 simp only [h1, if_false]
 by_cases h2 : (pa.length : Int) > 20
 ·rw [decide_eq_true h2]
  exact out (fun h => by have := h.p; omega)
 rw [decide_eq_false h2]
 refine Ev.step ?_
 simp only [cohousingref23_Few.j0, Bool.false_eq_true, if_false]
 have key : ∀ i, i ≤ pa.length → ((∀ j, j < i → (pwt pa j).length ≤ 30) → Ev (fun k => cohousingref23_Few.l0 k (i : Int) fl pa) (decide (FewM fl pa))) := by
  refine loopUp pa.length _ ?_ ?_
  ·intro hn
   have c1 : ¬ (((pa.length : Nat) : Int) < (pa.length : Int)) := by omega
   refine Ev.step ?_
   simp only [cohousingref23_Few.l0, c1, if_false]
   rw [decide_eq_true ⟨by omega, by omega, hn⟩]
   exact Ev.pure _
  ·intro i hi ih hn
   have c1 : (i : Int) < (pa.length : Int) := by omega
   have c2 : (0 : Int) ≤ (i : Int) := by omega
   refine Ev.step ?_
   by_cases c3 : ((rd_T46 pa (i : Int)).f2.length : Int) > 30
   ·simp only [cohousingref23_Few.l0, c1, c2, c3, if_true]
    rw [decide_eq_false (fun h => by have := h.w i hi; simp only [pwt] at this; omega)]
    exact Ev.pure _
   ·simp only [cohousingref23_Few.l0, c1, c2, c3, if_true, if_false, wrap_nat (show i ≤ 140737488355328 by omega)]
    refine ih (fun j hj => ?_)
    by_cases e : j = i
    ·rw [e]; simp only [pwt]; omega
    ·exact hn j (by omega)
 exact key 0 (by omega) (fun j hj => absurd hj (Nat.not_lt_zero _))
theorem FewM.wb {fl : List FT} {pa : List PT} (h : FewM fl pa) : WB pa := fun i hi => by have := h.w i hi; omega
structure FewR (l : List GT) (rs : List YT) : Prop where
 len : l.length ≤ 20
 r : rs.length ≤ 60
 m : ∀ i, i < l.length → (rg l i).f1.length ≤ 30
theorem FewR_f (l : List GT) (rs : List YT) : Ev (fun k => cohousingref26_Few.f k l rs) (decide (FewR l rs)) := by
 unfold cohousingref26_Few.f
 have out : ¬ FewR l rs → Ev (fun k => cohousingref26_Few.j0 k l true) (decide (FewR l rs)) := fun h => by
  rw [decide_eq_false h]
  refine Ev.step ?_
  simp only [cohousingref26_Few.j0, if_true]
  exact Ev.pure _
 by_cases h1 : (l.length : Int) > 20
 ·simp only [h1, if_true]
  exact out (fun h => by have := h.len; omega)
 simp only [h1, if_false]
 by_cases h2 : (rs.length : Int) > 60
 ·rw [decide_eq_true h2]
  exact out (fun h => by have := h.r; omega)
 rw [decide_eq_false h2]
 refine Ev.step ?_
 simp only [cohousingref26_Few.j0, Bool.false_eq_true, if_false]
 have key : ∀ i, i ≤ l.length → ((∀ j, j < i → (rg l j).f1.length ≤ 30) → Ev (fun k => cohousingref26_Few.l0 k l (i : Int)) (decide (FewR l rs))) := by
  refine loopUp l.length _ ?_ ?_
  ·intro hn
   have c1 : ¬ (((l.length : Nat) : Int) < (l.length : Int)) := by omega
   refine Ev.step ?_
   simp only [cohousingref26_Few.l0, c1, if_false]
   rw [decide_eq_true ⟨by omega, by omega, hn⟩]
   exact Ev.pure _
  ·intro i hi ih hn
   have c1 : (i : Int) < (l.length : Int) := by omega
   have c2 : (0 : Int) ≤ (i : Int) := by omega
   refine Ev.step ?_
   by_cases c3 : ((rd_T49 l (i : Int)).f1.length : Int) > 30
   ·simp only [cohousingref26_Few.l0, c1, c2, c3, if_true]
    rw [decide_eq_false (fun h => by have := h.m i hi; simp only [rg] at this; omega)]
    exact Ev.pure _
   ·simp only [cohousingref26_Few.l0, c1, c2, c3, if_true, if_false, wrap_nat (show i ≤ 140737488355328 by omega)]
    refine ih (fun j hj => ?_)
    by_cases e : j = i
    ·rw [e]; simp only [rg]; omega
    ·exact hn j (by omega)
 exact key 0 (by omega) (fun j hj => absurd hj (Nat.not_lt_zero _))
end Go.Proofs.Ytocbiggglnpeoaa.P
end
section
namespace Go.Proofs.Ytocbiggglnpeoaa.P
open Go.RowKit Go.Proofs.YtocbiggglnpeoaaW.PrintWords Go.Proofs.YtocbiggglnpeoaaW.PrintLast Go.Proofs.YtocbiggglnpeoaaW.PrintMore Go.Proofs.YtocbiggglnpeoaaH
open Classical
def partyR (pa : List PT) (x : Int) : Int := firstI (fun j => pid pa j == x) pa.length 0
theorem partyR_is (pa : List PT) (x : Int) : (partyR pa x = -1 ∧ ∀ j, j < pa.length → pid pa j ≠ x) ∨ ∃ j : Nat, j < pa.length ∧ pid pa j = x ∧ partyR pa x = j := by
 rcases firstI_is (fun j => pid pa j == x) pa.length 0 with ⟨e, h⟩ | ⟨j, _, h2, h3, h4, e⟩
 ·exact .inl ⟨e, fun j hj => beq_eq_false_iff_ne.1 (h j (by omega) (by omega))⟩
 ·exact .inr ⟨j, by omega, eq_of_beq h3, e⟩
theorem Party_f (fl : List FT) (pa : List PT) (x : Int) (hB : pa.length ≤ 140737488355328) : Ev (fun k => cohousingref26_Party.f k fl pa x) (partyR pa x) := by
 have key : ∀ d i, i + d = pa.length → Ev (fun k => cohousingref26_Party.l0 k x (i : Int) fl pa) (firstI (fun j => pid pa j == x) d i) := by
  intro d
  induction d with
  | zero =>
   intro i hi
   have h1 : ¬ ((i : Int) < (pa.length : Int)) := by omega
   refine Ev.step ?_
   simp only [cohousingref26_Party.l0, h1, if_false]
   exact Ev.pure _
  | succ d ih =>
   intro i hi
   have h1 : (i : Int) < (pa.length : Int) := by omega
   have h2 : (0 : Int) ≤ (i : Int) := by omega
   refine Ev.step ?_
   unfold firstI
   by_cases h : (rd_T46 pa (i : Int)).f0 = x
   ·simp only [cohousingref26_Party.l0, h1, h2, h, if_true, beq_self_eq_true]
    exact Ev.pure _
   ·have hb : ((rd_T46 pa (i : Int)).f0 == x) = false := beq_eq_false_iff_ne.2 h
    simp only [cohousingref26_Party.l0, h1, h2, h, if_true, if_false, hb, Bool.false_eq_true, wrap_nat (show i ≤ 140737488355328 by omega)]
    exact ih (i + 1) (by omega)
 exact key pa.length 0 (by omega)
theorem Free_f (fl : List FT) (pa : List PT) (x : Int) (hB : pa.length ≤ 140737488355328) : Ev (fun k => cohousingref26_Free.f k fl pa x) (decide (Free pa x)) := by
 have key : ∀ i, i ≤ pa.length → ((∀ j, j < i → pfl pa j ≠ x) → Ev (fun k => cohousingref26_Free.l0 k x (i : Int) fl pa) (decide (Free pa x))) := by
  refine loopUp pa.length _ ?_ ?_
  ·intro hn
   have h1 : ¬ (((pa.length : Nat) : Int) < (pa.length : Int)) := by omega
   refine Ev.step ?_
   simp only [cohousingref26_Free.l0, h1, if_false]
   rw [decide_eq_true (show Free pa x from hn)]
   exact Ev.pure _
  ·intro i hi ih hn
   have h1 : (i : Int) < (pa.length : Int) := by omega
   have h2 : (0 : Int) ≤ (i : Int) := by omega
   refine Ev.step ?_
   by_cases h : (rd_T46 pa (i : Int)).f1 = x
   ·simp only [cohousingref26_Free.l0, h1, h2, h, if_true]
    rw [decide_eq_false (fun hf => hf i hi h)]
    exact Ev.pure _
   ·simp only [cohousingref26_Free.l0, h1, h2, h, if_true, if_false, wrap_nat (show i ≤ 140737488355328 by omega)]
    refine ih (fun j hj => ?_)
    by_cases e : j = i
    ·rw [e]; exact h
    ·exact hn j (by omega)
 exact key 0 (by omega) (fun j hj => absurd hj (Nat.not_lt_zero _))
def MoveR (fl : List FT) (pa : List PT) (x : MT) : Prop := ∃ j : Nat, partyR pa x.f0 = j ∧ j < pa.length ∧ pid pa j = x.f0 ∧ pfl pa j = x.f1 ∧ HasF fl x.f2
theorem move_f (fl : List FT) (pa : List PT) (x : MT) (hF : fl.length ≤ 140737488355328) (hB : pa.length ≤ 140737488355328) : Ev (fun k => cohousingref26_move.f k fl pa x.f0 x.f1 x.f2) (decide (MoveR fl pa x)) := by
 unfold cohousingref26_move.f
 refine Ev.bnd (Party_f fl pa x.f0 hB) ?_
 refine Ev.bnd (Has_f fl x.f2 hF) ?_
 rcases partyR_is pa x.f0 with ⟨e, hno⟩ | ⟨j, hj, e1, e⟩
 ·rw [e, decide_eq_false (show ¬ MoveR fl pa x from fun ⟨j, h1, h2, h3, _⟩ => hno j h2 h3)]
  simp only [show ¬ ((-1 : Int) ≥ 0) by omega, if_false]
  exact Ev.pure _
 ·rw [e]
  have h1 : (j : Int) ≥ 0 := by omega
  have h2 : (0 : Int) ≤ (j : Int) := by omega
  have h3 : (j : Int) < (pa.length : Int) := by omega
  by_cases hh : HasF fl x.f2
  ·simp only [h1, h2, h3, decide_eq_true hh, if_true]
   rw [show ((rd_T46 pa (j : Int)).f1 == x.f1) = decide (MoveR fl pa x) from by
    by_cases c : pfl pa j = x.f1
    ·rw [decide_eq_true ⟨j, e, hj, e1, c, hh⟩]; exact beq_iff_eq.2 c
    ·rw [decide_eq_false (fun ⟨j', h1, h2, h3, h4, _⟩ => c (by rw [show j = j' from by omega]; exact h4))]; exact beq_eq_false_iff_ne.2 c]
   exact Ev.pure _
  ·simp only [h1, decide_eq_false hh, if_true, Bool.false_eq_true, if_false]
   rw [decide_eq_false (show ¬ MoveR fl pa x from fun ⟨_, _, _, _, _, h⟩ => hh h)]
   exact Ev.pure _
theorem moveR_iff {fl : List FT} {pa : List PT} (hM : Market fl pa) (x : MT) : MoveR fl pa x ↔ Fits fl pa x := by
 constructor
 ·rintro ⟨j, _, h2, h3, h4, h5⟩
  exact ⟨j, h2, h3, h4, h5⟩
 ·rintro ⟨i, hi, e1, e2, h3⟩
  rcases partyR_is pa x.f0 with ⟨e, hno⟩ | ⟨j, hj, e3, e⟩
  ·exact absurd e1 (hno i hi)
  ·have : i = j := hM.inj hi hj (by rw [e1, e3])
   subst this
   exact ⟨i, e, hi, e1, e2, h3⟩
def ShapeR (pa : List PT) (r : GT) : Prop :=
 0 < r.f1.length ∧ (r.f0 = true → Free pa (mv r.f1 0).f2 ∧ ∀ i, 1 ≤ i → i < r.f1.length → (mv r.f1 i).f2 = (mv r.f1 (i - 1)).f1) ∧
 (r.f0 = false → ∀ i, i < r.f1.length → (mv r.f1 i).f1 ≠ 0 ∧ (mv r.f1 i).f2 = (mv r.f1 ((i + 1) % r.f1.length)).f1)
theorem shape_f (fl : List FT) (pa : List PT) (r : GT) (hB : pa.length ≤ 140737488355328) (hr : r.f1.length ≤ 140737488355328) : Ev (fun k => cohousingref26_shape.f k fl pa r.f0 r.f1) (decide (ShapeR pa r)) := by
 unfold cohousingref26_shape.f
 by_cases h0 : (r.f1.length : Int) = 0
 ·simp only [h0, if_true]
  rw [decide_eq_false (fun h => by have := h.1; omega)]
  exact Ev.pure _
 simp only [h0, if_false]
 have hp : 0 < r.f1.length := by omega
 have hp' : (0 : Int) < (r.f1.length : Int) := by omega
 cases hc : r.f0 with
 | true =>
  simp only [hp', if_true]
  refine Ev.bnd (Free_f fl pa _ hB) ?_
  by_cases hf : Free pa (mv r.f1 0).f2
  ·have hf' : Free pa (rd_T51 r.f1 0).f2 := hf
   simp only [decide_eq_true hf', if_true]
   have key : ∀ i, i ≤ r.f1.length → ((1 ≤ i ∧ ∀ j, 1 ≤ j → j < i → (mv r.f1 j).f2 = (mv r.f1 (j - 1)).f1) → Ev (fun k => cohousingref26_shape.l0 k (r.f1.length : Int) (i : Int) true r.f1) (decide (ShapeR pa r))) := by
    refine loopUp r.f1.length _ ?_ ?_
    ·rintro ⟨_, hn⟩
     have h1 : ¬ (((r.f1.length : Nat) : Int) < (r.f1.length : Int)) := by omega
     refine Ev.step ?_
     simp only [cohousingref26_shape.l0, h1, if_false]
     rw [decide_eq_true (show ShapeR pa r from ⟨hp, fun _ => ⟨hf, hn⟩, fun h => by rw [hc] at h; cases h⟩)]
     exact Ev.pure _
    ·rintro i hi ih ⟨hi1, hn⟩
     have h1 : (i : Int) < (r.f1.length : Int) := by omega
     have h2 : (0 : Int) ≤ (i : Int) := by omega
     have h3 : (0 : Int) ≤ ((i - 1 : Nat) : Int) := by omega
     have h4 : ((i - 1 : Nat) : Int) < (r.f1.length : Int) := by omega
     refine Ev.step ?_
     by_cases h : (rd_T51 r.f1 (i : Int)).f2 = (rd_T51 r.f1 ((i - 1 : Nat) : Int)).f1
     ·simp only [cohousingref26_shape.l0, h1, h2, h3, h4, h, wrap_pred (show 0 < i by omega) (show i ≤ 140737488355328 by omega), if_true, wrap_nat (show i ≤ 140737488355328 by omega)]
      refine ih ⟨by omega, fun j hj1 hj => ?_⟩
      by_cases e : j = i
      ·rw [e]; exact h
      ·exact hn j hj1 (by omega)
     ·simp only [cohousingref26_shape.l0, h1, h2, h3, h4, h, wrap_pred (show 0 < i by omega) (show i ≤ 140737488355328 by omega), if_true, if_false]
      rw [decide_eq_false (fun hs => h ((hs.2.1 hc).2 i hi1 hi))]
      exact Ev.pure _
   exact key 1 (by omega) ⟨Nat.le_refl _, fun j h1 h2 => absurd h2 (by omega)⟩
  ·have hf' : ¬ Free pa (rd_T51 r.f1 0).f2 := hf
   simp only [decide_eq_false hf', Bool.false_eq_true, if_false]
   rw [decide_eq_false (fun hs => hf (hs.2.1 hc).1)]
   exact Ev.pure _
 | false =>
  simp only [Bool.false_eq_true, if_false]
  have key : ∀ i, i ≤ r.f1.length → ((∀ j, j < i → (mv r.f1 j).f1 ≠ 0 ∧ (mv r.f1 j).f2 = (mv r.f1 ((j + 1) % r.f1.length)).f1) → Ev (fun k => cohousingref26_shape.l1 k (r.f1.length : Int) (i : Int) false r.f1) (decide (ShapeR pa r))) := by
   refine loopUp r.f1.length _ ?_ ?_
   ·intro hn
    have h1 : ¬ (((r.f1.length : Nat) : Int) < (r.f1.length : Int)) := by omega
    refine Ev.step ?_
    simp only [cohousingref26_shape.l1, h1, if_false]
    rw [decide_eq_true (show ShapeR pa r from ⟨hp, (fun h => by rw [hc] at h; cases h), fun _ => hn⟩)]
    exact Ev.pure _
   ·intro i hi ih hn
    have h1 : (i : Int) < (r.f1.length : Int) := by omega
    have h2 : (0 : Int) ≤ (i : Int) := by omega
    have hm : Int.tmod ((i + 1 : Nat) : Int) (r.f1.length : Int) = (((i + 1) % r.f1.length : Nat) : Int) := by rw [Int.tmod_eq_emod_of_nonneg (by omega)]; exact (Int.natCast_emod _ _).symm
    have hlt := Nat.mod_lt (i + 1) hp
    have h3 : (0 : Int) ≤ (((i + 1) % r.f1.length : Nat) : Int) := Int.natCast_nonneg _
    have h4 : (((i + 1) % r.f1.length : Nat) : Int) < (r.f1.length : Int) := Int.ofNat_lt.2 hlt
    refine Ev.step ?_
    by_cases c1 : (rd_T51 r.f1 (i : Int)).f1 = 0
    ·simp only [cohousingref26_shape.l1, h1, h2, c1, if_true]
     rw [decide_eq_false (fun hs => (hs.2.2 hc i hi).1 c1)]
     exact Ev.pure _
    by_cases h : (rd_T51 r.f1 (i : Int)).f2 = (rd_T51 r.f1 (((i + 1) % r.f1.length : Nat) : Int)).f1
    ·simp only [cohousingref26_shape.l1, h1, h2, c1, h0, wrap_nat (show i ≤ 140737488355328 by omega), hm, h3, h4, h, if_true, if_false]
     refine ih (fun j hj => ?_)
     by_cases e : j = i
     ·rw [e]; exact ⟨c1, h⟩
     ·exact hn j (by omega)
    ·simp only [cohousingref26_shape.l1, h1, h2, c1, h0, wrap_nat (show i ≤ 140737488355328 by omega), hm, h3, h4, h, if_true, if_false]
     rw [decide_eq_false (fun hs => h (hs.2.2 hc i hi).2)]
     exact Ev.pure _
  exact key 0 (by omega) (fun j hj => absurd hj (Nat.not_lt_zero _))
def allM (l : List GT) : List MT := l.flatMap (fun r => r.f1)
theorem ahead_all (l : List GT) : ahead l l.length 0 = allM l := by unfold ahead allM; rw [List.take_length, List.take_zero, List.append_nil]
theorem ahead_pre (l : List GT) {n k : Nat} (hn : n < l.length) (hk : k ≤ (rg l n).f1.length) : ∃ t, allM l = ahead l n k ++ t := by
 refine ⟨(rg l n).f1.drop k ++ (l.drop (n + 1)).flatMap (fun r => r.f1), ?_⟩
 have e : l = l.take n ++ (rg l n :: l.drop (n + 1)) := by rw [rg_get l n hn, ← List.drop_eq_getElem_cons hn, List.take_append_drop]
 unfold allM ahead
 conv => lhs; rw [e]
 rw [List.flatMap_append, List.flatMap_cons, List.append_assoc, ← List.append_assoc ((rg l n).f1.take k), List.take_append_drop]
theorem ahead_snoc (l : List GT) {n k : Nat} (hk : k < (rg l n).f1.length) : ahead l n (k + 1) = ahead l n k ++ [mv (rg l n).f1 k] := ahead_succ l n k hk
theorem ahead_step (l : List GT) {n : Nat} (hn : n < l.length) : ahead l n (rg l n).f1.length = ahead l (n + 1) 0 := ahead_next l n hn
theorem nodup_ahead (f : MT → Int) (l : List GT) : ((allM l).map f).Nodup ↔ ∀ n, n < l.length → ∀ k, k < (rg l n).f1.length → f (mv (rg l n).f1 k) ∉ (ahead l n k).map f := by
 constructor
 ·intro h n hn k hk
  obtain ⟨t, e⟩ := ahead_pre l hn (show k + 1 ≤ (rg l n).f1.length by omega)
  rw [e, ahead_snoc l hk, List.map_append, List.map_append] at h
  have h1 := (List.nodup_append.1 h).1
  have h2 := (List.nodup_append.1 h1).2.2
  intro hm
  exact h2 _ hm _ (by simp) rfl
 ·intro h
  have key : ∀ n, n ≤ l.length → ((ahead l n 0).map f).Nodup := by
   intro n
   induction n with
   | zero => intro _; simp [ahead]
   | succ n ih =>
    intro hn
    have h0 := ih (by omega)
    have step : ∀ k, k ≤ (rg l n).f1.length → ((ahead l n k).map f).Nodup := by
     intro k
     induction k with
     | zero => intro _; exact h0
     | succ k ihk =>
      intro hk
      rw [ahead_snoc l (by omega), List.map_append]
      refine List.nodup_append.2 ⟨ihk (by omega), by simp, ?_⟩
      intro a ha b hb e
      have hb' : b = f (mv (rg l n).f1 k) := by simpa using hb
      rw [e, hb'] at ha
      exact h n (by omega) k (by omega) ha
    have := step (rg l n).f1.length (Nat.le_refl _)
    rwa [ahead_step l (by omega)] at this
  have := key l.length (Nat.le_refl _)
  rwa [ahead_all] at this
structure RingsR (fl : List FT) (pa : List PT) (l : List GT) : Prop where
 len : l.length ≤ 64
 fit : ∀ n, n < l.length → ∀ k, k < (rg l n).f1.length → MoveR fl pa (mv (rg l n).f1 k)
 homes : ((allM l).map (fun x => x.f0)).Nodup
 tos : ((allM l).map (fun x => x.f2)).Nodup
 shape : ∀ n, n < l.length → ShapeR pa (rg l n)
def RB (l : List GT) : Prop := (∀ i, i < l.length → (rg l i).f1.length ≤ 1000)
theorem ahead_len (l : List GT) (hR : RB l) : ∀ n, n ≤ l.length → (ahead l n 0).length ≤ 1000 * n := by
 intro n
 induction n with
 | zero => intro _; simp [ahead]
 | succ n ih =>
  intro hn
  have h0 := ih (by omega)
  have h1 := hR n (by omega)
  rw [← ahead_step l (by omega)]
  unfold ahead at h0 ⊢
  rw [List.length_append, List.length_take] at h0 ⊢
  omega
theorem Rings_f (fl : List FT) (pa : List PT) (l : List GT) (hF : fl.length ≤ 140737488355328) (hB : pa.length ≤ 140737488355328) (hR : RB l) : Ev (fun k => cohousingref26_Rings.f k fl pa l) (decide (RingsR fl pa l)) := by
 unfold cohousingref26_Rings.f
 by_cases hl : (l.length : Int) > 64
 ·simp only [hl, if_true]
  rw [decide_eq_false (fun h => by have := h.len; omega)]
  exact Ev.pure _
 simp only [hl, if_false]
 have key : ∀ n, n ≤ l.length → ((∀ m, m < n → ShapeR pa (rg l m) ∧ ∀ k, k < (rg l m).f1.length → MoveR fl pa (mv (rg l m).f1 k) ∧ (mv (rg l m).f1 k).f0 ∉ (ahead l m k).map (fun x => x.f0) ∧ (mv (rg l m).f1 k).f2 ∉ (ahead l m k).map (fun x => x.f2)) →
   Ev (fun k => cohousingref26_Rings.l0 k l ((ahead l n 0).map (fun x => x.f0)) ((ahead l n 0).map (fun x => x.f2)) (n : Int) fl pa) (decide (RingsR fl pa l))) := by
  refine loopUp l.length _ ?_ ?_
  ·intro hn
   have h1 : ¬ (((l.length : Nat) : Int) < (l.length : Int)) := by omega
   refine Ev.step ?_
   simp only [cohousingref26_Rings.l0, h1, if_false]
   rw [decide_eq_true ⟨by omega, fun n h k hk => ((hn n h).2 k hk).1, (nodup_ahead _ l).2 (fun n h k hk => ((hn n h).2 k hk).2.1), (nodup_ahead _ l).2 (fun n h k hk => ((hn n h).2 k hk).2.2), fun n h => (hn n h).1⟩]
   exact Ev.pure _
  ·intro n hlt ih hn
   have h1 : (n : Int) < (l.length : Int) := by omega
   have h2 : (0 : Int) ≤ (n : Int) := by omega
   have hlen := ahead_len l hR n (by omega)
   have hrn := hR n hlt
   have inner : ∀ m, m ≤ (rg l n).f1.length → ((∀ k, k < m → MoveR fl pa (mv (rg l n).f1 k) ∧ (mv (rg l n).f1 k).f0 ∉ (ahead l n k).map (fun x => x.f0) ∧ (mv (rg l n).f1 k).f2 ∉ (ahead l n k).map (fun x => x.f2)) →
     Ev (fun k => cohousingref26_Rings.l1 k l ((ahead l n m).map (fun x => x.f0)) ((ahead l n m).map (fun x => x.f2)) (n : Int) (m : Int) fl pa) (decide (RingsR fl pa l))) := by
    refine loopUp (rg l n).f1.length _ ?_ ?_
    ·intro hk
     have c1 : ¬ ((((rg l n).f1.length : Nat) : Int) < ((rg l n).f1.length : Int)) := by omega
     refine Ev.step ?_
     simp only [cohousingref26_Rings.l1, h1, h2, c1, if_true, if_false]
     refine Ev.bnd (shape_f fl pa (rg l n) hB (by omega)) ?_
     by_cases hs : ShapeR pa (rg l n)
     ·simp only [decide_eq_true hs, if_true, wrap_nat (show n ≤ 140737488355328 by omega)]
      rw [ahead_step l hlt]
      refine ih (fun m hm => ?_)
      by_cases e : m = n
      ·rw [e]; exact ⟨hs, hk⟩
      ·exact hn m (by omega)
     ·simp only [decide_eq_false hs, Bool.false_eq_true, if_false]
      rw [decide_eq_false (fun h => hs (h.shape n hlt))]
      exact Ev.pure _
    ·intro m hm ihm hk
     have c1 : (m : Int) < ((rg l n).f1.length : Int) := by omega
     have c2 : (0 : Int) ≤ (m : Int) := by omega
     have hlm : (ahead l n m).length ≤ 1000 * n + m := by
      unfold ahead at hlen ⊢
      rw [List.length_append, List.length_take] at hlen ⊢
      omega
     have hlh : ((ahead l n m).map (fun x => x.f0)).length < 17592186044416 := by rw [List.length_map]; omega
     have hlt2 : ((ahead l n m).map (fun x => x.f2)).length < 17592186044416 := by rw [List.length_map]; omega
     refine Ev.step ?_
     simp only [cohousingref26_Rings.l1, h1, h2, c1, c2, if_true]
     refine Ev.bnd (move_f fl pa (mv (rg l n).f1 m) hF hB) ?_
     by_cases d1 : MoveR fl pa (mv (rg l n).f1 m)
     ·simp only [decide_eq_true d1, if_true]
      refine Ev.bnd (In_f ((ahead l n m).map (fun x => x.f0)) (mv (rg l n).f1 m).f0 (by omega)) ?_
      by_cases d2 : (mv (rg l n).f1 m).f0 ∈ (ahead l n m).map (fun x => x.f0)
      ·have d2' := (inR_pos _ _).2 d2
       simp only [d2', if_true]
       rw [decide_eq_false (fun h => (nodup_ahead (fun x => x.f0) l).1 h.homes n hlt m hm d2)]
       exact Ev.pure _
      ·have d2' : ¬ (inR ((ahead l n m).map (fun x => x.f0)) (mv (rg l n).f1 m).f0 ≥ 0) := fun h => d2 ((inR_pos _ _).1 h)
       simp only [d2', if_false]
       refine Ev.bnd (In_f ((ahead l n m).map (fun x => x.f2)) (mv (rg l n).f1 m).f2 (by omega)) ?_
       by_cases d3 : (mv (rg l n).f1 m).f2 ∈ (ahead l n m).map (fun x => x.f2)
       ·have d3' := (inR_pos _ _).2 d3
        simp only [d3', if_true]
        rw [decide_eq_false (fun h => (nodup_ahead (fun x => x.f2) l).1 h.tos n hlt m hm d3)]
        exact Ev.pure _
       ·have d3' : ¬ (inR ((ahead l n m).map (fun x => x.f2)) (mv (rg l n).f1 m).f2 ≥ 0) := fun h => d3 ((inR_pos _ _).1 h)
        simp only [d3', hlh, hlt2, if_true, if_false, wrap_nat (show m ≤ 140737488355328 by omega)]
        have := ihm (fun k hk' => by
         by_cases e : k = m
         ·rw [e]; exact ⟨d1, d2, d3⟩
         ·exact hk k (by omega))
        rw [ahead_snoc l hm, List.map_append, List.map_append] at this
        exact this
     ·simp only [decide_eq_false d1, Bool.false_eq_true, if_false]
      rw [decide_eq_false (fun h => d1 (h.fit n hlt m hm))]
      exact Ev.pure _
   refine Ev.step ?_
   simp only [cohousingref26_Rings.l0, h1, if_true]
   exact inner 0 (by omega) (fun k hk => absurd hk (Nat.not_lt_zero _))
 exact key 0 (by omega) (fun m hm => absurd hm (Nat.not_lt_zero _))
theorem ringsB_iff {fl : List FT} {pa : List PT} (hM : Market fl pa) (l : List GT) : ringsB (homesM pa pa.length) (knownM fl fl.length) (occM pa pa.length) l = true ↔ RingsR fl pa l := by
 have hset : ∀ (f : MT → Int) (ms : List MT) (x : Int), (setB f ms x).getD false = decide (x ∈ ms.map f) := by
  intro f ms x
  unfold setB
  rw [show (ms.any fun m => f m == x) = decide (x ∈ ms.map f) from by
   rw [Bool.eq_iff_iff, List.any_eq_true, decide_eq_true_iff, List.mem_map]
   constructor
   ·rintro ⟨m, h1, h2⟩; exact ⟨m, h1, eq_of_beq h2⟩
   ·rintro ⟨m, h1, h2⟩; exact ⟨m, h1, beq_iff_eq.2 h2⟩]
  by_cases h : x ∈ ms.map f <;> simp [h]
 have hoff : ∀ (r : GT) (k : Nat), k < r.f1.length → (offB r k = false ↔ (r.f0 = true → 1 ≤ k → (mv r.f1 k).f2 = (mv r.f1 (k - 1)).f1) ∧ (r.f0 = false → (mv r.f1 k).f1 ≠ 0 ∧ (mv r.f1 k).f2 = (mv r.f1 ((k + 1) % r.f1.length)).f1)) := by
  intro r k hk
  have hm : Int.tmod ((k : Int) + 1) (r.f1.length : Int) = (((k + 1) % r.f1.length : Nat) : Int) := by rw [Int.tmod_eq_emod_of_nonneg (by omega)]; exact (Int.natCast_emod (k + 1) _).symm
  unfold offB
  rw [hm]
  cases hc : r.f0 with
  | true =>
   by_cases h0 : 0 < k
   ·have e : ((k : Int) - 1) = ((k - 1 : Nat) : Int) := by omega
    rw [e]
    simp [h0, mv]
    omega
   ·simp [h0]
    omega
  | false => simp [mv]
 have hend : ∀ r : GT, (0 < r.f1.length → HasF fl (mv r.f1 0).f2) → (endB (occM pa pa.length) r = true ↔ 0 < r.f1.length ∧ (r.f0 = true → Free pa (mv r.f1 0).f2)) := by
  intro r hh
  unfold endB
  rw [Bool.and_eq_true, decide_eq_true_iff]
  constructor
  ·rintro ⟨h1, h2⟩
   refine ⟨h1, fun hc => ?_⟩
   rw [hc, show (rd_T51 r.f1 0).f2 = (mv r.f1 0).f2 from rfl, occ_eq pa _ (by have := (hh h1).pos hM.flv; omega)] at h2
   simpa using h2
  ·rintro ⟨h1, h2⟩
   refine ⟨h1, ?_⟩
   rw [show (rd_T51 r.f1 0).f2 = (mv r.f1 0).f2 from rfl, occ_eq pa _ (by have := (hh h1).pos hM.flv; omega)]
   cases hc : r.f0 with
   | false => rfl
   | true => simp [h2 hc]
 have hmove : ∀ n k, n < l.length → k < (rg l n).f1.length → (moveB (homesM pa pa.length) (knownM fl fl.length) l n k = true ↔ MoveR fl pa (mv (rg l n).f1 k) ∧ (mv (rg l n).f1 k).f0 ∉ (ahead l n k).map (fun x => x.f0) ∧ (mv (rg l n).f1 k).f2 ∉ (ahead l n k).map (fun x => x.f2) ∧ offB (rg l n) k = false) := by
  intro n k hn hk
  unfold moveB
  rw [Bool.and_eq_true, Bool.and_eq_true, Bool.and_eq_true, hset, hset, fits_iff hM, moveR_iff hM]
  simp only [Bool.not_eq_true', decide_eq_false_iff_not, and_assoc]
 unfold ringsB
 rw [Bool.and_eq_true, decide_eq_true_iff, List.all_eq_true]
 simp only [List.mem_range]
 constructor
 ·rintro ⟨h1, h2⟩
  have hr : ∀ n, n < l.length → (∀ k, k < (rg l n).f1.length → moveB (homesM pa pa.length) (knownM fl fl.length) l n k = true) ∧ endB (occM pa pa.length) (rg l n) = true := by
   intro n hn
   have := h1 n hn
   unfold ringB at this
   rw [Bool.and_eq_true, List.all_eq_true] at this
   exact ⟨fun k hk => this.1 k (List.mem_range.2 hk), this.2⟩
  have hm := fun n hn k hk => (hmove n k hn hk).1 ((hr n hn).1 k hk)
  refine ⟨h2, fun n hn k hk => (hm n hn k hk).1, (nodup_ahead _ l).2 (fun n hn k hk => (hm n hn k hk).2.1), (nodup_ahead _ l).2 (fun n hn k hk => (hm n hn k hk).2.2.1), fun n hn => ?_⟩
  have he := (hend (rg l n) (fun hp => by obtain ⟨j, _, _, _, _, h⟩ := (hm n hn 0 hp).1; exact h)).1 (hr n hn).2
  have ho := fun k hk => (hoff (rg l n) k hk).1 (hm n hn k hk).2.2.2
  exact ⟨he.1, fun hc => ⟨he.2 hc, fun i h1 h2 => (ho i h2).1 hc h1⟩, fun hc i hi => (ho i hi).2 hc⟩
 ·intro h
  refine ⟨fun n hn => ?_, h.len⟩
  have hs := h.shape n hn
  unfold ringB
  rw [Bool.and_eq_true, List.all_eq_true]
  refine ⟨fun k hk => ?_, (hend (rg l n) (fun hp => by obtain ⟨j, _, _, _, _, h⟩ := h.fit n hn 0 hp; exact h)).2 ⟨hs.1, fun hc => (hs.2.1 hc).1⟩⟩
  have hk' := List.mem_range.1 hk
  exact (hmove n k hn hk').2 ⟨h.fit n hn k hk', (nodup_ahead _ l).1 h.homes n hn k hk', (nodup_ahead _ l).1 h.tos n hn k hk', (hoff (rg l n) k hk').2 ⟨fun hc h1 => (hs.2.1 hc).2 k h1 hk', fun hc => hs.2.2 hc k hk'⟩⟩
structure RepliesV (l : List YT) : Prop where
 len : l.length ≤ 1000
 one : ∀ n, n < l.length → 1 ≤ (ry l n).f0 ∧ (ry l n).f0 ≤ 3 ∧ 1 ≤ (ry l n).f1 ∧ (ry l n).f1 ≤ 64 ∧ 0 ≤ (ry l n).f2 ∧ (ry l n).f2 ≤ 36524
 asc : ∀ n, 0 < n → n < l.length → (ry l (n - 1)).f2 ≤ (ry l n).f2
theorem repliesB_iff (l : List YT) : repliesB l = true ↔ RepliesV l := by
 unfold repliesB
 rw [Bool.and_eq_true, decide_eq_true_iff, List.all_eq_true]
 have hx : ∀ n, replyAt l n = true ↔ replyP (lastD l n) (ry l n) := fun n => by unfold replyAt; exact decide_eq_true_iff
 simp only [List.mem_range, hx, replyP]
 constructor
 ·rintro ⟨h1, h2⟩
  have lo : ∀ n, n < l.length → 0 ≤ (ry l n).f2 := by
   intro n
   induction n with
   | zero => intro hn; have := (h1 0 hn).2.2.2.2.1; simpa [lastD] using this
   | succ n ih => intro hn; have h3 := ih (by omega); have h4 := (h1 (n + 1) hn).2.2.2.2.1; rw [lastD_succ] at h4; simp only [ry] at h3 h4 ⊢; omega
  refine ⟨h2, fun n hn => ?_, fun n h0 hn => ?_⟩
  ·have := h1 n hn
   exact ⟨this.1, this.2.1, this.2.2.1, this.2.2.2.1, lo n hn, this.2.2.2.2.2⟩
  ·have := (h1 n hn).2.2.2.2.1
   unfold lastD at this
   rwa [if_neg (by omega)] at this
 ·intro h
  refine ⟨fun n hn => ?_, h.len⟩
  have := h.one n hn
  refine ⟨this.1, this.2.1, this.2.2.1, this.2.2.2.1, ?_, this.2.2.2.2.2⟩
  unfold lastD
  by_cases e : n = 0
  ·rw [if_pos e]; exact this.2.2.2.2.1
  ·rw [if_neg e]; exact h.asc n (by omega) hn
theorem Replies_f (l : List YT) : Ev (fun k => cohousingref26_Replies.f k l) (decide (RepliesV l)) := by
 unfold cohousingref26_Replies.f
 by_cases hl : (l.length : Int) > 1000
 ·simp only [hl, if_true]
  rw [decide_eq_false (fun h => by have := h.len; omega)]
  exact Ev.pure _
 simp only [hl, if_false]
 have key : ∀ i, i ≤ l.length → ((∀ n, n < i → (1 ≤ (ry l n).f0 ∧ (ry l n).f0 ≤ 3 ∧ 1 ≤ (ry l n).f1 ∧ (ry l n).f1 ≤ 64 ∧ 0 ≤ (ry l n).f2 ∧ (ry l n).f2 ≤ 36524) ∧ (0 < n → (ry l (n - 1)).f2 ≤ (ry l n).f2)) → Ev (fun k => cohousingref26_Replies.l0 k l (i : Int)) (decide (RepliesV l))) := by
  refine loopUp l.length _ ?_ ?_
  ·intro hn
   have h1 : ¬ (((l.length : Nat) : Int) < (l.length : Int)) := by omega
   refine Ev.step ?_
   simp only [cohousingref26_Replies.l0, h1, if_false]
   rw [decide_eq_true ⟨by omega, fun n h => (hn n h).1, fun n h0 h => (hn n h).2 h0⟩]
   exact Ev.pure _
  ·intro i hi ih hn
   have h1 : (i : Int) < (l.length : Int) := by omega
   have h2 : (0 : Int) ≤ (i : Int) := by omega
   have fa : ∀ P : Prop, (P → ¬ (1 ≤ (ry l i).f0 ∧ (ry l i).f0 ≤ 3 ∧ 1 ≤ (ry l i).f1 ∧ (ry l i).f1 ≤ 64 ∧ 0 ≤ (ry l i).f2 ∧ (ry l i).f2 ≤ 36524)) → P → decide (RepliesV l) = false := fun P h hP => decide_eq_false (fun hv => h hP (hv.one i hi))
   refine Ev.step ?_
   by_cases c1 : (rd_T55 l (i : Int)).f0 < 1
   ·simp only [cohousingref26_Replies.l0, h1, h2, c1, if_true]
    rw [fa _ (fun h => by simp only [ry]; omega) c1]
    exact Ev.pure _
   by_cases c2 : (rd_T55 l (i : Int)).f0 > 3
   ·simp only [cohousingref26_Replies.l0, h1, h2, c1, c2, if_true, if_false]
    rw [fa _ (fun h => by simp only [ry]; omega) c2]
    exact Ev.pure _
   by_cases c3 : (rd_T55 l (i : Int)).f1 < 1
   ·simp only [cohousingref26_Replies.l0, h1, h2, c1, c2, c3, if_true, if_false]
    rw [fa _ (fun h => by simp only [ry]; omega) c3]
    exact Ev.pure _
   by_cases c4 : (rd_T55 l (i : Int)).f1 > 64
   ·simp only [cohousingref26_Replies.l0, h1, h2, c1, c2, c3, c4, if_true, if_false]
    rw [fa _ (fun h => by simp only [ry]; omega) c4]
    exact Ev.pure _
   by_cases c5 : (rd_T55 l (i : Int)).f2 < 0
   ·simp only [cohousingref26_Replies.l0, h1, h2, c1, c2, c3, c4, c5, if_true, if_false]
    rw [fa _ (fun h => by simp only [ry]; omega) c5]
    exact Ev.pure _
   by_cases c6 : (rd_T55 l (i : Int)).f2 > 36524
   ·simp only [cohousingref26_Replies.l0, h1, h2, c1, c2, c3, c4, c5, c6, if_true, if_false]
    rw [fa _ (fun h => by simp only [ry]; omega) c6]
    exact Ev.pure _
   have ok1 : 1 ≤ (ry l i).f0 ∧ (ry l i).f0 ≤ 3 ∧ 1 ≤ (ry l i).f1 ∧ (ry l i).f1 ≤ 64 ∧ 0 ≤ (ry l i).f2 ∧ (ry l i).f2 ≤ 36524 := by simp only [ry]; omega
   have go : (0 < i → (ry l (i - 1)).f2 ≤ (ry l i).f2) → Ev (fun k => cohousingref26_Replies.l0 k l ((i + 1 : Nat) : Int)) (decide (RepliesV l)) := fun ha => ih (fun n hn' => by
    by_cases e : n = i
    ·rw [e]; exact ⟨ok1, ha⟩
    ·exact hn n (by omega))
   by_cases c7 : 0 < i
   ·have h3 : (i : Int) > 0 := by omega
    have h4 : (0 : Int) ≤ ((i - 1 : Nat) : Int) := by omega
    have h5 : ((i - 1 : Nat) : Int) < (l.length : Int) := by omega
    by_cases c8 : (rd_T55 l (i : Int)).f2 < (rd_T55 l ((i - 1 : Nat) : Int)).f2
    ·simp only [cohousingref26_Replies.l0, h1, h2, c1, c2, c3, c4, c5, c6, h3, wrap_pred c7 (show i ≤ 140737488355328 by omega), h4, h5, c8, if_true, if_false]
     rw [decide_eq_false (fun hv => by have := hv.asc i c7 hi; simp only [ry] at this; omega)]
     exact Ev.pure _
    ·simp only [cohousingref26_Replies.l0, h1, h2, c1, c2, c3, c4, c5, c6, h3, wrap_pred c7 (show i ≤ 140737488355328 by omega), h4, h5, c8, if_true, if_false, wrap_nat (show i ≤ 140737488355328 by omega)]
     exact go (fun _ => by simp only [ry]; omega)
   ·have h3 : ¬ ((i : Int) > 0) := by omega
    simp only [cohousingref26_Replies.l0, h1, h2, c1, c2, c3, c4, c5, c6, h3, if_true, if_false, wrap_nat (show i ≤ 140737488355328 by omega)]
    exact go (fun h => absurd h c7)
 exact key 0 (by omega) (fun j hj => absurd hj (Nat.not_lt_zero _))
structure Usable (fl : List FT) (pa : List PT) (l : List GT) (rs : List YT) : Prop where
 fm : FewM fl pa
 fr : FewR l rs
 m : Market fl pa
 r : RingsR fl pa l
 y : RepliesV rs
theorem FewR.rb {l : List GT} {rs : List YT} (h : FewR l rs) : RB l := fun i hi => by have := h.m i hi; omega
theorem usable_f (fl : List FT) (pa : List PT) (l : List GT) (rs : List YT) : Ev (fun k => cohousinglaw26_usable.f k fl pa l rs) (decide (Usable fl pa l rs)) := by
 unfold cohousinglaw26_usable.f
 refine Ev.bnd (FewM_f fl pa) ?_
 by_cases h1 : FewM fl pa
 ·simp only [decide_eq_true h1, if_true]
  refine Ev.bnd (FewR_f l rs) ?_
  by_cases h2 : FewR l rs
  ·simp only [decide_eq_true h2, if_true]
   have e1 := h1.f
   have e2 := h1.p
   refine Ev.bnd (Valid_f fl pa (by omega) h1.wb) ?_
   by_cases h3 : Market fl pa
   ·simp only [decide_eq_true h3, if_true]
    refine Ev.bnd (Rings_f fl pa l (by omega) (by omega) h2.rb) ?_
    by_cases h4 : RingsR fl pa l
    ·simp only [decide_eq_true h4, if_true]
     refine Ev.bnd (Replies_f rs) ?_
     rw [show decide (Usable fl pa l rs) = decide (RepliesV rs) from decide_eq_decide.2 ⟨fun h => h.y, fun h => ⟨h1, h2, h3, h4, h⟩⟩]
     exact Ev.pure _
    ·simp only [decide_eq_false h4, Bool.false_eq_true, if_false]
     rw [decide_eq_false (fun h : Usable fl pa l rs => h4 h.r)]
     exact Ev.pure _
   ·simp only [decide_eq_false h3, Bool.false_eq_true, if_false]
    rw [decide_eq_false (fun h : Usable fl pa l rs => h3 h.m)]
    exact Ev.pure _
  ·simp only [decide_eq_false h2, Bool.false_eq_true, if_false]
   rw [decide_eq_false (fun h : Usable fl pa l rs => h2 h.fr)]
   exact Ev.pure _
 ·simp only [decide_eq_false h1, Bool.false_eq_true, if_false]
  rw [decide_eq_false (fun h : Usable fl pa l rs => h1 h.fm)]
  exact Ev.pure _
end Go.Proofs.Ytocbiggglnpeoaa.P
end
section
namespace Go.Proofs.Ytocbiggglnpeoaa.P
open Go.RowKit Go.Proofs.YtocbiggglnpeoaaW.PrintWords Go.Proofs.YtocbiggglnpeoaaW.PrintLast Go.Proofs.YtocbiggglnpeoaaW.PrintMore Go.Proofs.YtocbiggglnpeoaaH
open Classical
def stA (rs : List YT) (due h : Int) (n : Nat) : Bool × Bool := (repM rs due n h).getD (false, false)
theorem stA_succ (rs : List YT) (due h : Int) (n : Nat) : stA rs due h (n + 1) = if (ry rs n).f2 ≤ due ∧ (ry rs n).f1 = h then ((ry rs n).f0 == 1, (stA rs due h n).2 || (ry rs n).f0 == 3) else stA rs due h n := by
 unfold stA
 rw [repM_succ]
 by_cases c1 : (rd_T55 rs (n : Int)).f2 ≤ due
 ·rw [if_pos c1]
  unfold upd
  by_cases c2 : h = (rd_T55 rs (n : Int)).f1
  ·rw [if_pos c2, if_pos ⟨c1, c2.symm⟩, ← c2]
   rfl
  ·rw [if_neg c2, if_neg (fun e => c2 e.2.symm)]
 ·rw [if_neg c1, if_neg (fun e => c1 e.1)]
def agB (rs : List YT) (due h : Int) : Bool := (stA rs due h rs.length).1 && !(stA rs due h rs.length).2
theorem refB_eq (rs : List YT) (due : Int) (x : MT) : refB (repM rs due rs.length) x = !agB rs due x.f0 := by
 unfold refB agB stA
 cases ((repM rs due rs.length x.f0).getD (false, false)).1 <;> cases ((repM rs due rs.length x.f0).getD (false, false)).2 <;> rfl
theorem idx_is (p : MT → Bool) (l : List MT) : (idxB51 p l = -1 ∧ ∀ k, k < l.length → p (mv l k) = false) ∨ ∃ j : Nat, j < l.length ∧ idxB51 p l = j ∧ p (mv l j) = true ∧ ∀ k, k < j → p (mv l k) = false := by
 unfold idxB51
 cases h : l.findIdx? p with
 | none =>
  refine .inl ⟨rfl, fun k hk => ?_⟩
  rw [mv_get l k hk]
  exact List.findIdx?_eq_none_iff.1 h _ (List.getElem_mem hk)
 | some j =>
  obtain ⟨h1, h2, h3⟩ := List.findIdx?_eq_some_iff_getElem.1 h
  refine .inr ⟨j, h1, rfl, ?_, fun k hk => ?_⟩
  ·rw [mv_get l j h1]; exact h2
  ·have hk' : k < l.length := by omega
   rw [mv_get l k hk']
   have := h3 k hk
   cases hx : p l[k] with
   | false => rfl
   | true => exact absurd hx this
inductive Told (rs : List YT) (due : Int) (r : GT) : Nat → Bool → Prop
 | all (h : ∀ k, k < r.f1.length → agB rs due (mv r.f1 k).f0 = true) : Told rs due r r.f1.length false
 | chain (n : Nat) (hn : n < r.f1.length) (hc : r.f0 = true) (h : ∀ k, k < n → agB rs due (mv r.f1 k).f0 = true) (hno : agB rs due (mv r.f1 n).f0 = false) : Told rs due r n true
 | cycle (n : Nat) (hn : n < r.f1.length) (hc : r.f0 = false) (hno : agB rs due (mv r.f1 n).f0 = false) : Told rs due r 0 true
theorem told_ring (rs : List YT) (due : Int) (r : GT) : Told rs due r (nOf (repM rs due rs.length) r) (brk (repM rs due rs.length) r) := by
 have hr : ∀ k, refB (repM rs due rs.length) (mv r.f1 k) = !agB rs due (mv r.f1 k).f0 := fun k => refB_eq rs due _
 unfold nOf brk
 rcases idx_is (refB (repM rs due rs.length)) r.f1 with ⟨e, h⟩ | ⟨j, hj, e, h1, h2⟩
 ·rw [e, if_pos (by omega), decide_eq_false (by omega)]
  refine .all (fun k hk => ?_)
  have := h k hk
  rw [hr] at this
  simpa using this
 ·rw [e, if_neg (by omega), decide_eq_true (by omega)]
  have hno : agB rs due (mv r.f1 j).f0 = false := by rw [hr] at h1; simpa using h1
  cases hc : r.f0 with
  | true =>
   rw [if_pos rfl, Int.toNat_natCast]
   exact .chain j hj hc (fun k hk => by have := h2 k hk; rw [hr] at this; simpa using this) hno
  | false =>
   rw [if_neg (by decide)]
   exact .cycle j hj hc hno
theorem Told.le {rs : List YT} {due : Int} {r : GT} {n : Nat} {b : Bool} (h : Told rs due r n b) : n ≤ r.f1.length := by
 cases h with
 | all _ => exact Nat.le_refl _
 | chain n hn _ _ _ => omega
 | cycle n hn _ _ => omega
theorem Told.full {rs : List YT} {due : Int} {r : GT} {n : Nat} {b : Bool} (h : Told rs due r n b) (hc : r.f0 = false) (h0 : 0 < n) : n = r.f1.length := by
 cases h with
 | all _ => rfl
 | chain n hn hc' _ _ => rw [hc] at hc'; cases hc'
 | cycle _ _ _ _ => exact absurd h0 (Nat.not_lt_zero _)
abbrev nR (rs : List YT) (due : Int) (r : GT) : Nat := nOf (repM rs due rs.length) r
abbrev goR (rs : List YT) (due : Int) (l : List GT) (n : Nat) : List MT := goM (repM rs due rs.length) l n
abbrev brR (rs : List YT) (due : Int) (l : List GT) (n : Nat) : List Int := brM (repM rs due rs.length) l n
theorem mv_mem {ms : List MT} {k : Nat} (h : k < ms.length) : mv ms k ∈ ms := by rw [mv_get ms k h]; exact List.getElem_mem h
theorem mem_take {ms : List MT} {n : Nat} {x : MT} (hn : n ≤ ms.length) : x ∈ ms.take n ↔ ∃ k, k < n ∧ x = mv ms k := by
 rw [List.mem_iff_getElem]
 constructor
 ·rintro ⟨k, hk, e⟩
  rw [List.length_take] at hk
  exact ⟨k, by omega, by rw [mv_get ms k (by omega), ← e, List.getElem_take]⟩
 ·rintro ⟨k, hk, e⟩
  exact ⟨k, by rw [List.length_take]; omega, by rw [List.getElem_take, e, mv_get ms k (by omega)]⟩
theorem mem_goR {rs : List YT} {due : Int} {l : List GT} {x : MT} : ∀ m, x ∈ goR rs due l m ↔ ∃ n, n < m ∧ ∃ k, k < nR rs due (rg l n) ∧ x = mv (rg l n).f1 k
 | 0 => by
  constructor
  ·intro h; cases h
  ·rintro ⟨n, hn, _⟩; exact absurd hn (Nat.not_lt_zero _)
 | m + 1 => by
  show x ∈ goM _ l (m + 1) ↔ _
  rw [goM_succ, List.mem_append, mem_goR m, mem_take (told_ring rs due (rg l m)).le]
  constructor
  ·rintro (⟨n, hn, h⟩ | ⟨k, hk, e⟩)
   ·exact ⟨n, by omega, h⟩
   ·exact ⟨m, by omega, k, hk, e⟩
  ·rintro ⟨n, hn, k, hk, e⟩
   by_cases h : n = m
   ·subst h; exact .inr ⟨k, hk, e⟩
   ·exact .inl ⟨n, by omega, k, hk, e⟩
theorem goR_sub (rs : List YT) (due : Int) (l : List GT) : ∀ n, n ≤ l.length → (goR rs due l n).Sublist (ahead l n 0) := by
 intro n
 induction n with
 | zero => intro _; exact List.nil_sublist _
 | succ n ih =>
  intro hn
  rw [← ahead_step l (by omega)]
  show (goM _ l (n + 1)).Sublist _
  rw [goM_succ]
  have h0 := ih (by omega)
  unfold ahead at h0 ⊢
  rw [List.take_zero, List.append_nil] at h0
  rw [List.take_length]
  exact h0.append (List.take_sublist _ _)
theorem goR_all (rs : List YT) (due : Int) (l : List GT) : (goR rs due l l.length).Sublist (allM l) := by
 have := goR_sub rs due l l.length (Nat.le_refl _)
 rwa [ahead_all] at this
section
variable {fl : List FT} {pa : List PT} {l : List GT}
theorem go_fit (hM : Market fl pa) (hR : RingsR fl pa l) (rs : List YT) (due : Int) {x : MT} (hx : x ∈ goR rs due l l.length) : Fits fl pa x := by
 obtain ⟨n, hn, k, hk, rfl⟩ := (mem_goR l.length).1 hx
 exact (moveR_iff hM _).1 (hR.fit n hn k (Nat.lt_of_lt_of_le hk (told_ring rs due (rg l n)).le))
theorem go_closed (hR : RingsR fl pa l) (rs : List YT) (due : Int) {x : MT} (hx : x ∈ goR rs due l l.length) : Free pa x.f2 ∨ ∃ y, y ∈ goR rs due l l.length ∧ y.f1 = x.f2 := by
 obtain ⟨n, hn, k, hk, rfl⟩ := (mem_goR l.length).1 hx
 have hs := hR.shape n hn
 have ht := told_ring rs due (rg l n)
 have hle := ht.le
 cases hc : (rg l n).f0 with
 | true =>
  by_cases h0 : k = 0
  ·subst h0; exact .inl (hs.2.1 hc).1
  ·refine .inr ⟨mv (rg l n).f1 (k - 1), (mem_goR l.length).2 ⟨n, hn, k - 1, by omega, rfl⟩, ?_⟩
   exact ((hs.2.1 hc).2 k (by omega) (Nat.lt_of_lt_of_le hk hle)).symm
 | false =>
  have hall : nR rs due (rg l n) = (rg l n).f1.length := ht.full hc (Nat.lt_of_le_of_lt (Nat.zero_le _) hk)
  rw [hall] at hk
  refine .inr ⟨mv (rg l n).f1 ((k + 1) % (rg l n).f1.length), (mem_goR l.length).2 ⟨n, hn, (k + 1) % (rg l n).f1.length, ?_, rfl⟩, (hs.2.2 hc k hk).2.symm⟩
  rw [hall]
  exact Nat.mod_lt _ (by omega)
theorem go_homes (hR : RingsR fl pa l) (rs : List YT) (due : Int) : ((goR rs due l l.length).map (fun x => x.f0)).Nodup := List.Nodup.sublist ((goR_all rs due l).map _) hR.homes
theorem go_tos (hR : RingsR fl pa l) (rs : List YT) (due : Int) : ((goR rs due l l.length).map (fun x => x.f2)).Nodup := List.Nodup.sublist ((goR_all rs due l).map _) hR.tos
end
theorem runR_eq (fl : List FT) (pa : List PT) (l : List GT) (due : Int) (rs : List YT) : runR fl pa l due rs = if Market fl pa ∧ RepliesV rs ∧ 0 ≤ due ∧ due ≤ 36524 ∧ RingsR fl pa l then (goR rs due l l.length, brR rs due l l.length, 0) else ([], [], 1) := by
 unfold runR
 by_cases h : Market fl pa ∧ RepliesV rs ∧ 0 ≤ due ∧ due ≤ 36524 ∧ RingsR fl pa l
 ·rw [if_pos h, if_pos ⟨(marketOk_iff fl pa).2 h.1, (repliesB_iff rs).2 h.2.1, h.2.2.1, h.2.2.2.1, (ringsB_iff h.1 l).2 h.2.2.2.2⟩]
 ·rw [if_neg h, if_neg]
  rintro ⟨h1, h2, h3, h4, h5⟩
  have hm := (marketOk_iff fl pa).1 h1
  exact h ⟨hm, (repliesB_iff rs).1 h2, h3, h4, (ringsB_iff hm l).1 h5⟩
theorem few_M {fl : List FT} {pa : List PT} (h : FewM fl pa) : fewM fl pa = true := by
 unfold fewM
 rw [Bool.and_eq_true, decide_eq_true_iff, List.all_eq_true]
 refine ⟨⟨by have := h.f; omega, by have := h.p; omega⟩, fun p hp => ?_⟩
 obtain ⟨i, hi, e⟩ := List.mem_iff_getElem.1 hp
 have := h.w i hi
 rw [show pwt pa i = p.f2 by rw [pwt, pa_get pa i hi, e]] at this
 exact decide_eq_true (by omega)
theorem few_All {fl : List FT} {pa : List PT} {l : List GT} {rs : List YT} (h : FewM fl pa) (hl : l.length ≤ 20) (hm : ∀ i, i < l.length → (rg l i).f1.length ≤ 30) (hr : rs.length ≤ 1000) : fewAll fl pa l rs = true := by
 have hx : ∀ r ∈ l, r.f1.length ≤ 30 := fun r hr => by
  obtain ⟨i, hi, e⟩ := List.mem_iff_getElem.1 hr
  have := hm i hi
  rwa [rg_get l i hi, e] at this
 unfold fewAll fewR
 simp only [Bool.and_eq_true, decide_eq_true_iff, List.all_eq_true]
 exact ⟨⟨⟨few_M h, by omega, fun r hr => by have := hx r hr; omega⟩, fun r hr => by have := hx r hr; omega⟩, by omega, by omega⟩
theorem Run_f {fl : List FT} {pa : List PT} {l : List GT} {rs : List YT} (due : Int) (h : FewM fl pa) (hl : l.length ≤ 20) (hm : ∀ i, i < l.length → (rg l i).f1.length ≤ 30) (hr : rs.length ≤ 1000) : chain_Run.f fl pa l due rs = some (runR fl pa l due rs) := by
 unfold chain_Run.f
 rw [if_pos (few_All h hl hm hr)]
theorem runR_ok {fl : List FT} {pa : List PT} {l : List GT} {rs : List YT} {due : Int} (hM : Market fl pa) (hR : RingsR fl pa l) (hY : RepliesV rs) (h0 : 0 ≤ due) (h1 : due ≤ 36524) : runR fl pa l due rs = (goR rs due l l.length, brR rs due l l.length, 0) := by
 rw [runR_eq, if_pos ⟨hM, hY, h0, h1, hR⟩]
theorem move_beq (x y : MT) : (x.f0 == y.f0 && (x.f1 == y.f1 && (x.f2 == y.f2))) = decide (x = y) := by
 obtain ⟨a, b, c⟩ := x
 obtain ⟨a', b', c'⟩ := y
 rw [Bool.eq_iff_iff, Bool.and_eq_true, Bool.and_eq_true, decide_eq_true_iff, beq_iff_eq, beq_iff_eq, beq_iff_eq]
 constructor
 ·rintro ⟨rfl, rfl, rfl⟩; rfl
 ·intro h; injection h with h1 h2 h3; exact ⟨h1, h2, h3⟩
theorem SameMoves_f (a b : List MT) (hB : a.length ≤ 140737488355328) : Ev (fun k => cohousingref26_SameMoves.f k a b) (decide (a = b)) := by
 unfold cohousingref26_SameMoves.f
 by_cases hl : (a.length : Int) = (b.length : Int)
 ·simp only [hl, if_true]
  have hl' : a.length = b.length := by omega
  have key : ∀ i, i ≤ a.length → ((∀ j, j < i → mv a j = mv b j) → Ev (fun k => cohousingref26_SameMoves.l0 k a b (i : Int)) (decide (a = b))) := by
   refine loopUp a.length _ ?_ ?_
   ·intro hn
    have h1 : ¬ (((a.length : Nat) : Int) < (a.length : Int)) := by omega
    refine Ev.step ?_
    simp only [cohousingref26_SameMoves.l0, h1, if_false]
    rw [decide_eq_true (List.ext_getElem hl' (fun j h1 h2 => by rw [← mv_get a j h1, ← mv_get b j h2]; exact hn j h1))]
    exact Ev.pure _
   ·intro i hi ih hn
    have h1 : (i : Int) < (a.length : Int) := by omega
    have h2 : (0 : Int) ≤ (i : Int) := by omega
    have h3 : (i : Int) < (b.length : Int) := by omega
    have hx : (!((rd_T51 a (i : Int)).f0 == (rd_T51 b (i : Int)).f0) || (!((rd_T51 a (i : Int)).f1 == (rd_T51 b (i : Int)).f1) || !((rd_T51 a (i : Int)).f2 == (rd_T51 b (i : Int)).f2))) = !decide (mv a i = mv b i) := by
     rw [← move_beq, Bool.not_and, Bool.not_and]
    refine Ev.step ?_
    by_cases h : mv a i = mv b i
    ·simp only [cohousingref26_SameMoves.l0, h1, h2, h3, hx, if_true, decide_eq_true h, Bool.not_true, Bool.false_eq_true, if_false, wrap_nat (show i ≤ 140737488355328 by omega)]
     refine ih (fun j hj => ?_)
     by_cases e : j = i
     ·rw [e]; exact h
     ·exact hn j (by omega)
    ·simp only [cohousingref26_SameMoves.l0, h1, h2, h3, hx, if_true, decide_eq_false h, Bool.not_false]
     rw [decide_eq_false (fun e => h (by rw [e]))]
     exact Ev.pure _
  exact key 0 (by omega) (fun j hj => absurd hj (Nat.not_lt_zero _))
 ·simp only [hl, if_false]
  rw [decide_eq_false (fun e => hl (by rw [e]))]
  exact Ev.pure _
theorem SameInts_f (a b : List Int) (hB : a.length ≤ 140737488355328) : Ev (fun k => cohousingref23_SameInts.f k a b) (decide (a = b)) := by
 unfold cohousingref23_SameInts.f
 by_cases hl : (a.length : Int) = (b.length : Int)
 ·simp only [hl, if_true]
  have hl' : a.length = b.length := by omega
  have key : ∀ i, i ≤ a.length → ((∀ j : Nat, j < i → rd a (j : Int) = rd b (j : Int)) → Ev (fun k => cohousingref23_SameInts.l0 k a b (i : Int)) (decide (a = b))) := by
   refine loopUp a.length _ ?_ ?_
   ·intro hn
    have h1 : ¬ (((a.length : Nat) : Int) < (a.length : Int)) := by omega
    refine Ev.step ?_
    simp only [cohousingref23_SameInts.l0, h1, if_false]
    rw [decide_eq_true (List.ext_getElem hl' (fun j h1 h2 => by rw [← rd_get a j h1, ← rd_get b j h2]; exact hn j h1))]
    exact Ev.pure _
   ·intro i hi ih hn
    have h1 : (i : Int) < (a.length : Int) := by omega
    have h2 : (0 : Int) ≤ (i : Int) := by omega
    have h3 : (i : Int) < (b.length : Int) := by omega
    refine Ev.step ?_
    by_cases h : rd a (i : Int) = rd b (i : Int)
    ·simp only [cohousingref23_SameInts.l0, h1, h2, h3, h, if_true, wrap_nat (show i ≤ 140737488355328 by omega)]
     refine ih (fun j hj => ?_)
     by_cases e : j = i
     ·rw [e]; exact h
     ·exact hn j (by omega)
    ·simp only [cohousingref23_SameInts.l0, h1, h2, h3, h, if_true, if_false]
     rw [decide_eq_false (fun e => h (by rw [e]))]
     exact Ev.pure _
  exact key 0 (by omega) (fun j hj => absurd hj (Nat.not_lt_zero _))
 ·simp only [hl, if_false]
  rw [decide_eq_false (fun e => hl (by rw [e]))]
  exact Ev.pure _
end Go.Proofs.Ytocbiggglnpeoaa.P
end
section
namespace Go.Proofs.Ytocbiggglnpeoaa.P
open Go.RowKit Go.Proofs.YtocbiggglnpeoaaW.PrintWords Go.Proofs.YtocbiggglnpeoaaW.PrintLast Go.Proofs.YtocbiggglnpeoaaW.PrintMore Go.Proofs.YtocbiggglnpeoaaH
open Classical
structure MovesV (fl : List FT) (pa : List PT) (ms : List MT) : Prop where
 fit : ∀ x ∈ ms, Fits fl pa x
 homes : (ms.map (fun x => x.f0)).Nodup
structure GoneV (pa : List PT) (gs : List Int) : Prop where
 party : ∀ k, k < gs.length → ∃ i, i < pa.length ∧ pid pa i = rd gs (k : Int)
 asc : ∀ j k, j < k → k < gs.length → rd gs (j : Int) < rd gs (k : Int)
theorem nodup_index (f : MT → Int) (ms : List MT) : (ms.map f).Nodup ↔ ∀ i j, i < j → j < ms.length → f (mv ms i) ≠ f (mv ms j) := by
 rw [List.Nodup, List.pairwise_iff_getElem]
 simp only [List.length_map, List.getElem_map]
 constructor
 ·intro h i j hij hj
  rw [mv_get ms i (by omega), mv_get ms j hj]
  exact h i j (by omega) hj hij
 ·intro h i j hi hj hij
  rw [← mv_get ms i hi, ← mv_get ms j hj]
  exact h i j hij hj
theorem toM_some {ms : List MT} {h t : Int} {n : Nat} (hn : toM ms n h = some t) : ∃ k, k < n ∧ (mv ms k).f0 = h ∧ (mv ms k).f2 = t := foldM_has _ _ _ _ _ hn
theorem toM_none {ms : List MT} {h : Int} {n : Nat} (hn : toM ms n h = none) : ∀ k, k < n → (mv ms k).f0 ≠ h := foldM_no _ _ _ _ hn
theorem movesB_iff {fl : List FT} {pa : List PT} (hM : Market fl pa) (ms : List MT) : movesB (homesM pa pa.length) (knownM fl fl.length) ms = true ↔ MovesV fl pa ms := by
 unfold movesB stepB
 rw [List.all_eq_true]
 simp only [List.mem_range, Bool.and_eq_true, fits_iff hM, Bool.not_eq_true']
 constructor
 ·intro h
  refine ⟨fun x hx => ?_, (nodup_index _ ms).2 (fun i j hij hj e => ?_)⟩
  ·obtain ⟨k, hk, e⟩ := List.mem_iff_getElem.1 hx
   rw [← e, ← mv_get ms k hk]
   exact (h k hk).2
  ·have h1 := (h j hj).1
   have h2 := (foldM_isSome (fun j : Nat => (rd_T51 ms (j : Int)).f0) (fun j : Nat => (rd_T51 ms (j : Int)).f2) (mv ms j).f0 j).2 ⟨i, hij, e⟩
   have h3 : (toM ms j (mv ms j).f0).isSome = true := h2
   rw [h1] at h3
   cases h3
 ·intro h n hn
  refine ⟨?_, h.fit _ (mv_mem hn)⟩
  cases hx : (toM ms n (rd_T51 ms (n : Int)).f0) with
  | none => rfl
  | some t =>
   obtain ⟨k, hk, e, _⟩ := toM_some hx
   exact absurd e ((nodup_index _ ms).1 h.homes k n hk hn)
theorem goneB_iff {fl : List FT} {pa : List PT} (hM : Market fl pa) (gs : List Int) : goneB (homesM pa pa.length) gs = true ↔ GoneV pa gs := by
 have hsome : ∀ x : Int, (homesM pa pa.length x).isSome = true ↔ ∃ i, i < pa.length ∧ pid pa i = x := fun x => foldM_isSome _ _ _ _
 unfold goneB goneAt
 rw [List.all_eq_true]
 simp only [List.mem_range, Bool.and_eq_true, hsome, Bool.or_eq_true, decide_eq_true_iff]
 have ha := asc_adj (fun n => rd gs (n : Int)) (rd gs 0 - 1) gs.length
 constructor
 ·intro h
  have h2 := ha.1 (fun n hn => by
   by_cases e : n = 0
   ·subst e; rw [if_pos rfl]; show rd gs 0 - 1 < rd gs ((0 : Nat) : Int); have : ((0 : Nat) : Int) = 0 := rfl; rw [this]; omega
   ·rw [if_neg e]
    rcases (h n hn).2 with h1 | h1
    ·exact absurd h1 e
    ·rwa [show ((n : Int) - 1) = ((n - 1 : Nat) : Int) by omega] at h1)
  exact ⟨fun k hk => (h k hk).1, h2.2⟩
 ·intro h n hn
  refine ⟨h.party n hn, ?_⟩
  by_cases e : n = 0
  ·exact .inl e
  ·right
   rw [show ((n : Int) - 1) = ((n - 1 : Nat) : Int) by omega]
   exact h.asc (n - 1) n (by omega) hn
def flA (ms : List MT) (pa : List PT) (i : Nat) : Int := (toM ms ms.length (pid pa i)).getD (pfl pa i)
def stay (gs : List Int) (pa : List PT) (n : Nat) : List Nat := (List.range n).filter (fun i => !gs.contains (pid pa i))
def newP (ms : List MT) (pa : List PT) (i : Nat) : PT := ⟨pid pa i, flA ms pa i, pwt pa i⟩
def kept (ms : List MT) (gs : List Int) (pa : List PT) (n : Nat) : List PT := (stay gs pa n).map (newP ms pa)
theorem stay_succ (gs : List Int) (pa : List PT) (n : Nat) : stay gs pa (n + 1) = stay gs pa n ++ (if pid pa n ∈ gs then [] else [n]) := by
 unfold stay
 rw [List.range_succ, List.filter_append]
 congr 1
 by_cases h : pid pa n ∈ gs <;> simp [h]
def Dist (ms : List MT) (gs : List Int) (pa : List PT) (n : Nat) : Prop := ∀ i j, i < j → j < n → pid pa i ∉ gs → pid pa j ∉ gs → flA ms pa j ≠ 0 → flA ms pa i ≠ flA ms pa j
theorem nxM_spec (ms : List MT) (gs : List Int) (pa : List PT) : ∀ n, n ≤ pa.length → (Dist ms gs pa n → ∃ V, nxM (toM ms ms.length) gs pa n = some (kept ms gs pa n, V) ∧ ∀ x, x ≠ 0 → ((V x).getD false = true ↔ ∃ i, i < n ∧ pid pa i ∉ gs ∧ flA ms pa i = x)) ∧ (¬ Dist ms gs pa n → nxM (toM ms ms.length) gs pa n = none) := by
 intro n
 induction n with
 | zero =>
  intro _
  refine ⟨fun _ => ⟨fun _ => none, rfl, fun x _ => ?_⟩, fun h => absurd (fun i j _ hj => absurd hj (Nat.not_lt_zero _)) h⟩
  constructor
  ·intro h; cases h
  ·rintro ⟨i, hi, _⟩; exact absurd hi (Nat.not_lt_zero _)
 | succ n ih =>
  intro hn
  obtain ⟨h1, h2⟩ := ih (by omega)
  have down : Dist ms gs pa (n + 1) → Dist ms gs pa n := fun h i j hij hj => h i j hij (by omega)
  have hb : nxM (toM ms ms.length) gs pa (n + 1) = (nxM (toM ms ms.length) gs pa n).bind (nxS (toM ms ms.length) gs (rd_T46 pa (n : Int))) := nxM_succ _ _ _ _
  by_cases hd : Dist ms gs pa n
  ·obtain ⟨V, hV, hx⟩ := h1 hd
   rw [hb, hV, Option.bind_some]
   unfold nxS
   by_cases hg : pid pa n ∈ gs
   ·rw [if_pos (by simpa using hg)]
    refine ⟨fun _ => ⟨V, ?_, fun x h0 => ?_⟩, fun hno => absurd (fun i j hij hj hi' hj' => ?_) hno⟩
    ·unfold kept; rw [stay_succ, if_pos hg, List.append_nil]
    ·rw [hx x h0]
     constructor
     ·rintro ⟨i, hi, h⟩; exact ⟨i, by omega, h⟩
     ·rintro ⟨i, hi, hi', e⟩
      by_cases h : i = n
      ·subst h; exact absurd hg hi'
      ·exact ⟨i, by omega, hi', e⟩
    ·by_cases h : j = n
     ·subst h; exact absurd hg hj'
     ·exact hd i j hij (by omega) hi' hj'
   ·rw [if_neg (by simpa using hg)]
    have hfl : (toM ms ms.length (rd_T46 pa (n : Int)).f0).getD (rd_T46 pa (n : Int)).f1 = flA ms pa n := rfl
    simp only [hfl]
    by_cases hc : flA ms pa n ≠ 0 ∧ (V (flA ms pa n)).getD false = true
    ·rw [if_pos hc]
     obtain ⟨i, hi, hi', e⟩ := (hx _ hc.1).1 hc.2
     exact ⟨fun hd' => absurd e (hd' i n hi (by omega) hi' hg hc.1), fun _ => rfl⟩
    ·rw [if_neg hc]
     refine ⟨fun _ => ⟨upd V (flA ms pa n) true, ?_, fun x h0 => ?_⟩, fun hno => absurd (fun i j hij hj hi' hj' h0 => ?_) hno⟩
     ·unfold kept; rw [stay_succ, if_neg hg, List.map_append]; rfl
     ·unfold upd
      by_cases e : x = flA ms pa n
      ·rw [if_pos e]
       exact ⟨fun _ => ⟨n, by omega, hg, e.symm⟩, fun _ => rfl⟩
      ·rw [if_neg e, hx x h0]
       constructor
       ·rintro ⟨i, hi, h⟩; exact ⟨i, by omega, h⟩
       ·rintro ⟨i, hi, hi', e'⟩
        by_cases h : i = n
        ·subst h; exact absurd e'.symm e
        ·exact ⟨i, by omega, hi', e'⟩
     ·by_cases h : j = n
      ·subst h
       intro e
       exact hc ⟨h0, (hx _ h0).2 ⟨i, hij, hi', e⟩⟩
      ·exact hd i j hij (by omega) hi' hj' h0
  ·rw [hb, h2 hd]
   exact ⟨fun h => absurd (down h) hd, fun _ => rfl⟩
theorem nextR_eq (fl : List FT) (pa : List PT) (ms : List MT) (gs : List Int) : nextR fl pa ms gs = if Market fl pa ∧ MovesV fl pa ms ∧ GoneV pa gs then (if Dist ms gs pa pa.length then (fl, kept ms gs pa pa.length, 0) else ([], [], 22)) else ([], [], 1) := by
 unfold nextR
 by_cases h : Market fl pa ∧ MovesV fl pa ms ∧ GoneV pa gs
 ·rw [if_pos h, if_pos ⟨(marketOk_iff fl pa).2 h.1, (movesB_iff h.1 ms).2 h.2.1, (goneB_iff h.1 gs).2 h.2.2⟩]
  obtain ⟨h1, h2⟩ := nxM_spec ms gs pa pa.length (Nat.le_refl _)
  by_cases hd : Dist ms gs pa pa.length
  ·obtain ⟨V, hV, _⟩ := h1 hd
   rw [if_pos hd, hV]
   rfl
  ·rw [if_neg hd, h2 hd]
   rfl
 ·rw [if_neg h, if_neg]
  rintro ⟨h1, h2, h3⟩
  have hm := (marketOk_iff fl pa).1 h1
  exact h ⟨hm, (movesB_iff hm ms).1 h2, (goneB_iff hm gs).1 h3⟩
theorem Next_f {fl : List FT} {pa : List PT} {ms : List MT} {gs : List Int} (h : FewM fl pa) (hm : ms.length ≤ 1000000) (hg : gs.length ≤ 1000000) : chain_Next.f fl pa ms gs = some (nextR fl pa ms gs) := by
 unfold chain_Next.f fewN
 rw [if_pos (by rw [few_M h, Bool.true_and]; exact decide_eq_true ⟨by omega, by omega⟩)]
theorem kept_len (ms : List MT) (gs : List Int) (pa : List PT) (n : Nat) : (kept ms gs pa n).length = (stay gs pa n).length := by unfold kept; rw [List.length_map]
theorem kept_at (ms : List MT) (gs : List Int) (pa : List PT) (n : Nat) {a : Nat} (ha : a < (stay gs pa n).length) : rd_T46 (kept ms gs pa n) (a : Int) = newP ms pa ((stay gs pa n)[a]) := by
 rw [pa_get _ a (by rw [kept_len]; exact ha)]
 unfold kept
 rw [List.getElem_map]
section
variable {fl : List FT} {pa : List PT} {ms : List MT} {gs : List Int} (hM : Market fl pa) (hV : MovesV fl pa ms)
include hM hV
end
theorem stay_nil (pa : List PT) (n : Nat) : stay [] pa n = List.range n := by
 unfold stay
 rw [List.filter_eq_self]
 intro i _
 rfl
theorem goneV_nil (pa : List PT) : GoneV pa [] := ⟨fun k hk => absurd hk (Nat.not_lt_zero _), fun j k _ hk => absurd hk (Nat.not_lt_zero _)⟩
section
variable {fl : List FT} {pa : List PT} {l : List GT} (hM : Market fl pa) (hR : RingsR fl pa l)
include hM hR
theorem go_moves (rs : List YT) (due : Int) : MovesV fl pa (goR rs due l l.length) := ⟨fun _ hx => go_fit hM hR rs due hx, go_homes hR rs due⟩
theorem go_dist (rs : List YT) (due : Int) (gs : List Int) : Dist (goR rs due l l.length) gs pa pa.length := by
 intro i j hij hj _ _ h0 e
 have hi : i < pa.length := by omega
 have hh := go_homes hR rs due
 have ht := go_tos hR rs due
 have key : ∀ p q, p < pa.length → q < pa.length → p ≠ q → ∀ k, k < (goR rs due l l.length).length → (mv (goR rs due l l.length) k).f0 = pid pa p → toM (goR rs due l l.length) (goR rs due l l.length).length (pid pa q) = none → (mv (goR rs due l l.length) k).f2 = pfl pa q → False := by
  intro p q hp hq _ k hk _ hno e2
  rcases go_closed hR rs due (mv_mem hk) with hf | ⟨y, hy, ey⟩
  ·exact hf q hq e2.symm
  ·obtain ⟨q', hq', e3, e4, _⟩ := go_fit hM hR rs due hy
   have hpos : 1 ≤ (mv (goR rs due l l.length) k).f2 := by
    obtain ⟨_, _, _, _, hf⟩ := go_fit hM hR rs due (mv_mem hk)
    exact hf.pos hM.flv
   have e5 : pfl pa q' = pfl pa q := by rw [e4, ey, e2]
   have : q' = q := hM.flat_inj hq' hq (by rw [e5, ← e2]; omega) e5
   subst this
   obtain ⟨k', hk', e6⟩ := List.mem_iff_getElem.1 hy
   have := toM_none hno k' hk'
   rw [mv_get _ k' hk', e6] at this
   exact this e3.symm
 unfold flA at h0 e
 cases hxi : toM (goR rs due l l.length) (goR rs due l l.length).length (pid pa i) with
 | none =>
  rw [hxi] at e
  cases hxj : toM (goR rs due l l.length) (goR rs due l l.length).length (pid pa j) with
  | none =>
   rw [hxj] at e h0
   exact hM.dis i j hij hj h0 e
  | some t =>
   rw [hxj] at e
   obtain ⟨k, hk, e1, e2⟩ := toM_some hxj
   exact key j i hj hi (by omega) k hk e1 hxi (e2.trans e.symm)
 | some s =>
  rw [hxi] at e
  obtain ⟨k, hk, e1, e2⟩ := toM_some hxi
  cases hxj : toM (goR rs due l l.length) (goR rs due l l.length).length (pid pa j) with
  | none =>
   rw [hxj] at e
   exact key i j hi hj (by omega) k hk e1 hxj (e2.trans e)
  | some t =>
   rw [hxj] at e
   obtain ⟨k', hk', e1', e2'⟩ := toM_some hxj
   have e' : s = t := e
   have hkk : k = k' := by
    rcases Nat.lt_trichotomy k k' with h | h | h
    ·exact absurd (by rw [e2, e2', e']) ((nodup_index _ _).1 ht k k' h hk')
    ·exact h
    ·exact absurd (by rw [e2, e2', e']) ((nodup_index _ _).1 ht k' k h hk)
   subst hkk
   have := hM.asc i j hij hj
   rw [e1] at e1'
   omega
end
end Go.Proofs.Ytocbiggglnpeoaa.P
end
section
namespace Go.Proofs.Ytocbiggglnpeoaa.P
open Go.RowKit Go.Proofs.YtocbiggglnpeoaaW.PrintWords Go.Proofs.YtocbiggglnpeoaaW.PrintLast Go.Proofs.YtocbiggglnpeoaaW.PrintMore Go.Proofs.YtocbiggglnpeoaaH
open Classical
theorem head26 : Ev (fun k => cohousinglaw26_head.f k) true := Ev.of_mono 60 (by kernel_rfl) (fun k => cohousinglaw26_head.mono k)
theorem on_f {a : Int} (h0 : 0 ≤ a) (h1 : a ≤ 65535) : cohousinglaw26_on.f a = some (a % 36525) := by
 unfold cohousinglaw26_on.f
 rw [show wrap64 a = a by unfold wrap64; omega, Int.tmod_eq_emod_of_nonneg h0]
theorem go_few {rs : List YT} {due : Int} {l : List GT} (hl : l.length ≤ 20) (hm : ∀ i, i < l.length → (rg l i).f1.length ≤ 30) : (goR rs due l l.length).length ≤ 20000 := by
 have h1 := (goR_sub rs due l l.length (Nat.le_refl _)).length_le
 have h2 := ahead_len l (fun i hi => by have := hm i hi; omega) l.length (Nat.le_refl _)
 omega
theorem next_go {fl : List FT} {pa : List PT} {l : List GT} (hM : Market fl pa) (hR : RingsR fl pa l) (rs : List YT) (due : Int) : nextR fl pa (goR rs due l l.length) [] = (fl, kept (goR rs due l l.length) [] pa pa.length, 0) := by
 rw [nextR_eq, if_pos ⟨hM, go_moves hM hR rs due, goneV_nil pa⟩, if_pos (go_dist hM hR rs due [])]
theorem kept_nil_at (ms : List MT) (pa : List PT) {i : Nat} (hi : i < pa.length) : rd_T46 (kept ms [] pa pa.length) (i : Int) = newP ms pa i := by
 have hl : i < (stay [] pa pa.length).length := by rw [stay_nil, List.length_range]; exact hi
 rw [kept_at ms [] pa _ hl]
 congr 1
 simp [stay_nil]
theorem kept_nil_len (ms : List MT) (pa : List PT) : (kept ms [] pa pa.length).length = pa.length := by rw [kept_len, stay_nil, List.length_range]
end Go.Proofs.Ytocbiggglnpeoaa.P
end
section
namespace Go.Proofs.YtocbiggglnpeoaaH
open Go.RowKit Go.ChangeShapes Go.WideShapes Go.Proofs.YtocbiggglnpeoaaW.PrintWords
def Opens {α : Type} (P : Program) (d : Kd α) (t : TypeId) : Prop :=
 ∀ {H : Type} {enc : TypeId × Value → H} {w : World} {base : Nat} {spare : Nat → Bool} {held : Bool} {fuel : Nat} {cs : List Value} {x : DataW H × List MemPlace}, DataW.trod enc P w base spare held fuel t cs = some x → ∃ a : α, d.K w a cs
theorem Opens.int {P : Program} {t : TypeId} {k : IntKind} (h : P.underlying t = some (.int k)) : Opens P (Kd.int k) t := by
 intro H enc w base spare held fuel cs x hx
 obtain ⟨n, rfl, _, _⟩ := DataW.trod_int h hx
 exact ⟨n, rfl⟩
theorem Opens.iso {α β : Type} {P : Program} {d : Kd α} {t : TypeId} (f : β → α) (g : α → β) (hfg : ∀ a, f (g a) = a) (h : Opens P d t) : Opens P (Kd.iso d f) t := by
 intro H enc w base spare held fuel cs x hx
 obtain ⟨a, ha⟩ := h hx
 refine ⟨g a, ?_⟩
 show d.K w (f (g a)) cs
 rw [hfg]
 exact ha
def Segs {β : Type} (P : Program) (d : Kd β) (fs : List Field) (o z : Nat) : Prop :=
 ∀ {H : Type} {enc : TypeId × Value → H} {w : World} {base : Nat} {spare : Nat → Bool} {held : Bool} {fuel : Nat} {cs : List Value}, cs.length = z →
  (∀ f ∈ fs, ∃ x : DataW H × List MemPlace, DataW.trod enc P w base spare held fuel f.type ((cs.drop f.offset).take (P.cellsOf f.type)) = some x) → ∃ b : β, d.K w b (cs.drop o)
theorem Segs.one {α : Type} {P : Program} {d : Kd α} {f : Field} {o z : Nat} (h : Opens P d f.type) (ho : f.offset = o) (hz : z = o + P.cellsOf f.type) : Segs P d [f] o z := by
 intro H enc w base spare held fuel cs hl hf
 obtain ⟨x, hx⟩ := hf f (by simp)
 obtain ⟨a, ha⟩ := h hx
 refine ⟨a, ?_⟩
 rw [ho, List.take_of_length_le (by rw [List.length_drop]; omega)] at ha
 exact ha
theorem Segs.cons {α β : Type} {P : Program} {d : Kd α} {d' : Kd β} {f : Field} {fs : List Field} {o o' z : Nat} (h : Opens P d f.type) (ho : f.offset = o) (ho' : o' = o + P.cellsOf f.type) (hr : Segs P d' fs o' z) : Segs P (Kd.pair d d') (f :: fs) o z := by
 intro H enc w base spare held fuel cs hl hf
 obtain ⟨x, hx⟩ := hf f (by simp)
 obtain ⟨a, ha⟩ := h hx
 obtain ⟨b, hb⟩ := hr hl (fun f' h' => hf f' (List.mem_cons_of_mem _ h'))
 refine ⟨(a, b), _, _, ?_, ha, hb⟩
 rw [ho, ho', ← List.drop_drop, List.take_append_drop]
theorem Opens.struct {β : Type} {P : Program} {d : Kd β} {t : TypeId} {fs : Array Field} (h : P.underlying t = some (.struct fs)) (hr : Segs P d fs.toList 0 (P.cellsOf t)) : Opens P d t := by
 intro H enc w base spare held fuel cs x hx
 obtain ⟨xs, n, _, _, hl, hxl, hf⟩ := DataW.trod_struct h hx
 have := hr (enc := enc) (w := w) (base := base) (spare := spare) (held := held) (fuel := n) (cs := cs) hl (fun f hm => by
  obtain ⟨i, hi, rfl⟩ := List.mem_iff_getElem.1 hm
  have hi' : i < fs.size := by simpa using hi
  have h1 := hf i fs[i] (by simp [hi'])
  refine ⟨xs[i]'(by omega), ?_⟩
  rw [Array.getElem_toList]
  rw [h1]
  simp [hxl, hi'])
 rw [List.drop_zero] at this
 exact this
theorem Opens.row {α : Type} {P : Program} {d : Kd α} {t e : TypeId} (ht : P.underlying t = some (.slice e)) (hsz : P.cellsOf e = d.sz) (he : Opens P d e) {H : Type} {enc : TypeId × Value → H} {w : World} {base : Nat} {spare : Nat → Bool} {held : Bool} {fuel : Nat} {cs : List Value} {x : DataW H × List MemPlace}
  (hx : DataW.trod enc P w base spare held fuel t cs = some x) : ∃ A len cap, cs = [.slice A len cap] ∧ ∃ xs : List α, xs.length = len ∧ len ≤ cap ∧ d.C w A len xs := by
 rcases Deep.open_slice ht hx with ⟨rfl, _⟩ | ⟨a, len, cap, m, n, D, Pl, rfl, _, hl, hm, hmm, _, hel⟩
 ·exact ⟨none, 0, 0, rfl, [], rfl, Nat.le_refl _, rfl, by omega, fun h => absurd h (Nat.lt_irrefl _)⟩
 ·have hlm : len ≤ m := by rw [hmm]; split <;> omega
  have each : ∀ i, i < len → ∃ a' : α, ∃ cs', cs'.length = d.sz ∧ d.K w a' cs' ∧ ∀ j u, cs'[j]? = some u → w.cell? (a.add (i * d.sz + j)) = some u := by
   intro i hi
   obtain ⟨cs', h1, h2⟩ := hel i (by omega)
   obtain ⟨a', ha'⟩ := he h2
   obtain ⟨_, hlen, hcell⟩ := World.cells?_some h1
   refine ⟨a', cs', by omega, ha', fun j u hj => ?_⟩
   have hjl : j < cs'.length := (List.getElem?_eq_some_iff.1 hj).1
   have := hcell j (by omega)
   rw [Deep.add_add, hsz] at this
   rw [this, hj]
  obtain ⟨xs, hxs⟩ : ∃ xs : List α, xs.length = len ∧ ∀ i (h : i < xs.length), ∃ cs', cs'.length = d.sz ∧ d.K w xs[i] cs' ∧ ∀ j u, cs'[j]? = some u → w.cell? (a.add (i * d.sz + j)) = some u := by
   have key : ∀ k, k ≤ len → ∃ xs : List α, xs.length = k ∧ ∀ i (h : i < xs.length), ∃ cs', cs'.length = d.sz ∧ d.K w xs[i] cs' ∧ ∀ j u, cs'[j]? = some u → w.cell? (a.add (i * d.sz + j)) = some u := by
    intro k
    induction k with
    | zero => intro _; exact ⟨[], rfl, fun i h => absurd h (Nat.not_lt_zero _)⟩
    | succ k ih =>
     intro hk
     obtain ⟨xs, hl, hxs⟩ := ih (by omega)
     obtain ⟨a', ha'⟩ := each k (by omega)
     refine ⟨xs ++ [a'], by simp [hl], fun i h => ?_⟩
     by_cases hi : i < xs.length
     ·rw [List.getElem_append_left hi]
      exact hxs i hi
     ·have e : i = xs.length := by simp at h; omega
      subst e
      rw [List.getElem_append_right (Nat.le_refl _)]
      simp only [Nat.sub_self, List.getElem_cons_zero]
      rw [hl]
      exact ha'
   exact key len (Nat.le_refl _)
  refine ⟨some a, len, cap, rfl, xs, hxs.1, hl, hxs.1, ?_, fun _ => ⟨a, rfl, fun j p hj => ?_⟩⟩
  ·have : maxLen = 2 ^ 63 - 1 := rfl
   omega
  ·obtain ⟨hjl, rfl⟩ := List.getElem?_eq_some_iff.1 hj
   exact hxs.2 j hjl
theorem Opens.slice {α : Type} {P : Program} {d : Kd α} {t e : TypeId} (ht : P.underlying t = some (.slice e)) (hsz : P.cellsOf e = d.sz) (he : Opens P d e) : Opens P (Kd.slice e d) t := by
 intro H enc w base spare held fuel cs x hx
 obtain ⟨A, len, cap, rfl, xs, rfl, hl, hC⟩ := Opens.row ht hsz he hx
 exact ⟨xs, A, cap, rfl, hl, hC⟩
theorem open_arg {α : Type} {P : Program} {d : Kd α} {t e : TypeId} (ht : P.underlying t = some (.slice e)) (hsz : P.cellsOf e = d.sz) (he : Opens P d e) {H : Type} {enc : TypeId × Value → H} {w : World} {base : Nat} {spare : Nat → Bool} {held : Bool} {A : Option Addr} {len cap : Nat} {x : DataW H} {ps : List MemPlace}
  (hx : DataW.Trod enc P w base spare held t (.slice A len cap) x ps) : ∃ xs : List α, xs.length = len ∧ len ≤ cap ∧ d.C w A len xs := by
 obtain ⟨fuel, hf⟩ := hx
 obtain ⟨A', len', cap', e1, r⟩ := Opens.row ht hsz he hf
 simp [Value.cells] at e1
 obtain ⟨rfl, rfl, rfl⟩ := e1
 exact r
theorem open_agg {α : Type} {P : Program} {d : Kd α} {t : TypeId} (he : Opens P d t) {H : Type} {enc : TypeId × Value → H} {w : World} {base : Nat} {spare : Nat → Bool} {held : Bool} {v : Value} {x : DataW H} {ps : List MemPlace}
  (hx : DataW.Trod enc P w base spare held t v x ps) : ∃ a : α, d.K w a v.cells.toList := by
 obtain ⟨fuel, hf⟩ := hx
 exact he hf
theorem sized_arg {H : Type} {enc : TypeId × Value → H} {P : Program} {W : World} {base : Nat} {spare : Nat → Bool} {held : Bool} {t e : TypeId} {a : Option Addr} {len cap : Nat} {d : DataW H} {ps : List MemPlace} {ts : List TypeId} {ds : List (DataW H)} {j : Nat}
  (hsz : (DataW.weightsEach P ts ds).all (· ≤ reachBytes) = true) (ht : ts[j]? = some t) (hd : ds[j]? = some d) (hu : P.underlying t = some (.slice e)) {B : Nat} (hB : P.bytesOf e = B)
  (h : DataW.Trod enc P W base spare held t (.slice a len cap) d ps) : len * B ≤ 140737488351232 := by
 obtain ⟨fuel, hf⟩ := h
 rcases Deep.open_slice hu hf with ⟨hcs, _⟩ | ⟨x, l, c, m, n, D, Pl, hcs, _, hl, _, hm, hx, _⟩
 ·simp [Value.cells] at hcs
  obtain ⟨rfl, rfl, rfl⟩ := hcs
  simp
 ·simp [Value.cells] at hcs
  obtain ⟨rfl, rfl, rfl⟩ := hcs
  obtain ⟨hx, _⟩ := Prod.mk.inj hx
  subst hx
  have z := sized_slice hsz ht hd hu
  rw [hB] at z
  simp only [List.length_map, List.length_range] at z
  exact Nat.le_trans (Nat.mul_le_mul_right _ (Nat.le_add_right _ _)) z
end Go.Proofs.YtocbiggglnpeoaaH
end
section
namespace Go.Proofs.YtocbiggglnpeoaaH
open Go.RowKit Go.ChangeShapes Go.WideShapes Go.Proofs.YtocbiggglnpeoaaW.PrintWords
theorem Opens.bool {P : Program} {t : TypeId} (h : P.underlying t = some .bool) : Opens P Kd.bool t := by
 intro H enc w base spare held fuel cs x hx
 obtain ⟨b, rfl, _⟩ := DataW.trod_bool h hx
 exact ⟨b, rfl⟩
end Go.Proofs.YtocbiggglnpeoaaH
end
section
namespace Go.Proofs.YtocbiggglnpeoaaH
open Go.RowKit Go.ChangeShapes Go.WideShapes Go.Proofs.YtocbiggglnpeoaaW.PrintWords
theorem open_two_rows {α β : Type} {P : Program} {d : Kd α} {d' : Kd β} {t e e' : TypeId} {fs : Array Field} (hu : P.underlying t = some (.struct fs)) (he : Opens P (Kd.pair (Kd.slice e d) (Kd.slice e' d')) t) {H : Type} {enc : TypeId × Value → H} {w : World} {r : Reach} {base : Nat} {spare : Nat → Bool} {held : Bool} {v : Value} {x : DataW H} {ps : List MemPlace}
  (ok : Value.okWide P w r base t v) (hx : DataW.Trod enc P w 0 spare held t v x ps) : ∃ A c A' c', ∃ xs : List α, ∃ ys : List β, v = .agg #[.slice A xs.length c, .slice A' ys.length c'] ∧ d.C w A xs.length xs ∧ xs.length ≤ c ∧ d'.C w A' ys.length ys ∧ ys.length ≤ c' := by
 obtain ⟨cs, rfl, _⟩ := okWide_struct hu ok
 obtain ⟨⟨xs, ys⟩, c1, c2, hcs, ⟨A, cap, h1, hl1, hC1⟩, ⟨A', cap', h2, hl2, hC2⟩⟩ := open_agg he hx
 refine ⟨A, cap, A', cap', xs, ys, ?_, hC1, hl1, hC2, hl2⟩
 have hcs' : cs.toList = c1 ++ c2 := hcs
 rw [h1, h2] at hcs'
 have : cs = (cs.toList).toArray := rfl
 rw [this, hcs']
 rfl
end Go.Proofs.YtocbiggglnpeoaaH
end
