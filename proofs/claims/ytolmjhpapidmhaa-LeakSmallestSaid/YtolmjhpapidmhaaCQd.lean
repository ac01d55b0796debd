/- Part 4 of the base that the seat's proofs share: words, walks and plain laws. -/
import Derived.ArgAppend
import Derived.Below
import Derived.BigQuiet
import Derived.ChangeOld
import Derived.ChangeSlices
import Derived.Deep.AppendLies
import Derived.Deep.CutBlock
import Derived.Deep.DeepCutAuto
import Derived.Deep.Draws
import Derived.Deep.LoopGhost
import Derived.Deep.OwnRows
import Derived.Deep.QuietTactic
import Derived.Deep.RegionHeld3
import Derived.Deep.Slices
import Derived.KernelRfl
import Derived.Laws.BitsLemmas
import Derived.Laws.BytesArg
import Derived.Laws.IdiomCopy
import Derived.Laws.MakeOwn
import Derived.Laws.OwnMore
import Derived.Laws.Rows
import Derived.Laws.Slices
import Derived.Laws.StructEq
import Derived.Lib.AppendStr
import Derived.Lib.BufferOwn
import Derived.Lib.ConvBytes
import Derived.Lib.SliceRun
import Derived.LoopIn
import Derived.LoopNIn
import Derived.Maps.AppendAt
import Derived.Maps.Own
import Derived.OpenShut
import Derived.OrdersHeld
import Derived.OwnWalk
import Derived.OwnWalkIn
import Derived.ProofKit
import Derived.RangeFuncBound
import Derived.RangeFuncCalls
import Derived.RangeFuncLeaves
import Derived.RangeFuncNested
import Derived.RowKit
import Derived.RowKit3
import Derived.ShutString
import Derived.SizedLaws
import Derived.Tactics
import Derived.TacticsInMore
import Derived.Test.YtolmjhpapidmhaaProg
import Derived.WalkKit
import Derived.WideLaws
import Derived.Test.YtolmjhpapidmhaaCQc
set_option linter.unusedVariables false
set_option linter.unusedSimpArgs false
section
namespace Go.Proofs.Ytolmjhpapidmhaa.P
open Go.RowKit Go.Proofs.YtolmjhpapidmhaaW.PrintWords Go.Proofs.YtolmjhpapidmhaaW.PrintLast Go.Proofs.YtolmjhpapidmhaaW.PrintMore Go.Proofs.YtolmjhpapidmhaaH Go.Proofs.FlowTree
open Classical
abbrev pp (l : List PI) (j : Nat) : PI := rd_T44 l (j : Int)
theorem pp_get (l : List PI) (j : Nat) (h : j < l.length) : pp l j = l[j] := by simp [pp, rd_T44, List.getD_eq_getElem?_getD, h]
theorem pp_map (f : Nat → PI) (n j : Nat) (h : j < n) : pp ((List.range n).map f) j = f j := by
 simp [pp, rd_T44, List.getD_eq_getElem?_getD, h]
theorem pp_set (l : List PI) (i j : Nat) (y : PI) (hi : i < l.length) : pp (l.set i y) j = if i = j then y else pp l j := by
 simp only [pp, rd_T44, Int.toNat_natCast, List.getD_eq_getElem?_getD, List.getElem?_set]
 by_cases h : i = j
 ·subst h; simp [hi]
 ·simp [h]
theorem pp_ext {a b : List PI} (hl : a.length = b.length) (h : ∀ j, j < a.length → pp a j = pp b j) : a = b := by
 refine List.ext_getElem hl fun j h1 h2 => ?_
 have := h j h1
 rwa [pp_get a j h1, pp_get b j h2] at this
def LL (l : List PI) (ss : List Int) : List PI := (List.range l.length).map (fun j : Nat => if (j : Int) ∈ ss then (⟨idP l j, abP l j, 1000000000⟩ : PI) else pp l j)
theorem LL_len (l : List PI) (ss : List Int) : (LL l ss).length = l.length := by simp [LL]
theorem LL_pp (l : List PI) (ss : List Int) (j : Nat) (h : j < l.length) : pp (LL l ss) j = if (j : Int) ∈ ss then (⟨idP l j, abP l j, 1000000000⟩ : PI) else pp l j := pp_map _ _ _ h
def InR (n : Nat) (ss : List Int) : Prop := ∀ x ∈ ss, 0 ≤ x ∧ x < n
theorem rd_in {n : Nat} {ss : List Int} (h : InR n ss) (j : Nat) (hj : j < ss.length) : 0 ≤ rd ss (j : Int) ∧ rd ss (j : Int) < n := h _ (by rw [rd_at ss j hj]; exact List.getElem_mem hj)
theorem leakS_at (n : Nat) (ss : List Int) (h : InR n ss) : ∀ m, m ≤ ss.length → ∀ j : Nat, j < n → (rdOf false (leakS n ss m) (j : Int) = true ↔ (j : Int) ∈ ss.take m) := by
 intro m
 induction m with
 | zero =>
  intro _ j hj
  simp [leakS, rdOf, List.getD_eq_getElem?_getD, hj]
 | succ m ih =>
  intro hm j hj
  have hin := rd_in h m (by omega)
  rw [leakS_succ, List.take_succ_eq_append_getElem (by omega), List.mem_append, ← ih (by omega) j hj, List.mem_singleton, ← rd_at ss m (by omega)]
  simp only [rdOf, Int.toNat_natCast, List.getD_eq_getElem?_getD, List.getElem?_set]
  by_cases e : (rd ss (m : Int)).toNat = j
  ·have hl : j < (leakS n ss m).length := by rw [leakS_len]; exact hj
   rw [if_pos e, e, if_pos hl]
   simp
   right
   omega
  ·rw [if_neg e]
   constructor
   ·intro h; exact .inl h
   ·rintro (h | h)
    ·exact h
    ·exact absurd (by omega) e
theorem leakP_at (l : List PI) (ys : List Bool) : ∀ m, m ≤ l.length → ∀ j : Nat, j < l.length → pp (leakP l ys m) j = if j < m ∧ rdOf false ys (j : Int) = true then (⟨idP l j, abP l j, 1000000000⟩ : PI) else pp l j := by
 intro m
 induction m with
 | zero => intro _ j _; rw [if_neg (by omega)]; rfl
 | succ m ih =>
  intro hm j hj
  rw [leakP_succ]
  by_cases hb : rdOf false ys (m : Int) = true
  ·rw [if_pos hb, pp_set _ _ _ _ (by rw [leakP_len]; omega)]
   by_cases e : m = j
   ·subst e
    rw [if_pos rfl, if_pos ⟨by omega, hb⟩]
    have h1 := ih (by omega) m (by omega)
    rw [if_neg (by omega)] at h1
    have h2 : rd_T44 (leakP l ys m) (m : Int) = pp l m := h1
    rw [h2]
   ·rw [if_neg e, ih (by omega) j hj]
    by_cases h2 : j < m ∧ rdOf false ys (j : Int) = true
    ·rw [if_pos h2, if_pos ⟨by omega, h2.2⟩]
    ·rw [if_neg h2, if_neg (fun h => h2 ⟨by omega, h.2⟩)]
  ·rw [if_neg hb, ih (by omega) j hj]
   by_cases h2 : j < m ∧ rdOf false ys (j : Int) = true
   ·rw [if_pos h2, if_pos ⟨by omega, h2.2⟩]
   ·rw [if_neg h2, if_neg (fun h => h2 ⟨by
     have : j ≠ m := fun e => hb (e ▸ h.2)
     omega, h.2⟩)]
theorem leakP_LL (l : List PI) (ss : List Int) (h : InR l.length ss) : leakP l (leakS l.length ss ss.length) l.length = LL l ss := by
 refine pp_ext (by rw [leakP_len, LL_len]) fun j hj => ?_
 rw [leakP_len] at hj
 rw [leakP_at l _ l.length (Nat.le_refl _) j hj, LL_pp l ss j hj]
 have h1 := leakS_at l.length ss h ss.length (Nat.le_refl _) j hj
 rw [List.take_of_length_le (Nat.le_refl _)] at h1
 by_cases e : (j : Int) ∈ ss
 ·rw [if_pos e, if_pos ⟨hj, h1.2 e⟩]
 ·rw [if_neg e, if_neg (fun h => e (h1.1 h.2))]
section
variable (l : List PI) (ss : List Int)
theorem LL_idP (j : Nat) (h : j < l.length) : idP (LL l ss) j = idP l j := by
 show (pp (LL l ss) j).f0 = _
 rw [LL_pp l ss j h]
 split <;> rfl
theorem LL_abP (j : Nat) (h : j < l.length) : abP (LL l ss) j = abP l j := by
 show (pp (LL l ss) j).f1 = _
 rw [LL_pp l ss j h]
 split <;> rfl
theorem LL_loP (j : Nat) (h : j < l.length) : loP (LL l ss) j = if (j : Int) ∈ ss then 1000000000 else loP l j := by
 show (pp (LL l ss) j).f2 = _
 rw [LL_pp l ss j h]
 split <;> rfl
theorem LL_kids (i : Nat) (hi : i < l.length) : kidsAt (LL l ss) (LL l ss).length i = kidsAt l l.length i := by
 unfold kidsAt
 rw [LL_len]
 refine List.filter_congr fun k hk => ?_
 rw [List.mem_range] at hk
 rw [LL_abP l ss k hk, LL_idP l ss i hi]
theorem LL_ok (h : okL l) : okL (LL l ss) := by
 intro i hi
 rw [LL_len] at hi
 have h1 := h i hi
 unfold okP at h1 ⊢
 rw [LL_idP l ss i hi, LL_abP l ss i hi]
 refine ⟨h1.1, fun h0 => ?_, ?_, fun ha => ?_⟩
 ·rw [LL_idP l ss (i - 1) (by omega)]
  exact h1.2.1 h0
 ·rw [LL_loP l ss i hi]
  split
  ·omega
  ·exact h1.2.2.1
 ·obtain ⟨j, hj, e⟩ := h1.2.2.2 ha
  exact ⟨j, hj, by rw [LL_idP l ss j (by omega)]; exact e⟩
theorem LL_good {r : List RG} (h : Good l r) : Good (LL l ss) r := ⟨LL_ok l ss h.ok, by rw [LL_len]; exact h.n, by rw [LL_len]; exact h.len, by rw [LL_len]; exact h.vol⟩
end
theorem sol_wider {T T' : Net} {lo hi lo' hi' x : Nat → Int} (hn : T'.n = T.n) (hk : ∀ i, i < T.n → T'.kid i = T.kid i) (hl : ∀ i, i < T.n → T.kid i ≠ [] → T.loss i ≤ T'.loss i) (h1 : ∀ i, i < T.n → lo' i ≤ lo i ∧ hi i ≤ hi' i) (h : Sol T lo hi x) : Sol T' lo' hi' x := by
 refine ⟨fun i hi => ?_, fun i hi hk' => ?_⟩
 ·rw [hn] at hi
  have := h.1 i hi
  have := h1 i hi
  omega
 ·rw [hn] at hi
  rw [hk i hi] at hk' ⊢
  have h2 := h.2 i hi hk'
  have h3 := hl i hi hk'
  omega
def Has (l : List PI) (r : List RG) : Prop := ∃ x, Sol (netT l) (lo9 r) (hi9 r) x
theorem exact_has {l : List PI} {r : List RG} (_ : Good l r) {d : List IV} (h : Exact l (lo9 r) (hi9 r) d) : Has l r := by
 by_cases h0 : l.length = 0
 ·refine ⟨fun _ => 0, fun i hi => ?_, fun i hi => ?_⟩
  ·have : i < l.length := hi
   omega
  ·have : i < l.length := hi
   omega
 ·have r := h.rng 0 (by omega)
  obtain ⟨x, hx, _⟩ := h.had 0 (by omega) (Lo d 0) (by omega) (by omega)
  exact ⟨x, hx⟩
theorem bounds_has {l : List PI} {r : List RG} (hg : Good l r) : ((boundsR l r).2 = 0 ↔ Has l r) ∧ ((boundsR l r).2 = 0 ∨ (boundsR l r).2 = 30) := by
 have h := boundsR_is l r
 generalize boundsR l r = b at h
 cases h with
 | arg hn => exact absurd hg hn
 | flow _ hs => exact ⟨⟨fun h => absurd h (by decide), fun h => absurd h hs⟩, .inr rfl⟩
 | ok d _ he =>
  refine ⟨⟨fun _ => ?_, fun _ => rfl⟩, .inl rfl⟩
  exact exact_has hg he
theorem bounds_one (l : List PI) (r : List RG) : (boundsR l r).2 = 1 ↔ ¬ Good l r := by
 have h := boundsR_is l r
 generalize boundsR l r = b at h
 cases h with
 | arg hn => exact ⟨fun _ => hn, fun _ => rfl⟩
 | flow hg _ => exact ⟨fun h => absurd h (by decide), fun h => absurd hg h⟩
 | ok d hg he => exact ⟨(fun h => by cases h), fun h => absurd hg h⟩
theorem ex_iff {l : List PI} {r : List RG} (hg : Good l r) {ss : List Int} (h : InR l.length ss) : explB l r ss = true ↔ Has (LL l ss) r := by
 unfold explB
 rw [leakP_LL l ss h, beq_iff_eq]
 exact (bounds_has (LL_good l ss hg)).1
def par (l : List PI) (x : Int) : Bool := l.any (isAb (pp l x.toNat).f0)
theorem par_kids {l : List PI} (hok : okL l) {i : Nat} (hi : i < l.length) : par l (i : Int) = true ↔ kidsAt l l.length i ≠ [] := by
 unfold par
 rw [Int.toNat_natCast, List.any_eq_true]
 constructor
 ·rintro ⟨q, hq, he⟩
  obtain ⟨k, hk, rfl⟩ := List.mem_iff_getElem.1 hq
  have h1 : abP l k = idP l i := by
   have := of_decide_eq_true he
   rw [← pp_get l k hk] at this
   exact this
  have h2 := hok k hk
  have h3 := hok i hi
  obtain ⟨j, hj, e⟩ := h2.2.2.2 (by have := h3.1; omega)
  have h4 := id_inj (m := l.length) (fun a ha => hok a ha) (by omega) hi (e.trans h1)
  intro hnil
  have h5 : k ∈ kidsAt l l.length i := kidsAt_mem.2 ⟨hk, by omega, h1⟩
  rw [hnil] at h5
  cases h5
 ·intro hne
  obtain ⟨k, hk⟩ := List.exists_mem_of_ne_nil _ hne
  obtain ⟨h1, _, h3⟩ := kidsAt_mem.1 hk
  refine ⟨l[k], List.getElem_mem h1, ?_⟩
  rw [← pp_get l k h1]
  exact decide_eq_true h3
theorem parN_eq (l : List PI) (n : Nat) : parN l n = (iv 0 n).filter (par l) := by
 induction n with
 | zero => rfl
 | succ n ih =>
  rw [parN_succ, iv_snoc, List.filter_append, ih]
  have e : (0 : Int) + (n : Int) = (n : Int) := by omega
  rw [e]
  by_cases h : par l (n : Int) = true
  ·rw [List.filter_cons_of_pos h, List.filter_nil, if_pos (by unfold par at h; rw [Int.toNat_natCast] at h; exact h)]
  ·rw [List.filter_cons_of_neg h, List.filter_nil, List.append_nil, if_neg (by unfold par at h; rw [Int.toNat_natCast] at h; exact h)]
theorem ex_more {l : List PI} {r : List RG} (hg : Good l r) {ss tt : List Int} (hs : InR l.length ss) (ht : InR l.length tt) (h : ∀ x ∈ ss, par l x = true → x ∈ tt) (he : explB l r ss = true) : explB l r tt = true := by
 rw [ex_iff hg ht]
 obtain ⟨x, hx⟩ := (ex_iff hg hs).1 he
 refine ⟨x, sol_wider (T := netT (LL l ss)) ?_ ?_ ?_ (fun i _ => ⟨Int.le_refl _, Int.le_refl _⟩) hx⟩
 ·simp [netT, LL_len]
 ·intro i hi
  simp only [netT, LL_len] at hi ⊢
  have h1 := LL_kids l ss i hi
  have h2 := LL_kids l tt i hi
  rw [LL_len] at h1 h2
  rw [h1, h2]
 ·intro i hi hk
  simp only [netT, LL_len] at hi hk ⊢
  have h1 := LL_kids l ss i hi
  rw [LL_len] at h1
  rw [h1] at hk
  rw [LL_loP l ss i hi, LL_loP l tt i hi]
  have hlo := (hg.ok i hi).2.2.1.2
  by_cases e : (i : Int) ∈ ss
  ·rw [if_pos (h _ e ((par_kids hg.ok hi).2 hk))]
   split <;> omega
  ·rw [if_neg e]
   split <;> omega
end Go.Proofs.Ytolmjhpapidmhaa.P
end
section
namespace Go.Proofs.Ytolmjhpapidmhaa.P
open Go.RowKit Go.Proofs.YtolmjhpapidmhaaW.PrintWords Go.Proofs.YtolmjhpapidmhaaW.PrintLast Go.Proofs.YtolmjhpapidmhaaW.PrintMore Go.Proofs.YtolmjhpapidmhaaH Go.Proofs.FlowTree
open Classical
def exs (l : List PI) (r : List RG) (s : Nat) : List (List Int) := (combos (iv 0 l.length) s).filter (explB l r)
theorem combos_in {n s : Nat} {c : List Int} (h : c ∈ combos (iv 0 n) s) : InR n c := fun x hx => by
 have := (mem_combos.1 h).2.subset hx
 rw [iv_mem] at this
 omega
theorem all_par {l : List PI} {r : List RG} (hg : Good l r) {s : Nat} (hmin : ∀ t, t < s → exs l r t = []) {c : List Int} (hc : c ∈ combos (iv 0 l.length) s) (he : explB l r c = true) : c.all (par l) = true := by
 rcases Decidable.em (c.all (par l) = true) with h | h
 ·exact h
 ·exfalso
  have hex : ∃ x ∈ c, ¬ par l x = true := by
   rcases Decidable.em (∃ x ∈ c, ¬ par l x = true) with h1 | h1
   ·exact h1
   ·exact absurd (List.all_eq_true.2 fun x hx => Decidable.by_contra fun hn => h1 ⟨x, hx, hn⟩) h
  obtain ⟨hl, hs⟩ := mem_combos.1 hc
  have hlt : (c.filter (par l)).length < s := by
   rw [← hl]
   exact List.length_filter_lt_length_iff_exists.2 hex
  have hin := combos_in hc
  have hin' : InR l.length (c.filter (par l)) := fun x hx => hin x (List.mem_filter.1 hx).1
  have h2 : explB l r (c.filter (par l)) = true := ex_more hg hin hin' (fun x hx hp => List.mem_filter.2 ⟨hx, hp⟩) he
  have h3 : c.filter (par l) ∈ exs l r (c.filter (par l)).length := List.mem_filter.2 ⟨mem_combos.2 ⟨rfl, List.filter_sublist.trans hs⟩, h2⟩
  rw [hmin _ hlt] at h3
  cases h3
theorem pick_exs {l : List PI} {r : List RG} (hg : Good l r) {s : Nat} (hmin : ∀ t, t < s → exs l r t = []) : pick l r (parN l l.length) [] 0 s = exs l r s := by
 unfold pick exs
 rw [List.drop_zero, parN_eq, combos_filter, show (fun x : List Int => ([] : List Int) ++ x) = id from rfl, List.map_id, List.filter_filter]
 refine List.filter_congr fun c hc => ?_
 cases he : explB l r c with
 | false => rfl
 | true => rw [all_par hg hmin hc he]; rfl
def smallR (l : List PI) (r : List RG) (s : Nat) : Nat → List (List Int)
 | 0 => []
 | d + 1 => if exs l r s = [] then smallR l r (s + 1) d else exs l r s
theorem smallM_eq {l : List PI} {r : List RG} (hg : Good l r) : ∀ (d s : Nat), (∀ t, t < s → exs l r t = []) → smallM l r (parN l l.length) s d = smallR l r s d := by
 intro d
 induction d with
 | zero => intro s _; rfl
 | succ d ih =>
  intro s hmin
  unfold smallM smallR
  rw [pick_exs hg hmin]
  by_cases h : exs l r s = []
  ·rw [if_pos h, if_pos h]
   exact ih (s + 1) (fun t ht => by
    by_cases e : t = s
    ·rw [e]; exact h
    ·exact hmin t (by omega))
  ·rw [if_neg h, if_neg h]
theorem small_spec (l : List PI) (r : List RG) : ∀ (d s : Nat), (smallR l r s d = [] ∧ ∀ t, s ≤ t → t < s + d → exs l r t = []) ∨ ∃ t, s ≤ t ∧ t < s + d ∧ smallR l r s d = exs l r t ∧ exs l r t ≠ [] ∧ ∀ u, s ≤ u → u < t → exs l r u = [] := by
 intro d
 induction d with
 | zero => intro s; exact .inl ⟨rfl, fun t h1 h2 => by omega⟩
 | succ d ih =>
  intro s
  unfold smallR
  by_cases h : exs l r s = []
  ·rw [if_pos h]
   rcases ih (s + 1) with ⟨h1, h2⟩ | ⟨t, h1, h2, h3, h4, h5⟩
   ·exact .inl ⟨h1, fun t ht1 ht2 => by
     by_cases e : t = s
     ·rw [e]; exact h
     ·exact h2 t (by omega) (by omega)⟩
   ·refine .inr ⟨t, by omega, by omega, h3, h4, fun u hu1 hu2 => ?_⟩
    by_cases e : u = s
    ·rw [e]; exact h
    ·exact h5 u (by omega) hu2
  ·rw [if_neg h]
   exact .inr ⟨s, Nat.le_refl _, by omega, rfl, h, fun u hu1 hu2 => by omega⟩
theorem LL_step (l : List PI) (ss : List Int) (h : InR l.length ss) (i : Nat) (hi : i < ss.length) : (LL l (ss.take i)).set (rd ss (i : Int)).toNat (⟨(rd_T44 (LL l (ss.take i)) (rd ss (i : Int))).f0, (rd_T44 (LL l (ss.take i)) (rd ss (i : Int))).f1, 1000000000⟩ : PI) = LL l (ss.take (i + 1)) := by
 have hr := rd_in h i hi
 obtain ⟨q, hq⟩ : ∃ q : Nat, rd ss (i : Int) = (q : Int) := ⟨(rd ss (i : Int)).toNat, by omega⟩
 have hql : q < l.length := by omega
 refine pp_ext (by rw [List.length_set, LL_len, LL_len]) fun j hj => ?_
 rw [List.length_set, LL_len] at hj
 rw [hq, Int.toNat_natCast, pp_set _ _ _ _ (by rw [LL_len]; exact hql), LL_pp _ _ j hj, LL_pp _ _ j hj]
 have e1 : (rd_T44 (LL l (ss.take i)) (q : Int)).f0 = idP l q := LL_idP l _ q hql
 have e2 : (rd_T44 (LL l (ss.take i)) (q : Int)).f1 = abP l q := LL_abP l _ q hql
 rw [e1, e2]
 have hm : ∀ x : Int, x ∈ ss.take (i + 1) ↔ x ∈ ss.take i ∨ x = (q : Int) := fun x => by
  rw [List.take_succ_eq_append_getElem hi, List.mem_append, List.mem_singleton, ← rd_at ss i hi, hq]
 by_cases e : q = j
 ·subst e
  rw [if_pos rfl, if_pos ((hm _).2 (.inr rfl))]
 ·rw [if_neg e]
  by_cases e3 : (j : Int) ∈ ss.take i
  ·rw [if_pos e3, if_pos ((hm _).2 (.inl e3))]
  ·rw [if_neg e3, if_neg (fun h => by rcases (hm _).1 h with h | h; exact e3 h; exact e (by omega))]
theorem leaking_l0 (l : List PI) (ss : List Int) (h : InR l.length ss) (hs : ss.length ≤ 140737488355328) : ∀ (d i : Nat), i + d = ss.length → Ev (fun k => cohousingref30_Leaking.l0 k ss (LL l (ss.take i)) (i : Int)) (LL l ss) := by
 intro d
 induction d with
 | zero =>
  intro i hi
  refine Ev.step ?_
  have h1 : ¬ ((i : Int) < (ss.length : Int)) := by omega
  simp only [cohousingref30_Leaking.l0, h1, if_false]
  rw [List.take_of_length_le (by omega)]
  exact Ev.pure _
 | succ d ih =>
  intro i hi
  refine Ev.step ?_
  have hr := rd_in h i (by omega)
  have h1 : (i : Int) < (ss.length : Int) := by omega
  have h2 : (0 : Int) ≤ (i : Int) := by omega
  have h3 : rd ss (i : Int) < ((LL l (ss.take i)).length : Int) := by rw [LL_len]; exact hr.2
  simp only [cohousingref30_Leaking.l0, h1, h2, h3, hr.1, if_true, wrap_nat (show i ≤ 140737488355328 by omega)]
  rw [LL_step l ss h i (by omega)]
  exact ih (i + 1) (by omega)
theorem LL_nil (l : List PI) : LL l [] = l := by
 refine pp_ext (LL_len _ _) fun j hj => ?_
 rw [LL_len] at hj
 rw [LL_pp l [] j hj, if_neg (by simp)]
theorem leaking_f (l : List PI) (ss : List Int) (h : InR l.length ss) (hs : ss.length ≤ 140737488355328) (hl : l.length ≤ 1000) : Ev (fun k => cohousingref30_Leaking.f k l ss) (LL l ss) := by
 have h1 : ([] : List PI).length + l.length < 5864062014805 := by simp only [List.length_nil]; omega
 unfold cohousingref30_Leaking.f
 simp only [h1, if_true, List.nil_append]
 have := leaking_l0 l ss h hs ss.length 0 (by omega)
 rw [List.take_zero, LL_nil] at this
 exact this
end Go.Proofs.Ytolmjhpapidmhaa.P
end
section
namespace Go.Proofs.Ytolmjhpapidmhaa.P
open Go.RowKit Go.Proofs.YtolmjhpapidmhaaW.PrintWords Go.Proofs.YtolmjhpapidmhaaW.PrintLast Go.Proofs.YtolmjhpapidmhaaW.PrintMore Go.Proofs.YtolmjhpapidmhaaH Go.Proofs.FlowTree
open Classical
theorem foldl_filter : ∀ (rr : List (List Int)) (s : List Int), rr.foldl (fun o t => o.filter (fun x => t.contains x)) s = s.filter (fun e => rr.all (fun t => t.contains e)) := by
 intro rr
 induction rr with
 | nil => intro s; exact (List.filter_eq_self.2 fun _ _ => rfl).symm
 | cons t rr ih =>
  intro s
  rw [List.foldl_cons, ih, List.filter_filter]
  refine List.filter_congr fun x _ => ?_
  rw [List.all_cons, Bool.and_comm]
theorem Ev.of_mono {α : Type} {f : Nat → Option α} {r : α} (k0 : Nat) (h0 : f k0 = some r) (h : ∀ k, LeO (f k) (f (k + 1))) : Ev f r := by
 refine ⟨k0, fun k hk => ?_⟩
 obtain ⟨d, rfl⟩ : ∃ d, k = k0 + d := ⟨k - k0, by omega⟩
 induction d with
 | zero => exact h0
 | succ d ih => exact h _ _ (ih (by omega))
theorem head30 : Ev (fun k => cohousinglaw30_head.f k) true := Ev.of_mono 60 (by kernel_rfl) (fun k => cohousinglaw30_head.mono k)
structure U (l : List PI) (r : List RG) (a : Int) : Prop where
 n : l.length ≤ 12
 m : r.length ≤ 20
 good : Good l r
 a0 : 0 ≤ a
 a3 : a ≤ 3
theorem few_f (l : List PI) (r : List RG) : cohousingref30_Few.f l r = some (decide (l.length ≤ 12 ∧ r.length ≤ 20)) := by
 unfold cohousingref30_Few.f
 by_cases h1 : (l.length : Int) ≤ 12
 ·rw [if_pos h1]
  congr 1
  exact decide_eq_decide.2 ⟨fun h => ⟨by omega, by omega⟩, fun h => by omega⟩
 ·rw [if_neg h1, decide_eq_false (fun h => h1 (by omega))]
theorem usable_f (l : List PI) (r : List RG) (a : Int) : Ev (fun k => cohousinglaw30_usable.f k l r a) (decide (U l r a)) := by
 unfold cohousinglaw30_usable.f
 simp only [few_f, Option.bind_some]
 by_cases h1 : l.length ≤ 12 ∧ r.length ≤ 20
 ·have hbel : cohousingref28_Belongs.f l r = some (belongsB l.length r) := by unfold cohousingref28_Belongs.f; rw [if_pos (by omega)]
  simp only [decide_eq_true h1, if_true, hbel, Option.bind_some]
  refine Ev.bnd (valid_f l (by omega)) ?_
  by_cases hg : Good l r
  ·have hgi := (good_iff l r).1 hg
   simp only [decide_eq_true hgi.1, hgi.2, if_true]
   by_cases h2 : a ≥ 0
   ·simp only [h2, if_true]
    rw [show decide (U l r a) = decide (a ≤ 3) from decide_eq_decide.2 ⟨fun h => h.a3, fun h => ⟨h1.1, h1.2, hg, h2, h⟩⟩]
    exact Ev.pure _
   ·simp only [h2, if_false]
    rw [decide_eq_false (fun h => h2 h.a0)]
    exact Ev.pure _
  ·rw [show decide (U l r a) = false from decide_eq_false (fun h => hg h.good)]
   by_cases hv : okL l ∧ l.length ≤ 200
   ·have hb : belongsB l.length r = false := by
     cases h : belongsB l.length r with
     | false => rfl
     | true => exact absurd ((good_iff l r).2 ⟨hv, h⟩) hg
    simp only [decide_eq_true hv, hb, if_true, Bool.false_eq_true, if_false]
    exact Ev.pure _
   ·simp only [decide_eq_false hv, Bool.false_eq_true, if_false]
    exact Ev.pure _
 ·simp only [decide_eq_false h1, Bool.false_eq_true, if_false]
  rw [decide_eq_false (fun h => h1 ⟨h.n, h.m⟩)]
  exact Ev.pure _
def okAt (n : Nat) (ss : List Int) (j : Nat) : Prop := 0 ≤ rd ss (j : Int) ∧ rd ss (j : Int) < n ∧ (0 < j → rd ss ((j - 1 : Nat) : Int) < rd ss (j : Int))
theorem okAt_combos (n : Nat) (ss : List Int) : (∀ j, j < ss.length → okAt n ss j) ↔ ss ∈ combos (iv 0 n) ss.length := by
 rw [mem_combos]
 constructor
 ·intro h
  refine ⟨rfl, sub_iv n 0 ss ?_ ?_⟩
  ·rw [List.pairwise_iff_getElem]
   have key : ∀ d i, i + d + 1 < ss.length → rd ss (i : Int) < rd ss ((i + d + 1 : Nat) : Int) := by
    intro d
    induction d with
    | zero =>
     intro i hi
     have := (h (i + 0 + 1) hi).2.2 (by omega)
     simpa using this
    | succ d ih =>
     intro i hi
     have h1 := ih i (by omega)
     have h2 := (h (i + (d + 1) + 1) hi).2.2 (by omega)
     rw [show i + (d + 1) + 1 - 1 = i + d + 1 by omega] at h2
     omega
   intro i j hi hj hij
   have h1 := key (j - i - 1) i (by omega)
   rw [show i + (j - i - 1) + 1 = j by omega, rd_at ss i hi, rd_at ss j hj] at h1
   exact h1
  ·intro x hx
   obtain ⟨j, hj, rfl⟩ := List.mem_iff_getElem.1 hx
   have := h j hj
   rw [okAt, rd_at ss j hj] at this
   omega
 ·rintro ⟨_, hs⟩ j hj
  have hp := (iv_lt 0 n).sublist hs
  rw [List.pairwise_iff_getElem] at hp
  have hm := hs.subset (List.getElem_mem hj)
  rw [iv_mem] at hm
  unfold okAt
  rw [rd_at ss j hj]
  refine ⟨by omega, by omega, fun h0 => ?_⟩
  rw [rd_at ss (j - 1) (by omega)]
  exact hp (j - 1) j (by omega) hj (by omega)
theorem bounds_f (l : List PI) (r : List RG) (hl : l.length ≤ 5864062014805) (hr : r.length ≤ 140737488355328) : flow_Bounds.f l r = some (boundsR l r) := by unfold flow_Bounds.f; rw [if_pos ⟨hl, hr⟩]
theorem explains_l0 (l : List PI) (r : List RG) (ss : List Int) (hl : l.length ≤ 12) (hr : r.length ≤ 20) (hs : ss.length ≤ 1000) : ∀ (d i : Nat), i + d = ss.length → (∀ j, j < i → okAt l.length ss j) →
  Ev (fun k => cohousinglaw30_explains.l0 k l r ss ss (ss.length : Int) (i : Int)) (decide (ss ∈ exs l r ss.length)) := by
 have hfalse : ∀ i, i < ss.length → ¬ okAt l.length ss i → decide (ss ∈ exs l r ss.length) = false := fun i hi hn => decide_eq_false fun h => hn ((okAt_combos l.length ss).2 (List.mem_filter.1 h).1 i hi)
 intro d
 induction d with
 | zero =>
  intro i hi hok
  refine Ev.step ?_
  have h1 : ¬ ((i : Int) < (ss.length : Int)) := by omega
  have hall : ∀ j, j < ss.length → okAt l.length ss j := fun j hj => hok j (by omega)
  have hc := (okAt_combos l.length ss).1 hall
  simp only [cohousinglaw30_explains.l0, h1, if_false]
  refine Ev.bnd (leaking_f l ss (combos_in hc) (by omega) (by omega)) ?_
  have hb := bounds_f (LL l ss) r (by rw [LL_len]; omega) (by omega)
  simp only [hb, Option.bind_some]
  have e : decide (ss ∈ exs l r ss.length) = ((boundsR (LL l ss) r).2 == 0) := by
   have h2 : explB l r ss = ((boundsR (LL l ss) r).2 == 0) := by unfold explB; rw [leakP_LL l ss (combos_in hc)]
   rw [← h2]
   cases he : explB l r ss with
   | true => exact decide_eq_true (List.mem_filter.2 ⟨hc, he⟩)
   | false => exact decide_eq_false (fun h => by rw [(List.mem_filter.1 h).2] at he; cases he)
  rw [e]
  exact Ev.pure _
 | succ d ih =>
  intro i hi hok
  refine Ev.step ?_
  have hlt : i < ss.length := by omega
  have h1 : (i : Int) < (ss.length : Int) := by omega
  have h2 : (0 : Int) ≤ (i : Int) := by omega
  by_cases c1 : rd ss (i : Int) < 0
  ·simp only [cohousinglaw30_explains.l0, h1, h2, c1, if_true]
   rw [hfalse i hlt (fun h => by have := h.1; omega)]
   exact Ev.pure _
  by_cases c2 : rd ss (i : Int) ≥ (l.length : Int)
  ·simp only [cohousinglaw30_explains.l0, h1, h2, c1, c2, if_true, if_false]
   rw [hfalse i hlt (fun h => by have := h.2.1; omega)]
   exact Ev.pure _
  by_cases c3 : (i : Int) > 0
  ·have h3 : wrap64 ((i : Int) - 1) = ((i - 1 : Nat) : Int) := by unfold wrap64; omega
   have h4 : (0 : Int) ≤ ((i - 1 : Nat) : Int) := by omega
   have h5 : ((i - 1 : Nat) : Int) < (ss.length : Int) := by omega
   by_cases c4 : rd ss (i : Int) ≤ rd ss ((i - 1 : Nat) : Int)
   ·simp only [cohousinglaw30_explains.l0, h1, h2, c1, c2, c3, h3, h4, h5, c4, if_true, if_false]
    rw [hfalse i hlt (fun h => by have := h.2.2 (by omega); omega)]
    exact Ev.pure _
   ·simp only [cohousinglaw30_explains.l0, h1, h2, c1, c2, c3, h3, h4, h5, c4, if_true, if_false, wrap_nat (show i ≤ 140737488355328 by omega)]
    refine ih (i + 1) (by omega) fun j hj => ?_
    by_cases e : j = i
    ·subst e; exact ⟨by omega, by omega, fun _ => by omega⟩
    ·exact hok j (by omega)
  ·simp only [cohousinglaw30_explains.l0, h1, h2, c1, c2, c3, if_true, if_false, wrap_nat (show i ≤ 140737488355328 by omega)]
   refine ih (i + 1) (by omega) fun j hj => ?_
   by_cases e : j = i
   ·subst e; exact ⟨by omega, by omega, fun h => by omega⟩
   ·exact hok j (by omega)
theorem lawExplains_f (l : List PI) (r : List RG) (ss : List Int) (hl : l.length ≤ 12) (hr : r.length ≤ 20) (hs : ss.length ≤ 1000) : Ev (fun k => cohousinglaw30_explains.f k l r ss) (decide (ss ∈ exs l r ss.length)) :=
 explains_l0 l r ss hl hr hs ss.length 0 (by omega) (fun j hj => by omega)
inductive Told (l : List PI) (r : List RG) (a : Int) : List Int × Bool × Int → List Int × Int → Prop
 | none : (∀ t : Nat, (t : Int) ≤ a → exs l r t = []) → Told l r a ([], false, 0) ([], 4)
 | some (t : Nat) (s : List Int) (rest : List (List Int)) : (t : Int) ≤ a → exs l r t = s :: rest → (∀ u, u < t → exs l r u = []) → Told l r a (s, true, 0) (s.filter (fun e => rest.all (fun x => x.contains e)), 0)
theorem houseE_U {l : List PI} {r : List RG} {a : Int} (h : U l r a) : houseE l r a = 0 := by
 unfold houseE
 rw [if_neg (by rw [bounds_one]; rintro (h1 | h1 | h1); exact h1 h.good; have := h.a0; omega; have := h.a3; omega), if_neg (by have := h.n; omega)]
theorem told {l : List PI} {r : List RG} {a : Int} (h : U l r a) : Told l r a (explainR l r a) (sureR l r a) := by
 have he := houseE_U h
 unfold explainR sureR
 rw [if_pos he, if_pos he, smallM_eq h.good _ _ (fun t ht => by omega)]
 have ha0 := h.a0
 rcases small_spec l r (a.toNat + 1) 0 with ⟨h1, h2⟩ | ⟨t, h1, h2, h3, h4, h5⟩
 ·rw [h1]
  exact .none fun t ht => h2 t (by omega) (by omega)
 ·rw [h3]
  cases hx : exs l r t with
  | nil => exact absurd hx h4
  | cons s rest =>
   simp only []
   rw [foldl_filter]
   exact .some t s rest (by omega) hx fun u hu => h5 u (by omega) hu
theorem leakExplain_f (l : List PI) (r : List RG) (a : Int) (hl : l.length ≤ 5864062014805) (hr : r.length ≤ 140737488355328) : leak_Explain.f l r a = some (explainR l r a) := by unfold leak_Explain.f; rw [if_pos ⟨hl, hr⟩]
theorem exs_len {l : List PI} {r : List RG} {t : Nat} {s : List Int} (h : s ∈ exs l r t) : s.length = t := (mem_combos.1 (List.mem_filter.1 h).1).1
end Go.Proofs.Ytolmjhpapidmhaa.P
end
section
namespace Go.Proofs.YtolmjhpapidmhaaH
open Go.RowKit Go.ChangeShapes Go.WideShapes Go.Proofs.YtolmjhpapidmhaaW.PrintWords
def Opens {α : Type} (P : Program) (d : Kd α) (t : TypeId) : Prop :=
 ∀ {H : Type} {enc : TypeId × Value → H} {w : World} {base : Nat} {spare : Nat → Bool} {held : Bool} {fuel : Nat} {cs : List Value} {x : DataW H × List MemPlace}, DataW.trod enc P w base spare held fuel t cs = some x → ∃ a : α, d.K w a cs
theorem Opens.int {P : Program} {t : TypeId} {k : IntKind} (h : P.underlying t = some (.int k)) : Opens P (Kd.int k) t := by
 intro H enc w base spare held fuel cs x hx
 obtain ⟨n, rfl, _, _⟩ := DataW.trod_int h hx
 exact ⟨n, rfl⟩
theorem Opens.iso {α β : Type} {P : Program} {d : Kd α} {t : TypeId} (f : β → α) (g : α → β) (hfg : ∀ a, f (g a) = a) (h : Opens P d t) : Opens P (Kd.iso d f) t := by
 intro H enc w base spare held fuel cs x hx
 obtain ⟨a, ha⟩ := h hx
 refine ⟨g a, ?_⟩
 show d.K w (f (g a)) cs
 rw [hfg]
 exact ha
def Segs {β : Type} (P : Program) (d : Kd β) (fs : List Field) (o z : Nat) : Prop :=
 ∀ {H : Type} {enc : TypeId × Value → H} {w : World} {base : Nat} {spare : Nat → Bool} {held : Bool} {fuel : Nat} {cs : List Value}, cs.length = z →
  (∀ f ∈ fs, ∃ x : DataW H × List MemPlace, DataW.trod enc P w base spare held fuel f.type ((cs.drop f.offset).take (P.cellsOf f.type)) = some x) → ∃ b : β, d.K w b (cs.drop o)
theorem Segs.one {α : Type} {P : Program} {d : Kd α} {f : Field} {o z : Nat} (h : Opens P d f.type) (ho : f.offset = o) (hz : z = o + P.cellsOf f.type) : Segs P d [f] o z := by
 intro H enc w base spare held fuel cs hl hf
 obtain ⟨x, hx⟩ := hf f (by simp)
 obtain ⟨a, ha⟩ := h hx
 refine ⟨a, ?_⟩
 rw [ho, List.take_of_length_le (by rw [List.length_drop]; omega)] at ha
 exact ha
theorem Segs.cons {α β : Type} {P : Program} {d : Kd α} {d' : Kd β} {f : Field} {fs : List Field} {o o' z : Nat} (h : Opens P d f.type) (ho : f.offset = o) (ho' : o' = o + P.cellsOf f.type) (hr : Segs P d' fs o' z) : Segs P (Kd.pair d d') (f :: fs) o z := by
 intro H enc w base spare held fuel cs hl hf
 obtain ⟨x, hx⟩ := hf f (by simp)
 obtain ⟨a, ha⟩ := h hx
 obtain ⟨b, hb⟩ := hr hl (fun f' h' => hf f' (List.mem_cons_of_mem _ h'))
 refine ⟨(a, b), _, _, ?_, ha, hb⟩
 rw [ho, ho', ← List.drop_drop, List.take_append_drop]
theorem Opens.struct {β : Type} {P : Program} {d : Kd β} {t : TypeId} {fs : Array Field} (h : P.underlying t = some (.struct fs)) (hr : Segs P d fs.toList 0 (P.cellsOf t)) : Opens P d t := by
 intro H enc w base spare held fuel cs x hx
 obtain ⟨xs, n, _, _, hl, hxl, hf⟩ := DataW.trod_struct h hx
 have := hr (enc := enc) (w := w) (base := base) (spare := spare) (held := held) (fuel := n) (cs := cs) hl (fun f hm => by
  obtain ⟨i, hi, rfl⟩ := List.mem_iff_getElem.1 hm
  have hi' : i < fs.size := by simpa using hi
  have h1 := hf i fs[i] (by simp [hi'])
  refine ⟨xs[i]'(by omega), ?_⟩
  rw [Array.getElem_toList]
  rw [h1]
  simp [hxl, hi'])
 rw [List.drop_zero] at this
 exact this
theorem Opens.row {α : Type} {P : Program} {d : Kd α} {t e : TypeId} (ht : P.underlying t = some (.slice e)) (hsz : P.cellsOf e = d.sz) (he : Opens P d e) {H : Type} {enc : TypeId × Value → H} {w : World} {base : Nat} {spare : Nat → Bool} {held : Bool} {fuel : Nat} {cs : List Value} {x : DataW H × List MemPlace}
  (hx : DataW.trod enc P w base spare held fuel t cs = some x) : ∃ A len cap, cs = [.slice A len cap] ∧ ∃ xs : List α, xs.length = len ∧ len ≤ cap ∧ d.C w A len xs := by
 rcases Deep.open_slice ht hx with ⟨rfl, _⟩ | ⟨a, len, cap, m, n, D, Pl, rfl, _, hl, hm, hmm, _, hel⟩
 ·exact ⟨none, 0, 0, rfl, [], rfl, Nat.le_refl _, rfl, by omega, fun h => absurd h (Nat.lt_irrefl _)⟩
 ·have hlm : len ≤ m := by rw [hmm]; split <;> omega
  have each : ∀ i, i < len → ∃ a' : α, ∃ cs', cs'.length = d.sz ∧ d.K w a' cs' ∧ ∀ j u, cs'[j]? = some u → w.cell? (a.add (i * d.sz + j)) = some u := by
   intro i hi
   obtain ⟨cs', h1, h2⟩ := hel i (by omega)
   obtain ⟨a', ha'⟩ := he h2
   obtain ⟨_, hlen, hcell⟩ := World.cells?_some h1
   refine ⟨a', cs', by omega, ha', fun j u hj => ?_⟩
   have hjl : j < cs'.length := (List.getElem?_eq_some_iff.1 hj).1
   have := hcell j (by omega)
   rw [Deep.add_add, hsz] at this
   rw [this, hj]
  obtain ⟨xs, hxs⟩ : ∃ xs : List α, xs.length = len ∧ ∀ i (h : i < xs.length), ∃ cs', cs'.length = d.sz ∧ d.K w xs[i] cs' ∧ ∀ j u, cs'[j]? = some u → w.cell? (a.add (i * d.sz + j)) = some u := by
   have key : ∀ k, k ≤ len → ∃ xs : List α, xs.length = k ∧ ∀ i (h : i < xs.length), ∃ cs', cs'.length = d.sz ∧ d.K w xs[i] cs' ∧ ∀ j u, cs'[j]? = some u → w.cell? (a.add (i * d.sz + j)) = some u := by
    intro k
    induction k with
    | zero => intro _; exact ⟨[], rfl, fun i h => absurd h (Nat.not_lt_zero _)⟩
    | succ k ih =>
     intro hk
     obtain ⟨xs, hl, hxs⟩ := ih (by omega)
     obtain ⟨a', ha'⟩ := each k (by omega)
     refine ⟨xs ++ [a'], by simp [hl], fun i h => ?_⟩
     by_cases hi : i < xs.length
     ·rw [List.getElem_append_left hi]
      exact hxs i hi
     ·have e : i = xs.length := by simp at h; omega
      subst e
      rw [List.getElem_append_right (Nat.le_refl _)]
      simp only [Nat.sub_self, List.getElem_cons_zero]
      rw [hl]
      exact ha'
   exact key len (Nat.le_refl _)
  refine ⟨some a, len, cap, rfl, xs, hxs.1, hl, hxs.1, ?_, fun _ => ⟨a, rfl, fun j p hj => ?_⟩⟩
  ·have : maxLen = 2 ^ 63 - 1 := rfl
   omega
  ·obtain ⟨hjl, rfl⟩ := List.getElem?_eq_some_iff.1 hj
   exact hxs.2 j hjl
theorem Opens.slice {α : Type} {P : Program} {d : Kd α} {t e : TypeId} (ht : P.underlying t = some (.slice e)) (hsz : P.cellsOf e = d.sz) (he : Opens P d e) : Opens P (Kd.slice e d) t := by
 intro H enc w base spare held fuel cs x hx
 obtain ⟨A, len, cap, rfl, xs, rfl, hl, hC⟩ := Opens.row ht hsz he hx
 exact ⟨xs, A, cap, rfl, hl, hC⟩
theorem open_arg {α : Type} {P : Program} {d : Kd α} {t e : TypeId} (ht : P.underlying t = some (.slice e)) (hsz : P.cellsOf e = d.sz) (he : Opens P d e) {H : Type} {enc : TypeId × Value → H} {w : World} {base : Nat} {spare : Nat → Bool} {held : Bool} {A : Option Addr} {len cap : Nat} {x : DataW H} {ps : List MemPlace}
  (hx : DataW.Trod enc P w base spare held t (.slice A len cap) x ps) : ∃ xs : List α, xs.length = len ∧ len ≤ cap ∧ d.C w A len xs := by
 obtain ⟨fuel, hf⟩ := hx
 obtain ⟨A', len', cap', e1, r⟩ := Opens.row ht hsz he hf
 simp [Value.cells] at e1
 obtain ⟨rfl, rfl, rfl⟩ := e1
 exact r
theorem sized_arg {H : Type} {enc : TypeId × Value → H} {P : Program} {W : World} {base : Nat} {spare : Nat → Bool} {held : Bool} {t e : TypeId} {a : Option Addr} {len cap : Nat} {d : DataW H} {ps : List MemPlace} {ts : List TypeId} {ds : List (DataW H)} {j : Nat}
  (hsz : (DataW.weightsEach P ts ds).all (· ≤ reachBytes) = true) (ht : ts[j]? = some t) (hd : ds[j]? = some d) (hu : P.underlying t = some (.slice e)) {B : Nat} (hB : P.bytesOf e = B)
  (h : DataW.Trod enc P W base spare held t (.slice a len cap) d ps) : len * B ≤ 140737488351232 := by
 obtain ⟨fuel, hf⟩ := h
 rcases Deep.open_slice hu hf with ⟨hcs, _⟩ | ⟨x, l, c, m, n, D, Pl, hcs, _, hl, _, hm, hx, _⟩
 ·simp [Value.cells] at hcs
  obtain ⟨rfl, rfl, rfl⟩ := hcs
  simp
 ·simp [Value.cells] at hcs
  obtain ⟨rfl, rfl, rfl⟩ := hcs
  obtain ⟨hx, _⟩ := Prod.mk.inj hx
  subst hx
  have z := sized_slice hsz ht hd hu
  rw [hB] at z
  simp only [List.length_map, List.length_range] at z
  exact Nat.le_trans (Nat.mul_le_mul_right _ (Nat.le_add_right _ _)) z
end Go.Proofs.YtolmjhpapidmhaaH
end
