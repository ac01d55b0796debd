/- Part 4 of the base that the seat's proofs share: words, walks and plain laws. -/
import Derived.ArgAppend
import Derived.Below
import Derived.BigQuiet
import Derived.ChangeOld
import Derived.ChangeSlices
import Derived.Deep.AppendLies
import Derived.Deep.CutBlock
import Derived.Deep.DeepCutAuto
import Derived.Deep.Draws
import Derived.Deep.LoopGhost
import Derived.Deep.OwnRows
import Derived.Deep.QuietTactic
import Derived.Deep.RegionHeld3
import Derived.Deep.Slices
import Derived.KernelRfl
import Derived.Laws.BitsLemmas
import Derived.Laws.BytesArg
import Derived.Laws.IdiomCopy
import Derived.Laws.MakeOwn
import Derived.Laws.OwnMore
import Derived.Laws.Rows
import Derived.Laws.Slices
import Derived.Laws.StructEq
import Derived.Lib.AppendStr
import Derived.Lib.ConvBytes
import Derived.LoopIn
import Derived.LoopNIn
import Derived.Maps.AppendAt
import Derived.Maps.Own
import Derived.OpenShut
import Derived.OrdersHeld
import Derived.OwnWalk
import Derived.OwnWalkIn
import Derived.ProofKit
import Derived.RangeFuncBound
import Derived.RangeFuncCalls
import Derived.RangeFuncLeaves
import Derived.RangeFuncNested
import Derived.RowKit
import Derived.RowKit3
import Derived.ShutString
import Derived.SizedLaws
import Derived.Sort.CutIn
import Derived.Stop.RegionWithIn
import Derived.Tactics
import Derived.TacticsInMore
import Derived.Test.YthjjabcbngffoaaProg
import Derived.WalkKit
import Derived.WideLaws
import Derived.Test.YthjjabcbngffoaaCSc
set_option linter.unusedVariables false
set_option linter.unusedSimpArgs false
section
namespace Go.Proofs.Ythjjabcbngffoaa.P
open Go.RowKit Go.Proofs.YthjjabcbngffoaaW.PrintWords Go.Proofs.YthjjabcbngffoaaW.PrintLast Go.Proofs.YthjjabcbngffoaaW.PrintMore Go.Proofs.YthjjabcbngffoaaH Go.Proofs.FlowTree
section
variable {l : List PI} {kids : List (List Int)}
theorem cuts (i : Nat) (lo hi : Int) (d : List IV) : ∀ (ks : List Nat) (e : List IV), ks.Nodup → i ∉ ks → (∀ k ∈ ks, k < e.length) → (∀ k ∈ ks, rv e k = rv d k) → rv e i = rv d i →
  (∀ j, j ∉ ks → rv ((ks.map Int.ofNat).foldl (downCut l i lo hi) e) j = rv e j) ∧
  (∀ k ∈ ks, rv ((ks.map Int.ofNat).foldl (downCut l i lo hi) e) k = cutI (rv d k) (wrap64 (wrap64 ((rv d i).f0 - loP l i) - wrap64 (hi - (rv d k).f1))) (wrap64 ((rv d i).f1 - wrap64 (lo - (rv d k).f0)))) := by
 intro ks
 induction ks with
 | nil => intro e _ _ _ _ _; exact ⟨fun _ _ => rfl, (fun k hk => by cases hk)⟩
 | cons k ks ih =>
  intro e hnd hi' hlen heq hei
  rw [List.nodup_cons] at hnd
  have hk : k < e.length := hlen k (by simp)
  have hset : ∀ y j, rv (e.set k y) j = if k = j then y else rv e j := fun y j => rv_set e k j y hk
  have hik : ¬ k = i := fun h => hi' (by simp [h])
  rw [List.map_cons, List.foldl_cons]
  obtain ⟨y, hy⟩ : ∃ y, y = cutI (rv d k) (wrap64 (wrap64 ((rv d i).f0 - loP l i) - wrap64 (hi - (rv d k).f1))) (wrap64 ((rv d i).f1 - wrap64 (lo - (rv d k).f0))) := ⟨_, rfl⟩
  have hstep : downCut l i lo hi e (Int.ofNat k) = e.set k y := by
   unfold downCut
   have e1 : rd_T85 e (Int.ofNat k) = rv d k := heq k (by simp)
   have e2 : rd_T85 e (i : Int) = rv d i := hei
   rw [e1, e2, hy]
   rfl
  rw [hstep]
  have h := ih (e.set k y) hnd.2 (fun h => hi' (List.mem_cons_of_mem _ h)) (fun j hj => by rw [List.length_set]; exact hlen j (List.mem_cons_of_mem _ hj))
   (fun j hj => by rw [hset, if_neg (fun hh : k = j => hnd.1 (by rw [hh]; exact hj))]; exact heq j (List.mem_cons_of_mem _ hj)) (by rw [hset, if_neg hik]; exact hei)
  refine ⟨fun j hj => ?_, fun j hj => ?_⟩
  ·rw [h.1 j (fun hh => hj (List.mem_cons_of_mem _ hh)), hset, if_neg (fun hh => hj (by simp [hh]))]
  ·rcases List.mem_cons.1 hj with rfl | hj'
   ·rw [h.1 j hnd.1, hset, if_pos rfl, hy]
   ·exact h.2 j hj'
structure DownAt (l : List PI) (r u : List IV) (m : Nat) (d : List IV) : Prop where
 len : d.length = l.length
 old : ∀ j, (∀ p, p < m → j ∉ kidsAt l l.length p) → rv d j = rv u j
 rng : ∀ j, j < l.length → Lo u j ≤ Lo d j ∧ Lo d j ≤ Hi d j ∧ Hi d j ≤ Hi u j
 cut : ∀ p, p < m → ∀ k ∈ kidsAt l l.length p, Lo d p - loP l p - (sm (Hi u) (kidsAt l l.length p) - Hi u k) ≤ Lo d k ∧ Hi d k ≤ Hi d p - (sm (Lo u) (kidsAt l l.length p) - Lo u k)
 sol : ∀ x, Sol (netT l) (Lo r) (Hi r) x → ∀ j, j < l.length → Lo d j ≤ x j ∧ x j ≤ Hi d j
structure UpOk (l : List PI) (r u : List IV) : Prop where
 len : u.length = l.length
 rng : ∀ j, j < l.length → 0 ≤ Lo u j ∧ Lo u j ≤ Hi u j ∧ Hi u j ≤ 1000000000 ∧ Lo r j ≤ Lo u j ∧ Hi u j ≤ Hi r j
 eq : ∀ j, j < l.length → kidsAt l l.length j ≠ [] → sm (Lo u) (kidsAt l l.length j) ≤ Lo u j ∧ Hi u j ≤ sm (Hi u) (kidsAt l l.length j) + loP l j
 sol : ∀ x, Sol (netT l) (Lo r) (Hi r) x → ∀ j, j < l.length → Lo u j ≤ x j ∧ x j ≤ Hi u j
theorem down_step (hok : okL l) (hn : l.length ≤ 200) (hk : ∀ j, j < l.length → rdK kids j = (kidsAt l l.length j).map Int.ofNat) {r u d : List IV} (hu : UpOk l r u) {i : Nat} (hi : i < l.length) (h : DownAt l r u i d) :
  DownAt l r u (i + 1) (downStep l kids d i) := by
 have hT := netT_ok hok
 have hkid : ∀ k ∈ kidsAt l l.length i, i < k ∧ k < l.length := fun k hk' => hT.lt i k hk'
 have hold : ∀ k ∈ kidsAt l l.length i, rv d k = rv u k := fun k hk' => h.old k (fun p hp hm => by have := hT.one i p k hk' hm; omega)
 have hLk : ∀ k ∈ kidsAt l l.length i, Lo d k = Lo u k := fun k hk' => by simp only [Lo, hold k hk']
 have hHk : ∀ k ∈ kidsAt l l.length i, Hi d k = Hi u k := fun k hk' => by simp only [Hi, hold k hk']
 have hL : totalF S85.f0 ((kidsAt l l.length i).map (fun k => rv d k)) = sm (Lo u) (kidsAt l l.length i) := by
  rw [total_eq _ _ _ (Nat.le_trans (kids_len l i) hn) (fun k hk' => by have h1 := hu.rng k (hkid k hk').2; have h2 := hold k hk'; simp only [Lo, Hi, h2] at *; omega)]
  exact sm_congr hLk
 have hH : totalF S85.f1 ((kidsAt l l.length i).map (fun k => rv d k)) = sm (Hi u) (kidsAt l l.length i) := by
  rw [total_eq _ _ _ (Nat.le_trans (kids_len l i) hn) (fun k hk' => by have h1 := hu.rng k (hkid k hk').2; have h2 := hold k hk'; simp only [Lo, Hi, h2] at *; omega)]
  exact sm_congr hHk
 have bH := sm_bound (f := Hi u) (ks := kidsAt l l.length i) (a := 0) (b := 1000000000) (fun k hk' => by have := hu.rng k (hkid k hk').2; omega)
 have bL := sm_bound (f := Lo u) (ks := kidsAt l l.length i) (a := 0) (b := 1000000000) (fun k hk' => by have := hu.rng k (hkid k hk').2; omega)
 have bl := kids_len l i
 have bo := (hok i hi).2.2.1
 have hinot : i ∉ kidsAt l l.length i := fun hm => by have := hkid i hm; omega
 have hun : downStep l kids d i = ((kidsAt l l.length i).map Int.ofNat).foldl (downCut l i (sm (Lo u) (kidsAt l l.length i)) (sm (Hi u) (kidsAt l l.length i))) d := by
  unfold downStep
  rw [below_eq hk d i hi, hL, hH, hk i hi]
 have hc := cuts (l := l) i (sm (Lo u) (kidsAt l l.length i)) (sm (Hi u) (kidsAt l l.length i)) d (kidsAt l l.length i) d (hT.nodup i) hinot (fun k hk' => by rw [h.len]; exact (hkid k hk').2) (fun _ _ => rfl) rfl
 rw [← hun] at hc
 obtain ⟨e, he⟩ : ∃ e, e = downStep l kids d i := ⟨_, rfl⟩
 rw [← he] at hc ⊢
 have elen : e.length = l.length := by rw [he, downStep_len, h.len]
 have hri := h.rng i hi
 have hui := hu.rng i hi
 have hnew : ∀ k ∈ kidsAt l l.length i, Lo e k = max (Lo u k) (Lo d i - loP l i - (sm (Hi u) (kidsAt l l.length i) - Hi u k)) ∧ Hi e k = min (Hi u k) (Hi d i - (sm (Lo u) (kidsAt l l.length i) - Lo u k)) ∧ Lo e k ≤ Hi e k := by
  intro k hk'
  have h1 := hc.2 k hk'
  have h2 := hu.rng k (hkid k hk').2
  have h3 := hu.eq i hi (fun hh => by rw [hh] at hk'; cases hk')
  obtain ⟨a, b, hab, hlo⟩ := sm_split (Lo u) hk'
  have hhi : sm (Hi u) (kidsAt l l.length i) = Hi u k + sm (Hi u) (a ++ b) := by rw [hab, sm_append, sm_append, sm_cons]; omega
  have hle : sm (Lo u) (a ++ b) ≤ sm (Hi u) (a ++ b) := sm_le (fun j hj => by
   have hj' : j ∈ kidsAt l l.length i := by
    rw [hab]
    rcases List.mem_append.1 hj with h' | h'
    ·exact List.mem_append.2 (.inl h')
    ·exact List.mem_append.2 (.inr (List.mem_cons_of_mem _ h'))
   have := hu.rng j (hkid j hj').2
   omega)
  have e0 : Lo e k = max (Lo u k) (Lo d i - loP l i - (sm (Hi u) (kidsAt l l.length i) - Hi u k)) := by
   have := congrArg S85.f0 h1
   rw [cutI_f0] at this
   have w1 : (rv d k).f1 = Hi u k := hHk k hk'
   have w2 : (rv d k).f0 = Lo u k := hLk k hk'
   have w3 : (rv d i).f0 = Lo d i := rfl
   rw [w1, w2, w3, wrap_id (n := Lo d i - loP l i) (by omega) (by omega), wrap_id (n := sm (Hi u) (kidsAt l l.length i) - Hi u k) (by omega) (by omega), wrap_id (by omega) (by omega)] at this
   exact this
  have e1 : Hi e k = min (Hi u k) (Hi d i - (sm (Lo u) (kidsAt l l.length i) - Lo u k)) := by
   have := congrArg S85.f1 h1
   rw [cutI_f1] at this
   have w1 : (rv d k).f1 = Hi u k := hHk k hk'
   have w2 : (rv d k).f0 = Lo u k := hLk k hk'
   have w3 : (rv d i).f1 = Hi d i := rfl
   rw [w1, w2, w3, wrap_id (n := sm (Lo u) (kidsAt l l.length i) - Lo u k) (by omega) (by omega), wrap_id (by omega) (by omega)] at this
   exact this
  refine ⟨e0, e1, ?_⟩
  omega
 have hsame : ∀ j, j ∉ kidsAt l l.length i → Lo e j = Lo d j ∧ Hi e j = Hi d j := fun j hj => by
  have := hc.1 j hj
  exact ⟨by simp only [Lo, this], by simp only [Hi, this]⟩
 refine ⟨elen, fun j hj => ?_, fun j hj => ?_, fun p hp k hk' => ?_, fun x hx j hj => ?_⟩
 ·rw [hc.1 j (hj i (by omega))]
  exact h.old j (fun p hp => hj p (by omega))
 ·by_cases hm : j ∈ kidsAt l l.length i
  ·have := hnew j hm
   omega
  ·have := hsame j hm
   have := h.rng j hj
   omega
 ·have hpi : p ∉ kidsAt l l.length i := fun hm => by have := (hkid p hm).1; omega
  have hp' := hsame p hpi
  by_cases h' : p < i
  ·have hki : k ∉ kidsAt l l.length i := fun hm => by have := hT.one i p k hm hk'; omega
   have := hsame k hki
   have := h.cut p h' k hk'
   omega
  ·have e2 : p = i := by omega
   subst e2
   have := hnew k hk'
   omega
 ·by_cases hm : j ∈ kidsAt l l.length i
  ·have h1 := hnew j hm
   have h2 := h.sol x hx i hi
   have h3 := hu.sol x hx j hj
   have hne : kidsAt l l.length i ≠ [] := fun hh => by rw [hh] at hm; cases hm
   have h4 := hx.2 i hi hne
   simp only [netT] at h4
   obtain ⟨a, b, hab, hlo⟩ := sm_split (Lo u) hm
   have hhi : sm (Hi u) (kidsAt l l.length i) = Hi u j + sm (Hi u) (a ++ b) := by rw [hab, sm_append, sm_append, sm_cons]; omega
   have hxx : sm x (kidsAt l l.length i) = x j + sm x (a ++ b) := by rw [hab, sm_append, sm_append, sm_cons]; omega
   have hmem : ∀ q ∈ a ++ b, q < l.length := fun q hq => (hkid q (by
    rw [hab]
    rcases List.mem_append.1 hq with h' | h'
    ·exact List.mem_append.2 (.inl h')
    ·exact List.mem_append.2 (.inr (List.mem_cons_of_mem _ h')))).2
   have l1 : sm (Lo u) (a ++ b) ≤ sm x (a ++ b) := sm_le (fun q hq => (hu.sol x hx q (hmem q hq)).1)
   have l2 : sm x (a ++ b) ≤ sm (Hi u) (a ++ b) := sm_le (fun q hq => (hu.sol x hx q (hmem q hq)).2)
   omega
  ·have := hsame j hm
   have := h.sol x hx j hj
   omega
theorem down_fold (hok : okL l) (hn : l.length ≤ 200) (hk : ∀ j, j < l.length → rdK kids j = (kidsAt l l.length j).map Int.ofNat) {r u : List IV} (hu : UpOk l r u) :
  ∀ m, m ≤ l.length → DownAt l r u m ((List.range m).foldl (fun r (j : Nat) => downStep l kids r j) u) := by
 intro m
 induction m with
 | zero => intro _; exact ⟨hu.len, fun _ _ => rfl, fun j hj => by have := hu.rng j hj; simp only [List.range_zero, List.foldl_nil]; omega, fun p hp => absurd hp (Nat.not_lt_zero _), hu.sol⟩
 | succ m ih =>
  intro hm
  rw [foldl_range_succ]
  exact down_step hok hn hk hu (by omega) (ih (by omega))
structure Exact (l : List PI) (lo hi : Nat → Int) (d : List IV) : Prop where
 len : d.length = l.length
 rng : ∀ j, j < l.length → 0 ≤ Lo d j ∧ Lo d j ≤ Hi d j ∧ Hi d j ≤ 1000000000 ∧ lo j ≤ Lo d j ∧ Hi d j ≤ hi j
 sol : ∀ x, Sol (netT l) lo hi x → ∀ j, j < l.length → Lo d j ≤ x j ∧ x j ≤ Hi d j
 had : ∀ j, j < l.length → ∀ v, Lo d j ≤ v → v ≤ Hi d j → ∃ x, Sol (netT l) lo hi x ∧ x j = v
theorem any_empty (u : List IV) : u.any emptyI = true ↔ ∃ j, j < u.length ∧ Hi u j < Lo u j := by
 rw [List.any_eq_true]
 constructor
 ·rintro ⟨x, hx, he⟩
  obtain ⟨j, hj, rfl⟩ := List.mem_iff_getElem.1 hx
  refine ⟨j, hj, ?_⟩
  simp only [emptyI, decide_eq_true_eq] at he
  simp only [Lo, Hi, rv, rd_T85, Int.toNat_natCast, List.getD_eq_getElem?_getD, List.getElem?_eq_getElem hj, Option.getD_some]
  omega
 ·rintro ⟨j, hj, h⟩
  refine ⟨u[j], List.getElem_mem hj, ?_⟩
  simp only [Lo, Hi, rv, rd_T85, Int.toNat_natCast, List.getD_eq_getElem?_getD, List.getElem?_eq_getElem hj, Option.getD_some] at h
  simp only [emptyI, decide_eq_true_eq]
  omega
theorem boundsF_spec (hok : okL l) (hn : l.length ≤ 200) (hk : ∀ j, j < l.length → rdK kids j = (kidsAt l l.length j).map Int.ofNat) {r : List IV} (hl : r.length = l.length) (hv : Vol l.length (Lo r) (Hi r)) :
  ((boundsF l kids r).1 = false ∧ ¬ ∃ x, Sol (netT l) (Lo r) (Hi r) x) ∨ ((boundsF l kids r).1 = true ∧ Exact l (Lo r) (Hi r) (boundsF l kids r).2) := by
 have h := up_spec hok hn hk hl hv
 unfold boundsF
 rcases h.now with ⟨⟨j, h1, h2, h3⟩, hs⟩ | ⟨ha, hs⟩
 ·rw [if_pos ((any_empty _).2 ⟨j, by rw [h.len]; exact h2, h3⟩)]
  exact .inl ⟨rfl, hs⟩
 ·have hno : ¬ (upF l kids r).any emptyI = true := fun hh => by
   obtain ⟨j, hj, h3⟩ := (any_empty _).1 hh
   rw [h.len] at hj
   have := (ha j (Nat.zero_le _) hj).1
   omega
  rw [if_neg hno]
  have hu : UpOk l r (upF l kids r) := ⟨h.len, fun j hj => (ha j (Nat.zero_le _) hj).1, fun j hj => (ha j (Nat.zero_le _) hj).2, fun x hx j hj => hs x hx j (Nat.zero_le _) hj⟩
  have hd := down_fold hok hn hk hu l.length (Nat.le_refl _)
  have hd' : DownAt l r (upF l kids r) l.length (downF l kids (upF l kids r)) := hd
  have hno2 : ¬ (downF l kids (upF l kids r)).any emptyI = true := fun hh => by
   obtain ⟨j, hj, h3⟩ := (any_empty _).1 hh
   rw [hd'.len] at hj
   have := hd'.rng j hj
   omega
  rw [if_neg hno2]
  refine .inr ⟨rfl, hd'.len, fun j hj => ?_, hd'.sol, fun j hj v h1 h2 => ?_⟩
  ·have := hd'.rng j hj
   have := hu.rng j hj
   dsimp only
   omega
  ·obtain ⟨x, hx, hxv⟩ := exact (netT l) (netT_ok hok) (Lo (upF l kids r)) (Hi (upF l kids r)) (Lo (downF l kids (upF l kids r))) (Hi (downF l kids (upF l kids r))) (fun i hi => (hu.rng i hi).2.1) (fun i hi hne => hu.eq i hi hne)
    (fun i hi => hd'.rng i hi) (fun i hi k hk' => hd'.cut i hi k hk') j hj v h1 h2
   exact ⟨x, ⟨fun i hi => by have := hx.1 i hi; have := hu.rng i hi; omega, hx.2⟩, hxv⟩
end
end Go.Proofs.Ythjjabcbngffoaa.P
end
section
namespace Go.Proofs.Ythjjabcbngffoaa.P
open Go.RowKit Go.Proofs.YthjjabcbngffoaaW.PrintWords Go.Proofs.YthjjabcbngffoaaW.PrintLast Go.Proofs.YthjjabcbngffoaaW.PrintMore Go.Proofs.YthjjabcbngffoaaH Go.Proofs.FlowTree
open Classical
def Ev {α : Type} (f : Nat → Option α) (r : α) : Prop := ∃ k0, ∀ k, k0 ≤ k → f k = some r
theorem Ev.step {α : Type} {f : Nat → Option α} {r : α} (h : Ev (fun k => f (k + 1)) r) : Ev f r := by
 obtain ⟨k0, h⟩ := h
 refine ⟨k0 + 1, fun k hk => ?_⟩
 obtain ⟨k, rfl⟩ : ∃ m, k = m + 1 := ⟨k - 1, by omega⟩
 exact h k (by omega)
theorem Ev.pure {α : Type} (r : α) : Ev (fun _ => some r) r := ⟨0, fun _ _ => rfl⟩
theorem Ev.bnd {α β : Type} {f : Nat → Option β} {g : β → Nat → Option α} {b : β} {r : α} (hf : Ev f b) (hg : Ev (g b) r) : Ev (fun k => (f k).bind fun t => g t k) r := by
 obtain ⟨k0, h⟩ := hf
 obtain ⟨k1, h1⟩ := hg
 refine ⟨max k0 k1, fun k hk => ?_⟩
 show (f k).bind _ = _
 rw [h k (by omega)]
 exact h1 k (by omega)
theorem Ev.congr {α : Type} {f g : Nat → Option α} {r : α} (h : ∀ k, f k = g k) (hg : Ev g r) : Ev f r := by
 obtain ⟨k0, h0⟩ := hg
 exact ⟨k0, fun k hk => (h k).trans (h0 k hk)⟩
theorem wrap_nat {n : Nat} (h : n ≤ 140737488355328) : wrap64 ((n : Int) + 1) = ((n + 1 : Nat) : Int) := by unfold wrap64; omega
abbrev RG := S38
theorem range_split (i n : Nat) (h : i < n) : List.range n = List.range (i + 1) ++ List.range' (i + 1) (n - (i + 1)) := by
 rw [List.range_eq_range', List.range_eq_range', show n = (i + 1) + (n - (i + 1)) by omega, ← List.range'_append]
 simp
theorem kidsAt_range (l : List PI) (i : Nat) (h : i < l.length) : kidsAt l l.length i = (List.range' (i + 1) (l.length - (i + 1))).filter (fun k => decide (abP l k = idP l i)) := by
 unfold kidsAt
 rw [range_split i l.length h, List.filter_append]
 have e1 : (List.range (i + 1)).filter (fun k => decide (i < k) && decide (abP l k = idP l i)) = [] := by
  rw [List.filter_eq_nil_iff]
  intro k hk
  have := List.mem_range.1 hk
  simp; omega
 rw [e1, List.nil_append]
 apply List.filter_congr
 intro k hk
 have := List.mem_range'.1 hk
 obtain ⟨j, hj, e⟩ := this
 rw [decide_eq_true (show i < k by omega), Bool.true_and]
theorem below_l0' (l : List PI) (hB : l.length ≤ 200) (i : Nat) (hi : i < l.length) : ∀ (d x : Nat) (acc : List Int), x + d = l.length → acc.length ≤ x →
  Ev (fun k => cohousingref28_below.l0 k l (i : Int) acc (x : Int)) (acc ++ ((List.range' x d).filter (fun k => decide (abP l k = idP l i))).map Int.ofNat) := by
 intro d
 induction d with
 | zero =>
  intro x acc hx _
  have h1 : ¬ ((x : Int) < (l.length : Int)) := by omega
  refine Ev.step ?_
  simp only [cohousingref28_below.l0, h1, if_false, List.range'_zero, List.filter_nil, List.map_nil, List.append_nil]
  exact Ev.pure _
 | succ d ih =>
  intro x acc hx ha
  have h1 : ((x : Int) < (l.length : Int)) := by omega
  have h2 : (0 : Int) ≤ (x : Int) := by omega
  have h3 : (0 : Int) ≤ (i : Int) := by omega
  have h4 : ((i : Int) < (l.length : Int)) := by omega
  refine Ev.step ?_
  rw [List.range'_succ]
  by_cases hc : (rd_T63 l (x : Int)).f1 = (rd_T63 l (i : Int)).f0
  ·have h5 : acc.length < 17592186044416 := by omega
   ·simp only [cohousingref28_below.l0, h1, h2, h3, h4, h5, hc, if_true, wrap_nat (show x ≤ 140737488355328 by omega)]
    rw [List.filter_cons_of_pos (by simpa using hc)]
    have := ih (x + 1) (acc ++ [(x : Int)]) (by omega) (by simp; omega)
    rw [List.append_assoc] at this
    exact this
  ·simp only [cohousingref28_below.l0, h1, h2, h3, h4, hc, if_true, if_false, wrap_nat (show x ≤ 140737488355328 by omega)]
   rw [List.filter_cons_of_neg (by simpa using hc)]
   exact ih (x + 1) acc (by omega) (by omega)
theorem below_f' (l : List PI) (hB : l.length ≤ 200) (i : Nat) (hi : i < l.length) : Ev (fun k => cohousingref28_below.f k l (i : Int)) ((kidsAt l l.length i).map Int.ofNat) := by
 have := below_l0' l hB i hi (l.length - (i + 1)) (i + 1) [] (by omega) (by simp)
 rw [kidsAt_range l i hi]
 unfold cohousingref28_below.f
 rw [wrap_nat (by omega)]
 rw [List.nil_append] at this
 exact this
abbrev rr (r : List RG) (i : Nat) : RG := rd_T38 r i
theorem rv_toI (r : List RG) (i : Nat) : rv (r.map toI) i = toI (rr r i) := by
 simp only [rv, rr, rd_T85, rd_T38, Int.toNat_natCast, List.getD_eq_getElem?_getD, List.getElem?_map]
 cases r[i]? <;> rfl
theorem Lo_toI (r : List RG) (i : Nat) : Lo (r.map toI) i = (rr r i).f0 := by unfold Lo; rw [rv_toI]; rfl
theorem Hi_toI (r : List RG) (i : Nat) : Hi (r.map toI) i = (rr r i).f1 := by unfold Hi; rw [rv_toI]; rfl
theorem empty_l0 (r : List RG) (hB : r.length ≤ 140737488355328) : ∀ (d i : Nat), i + d = r.length → Ev (fun k => cohousingref28_empty.l0 k r (i : Int)) (decide (∃ j, i ≤ j ∧ j < r.length ∧ (rr r j).f1 < (rr r j).f0)) := by
 intro d
 induction d with
 | zero =>
  intro i hi
  have h1 : ¬ ((i : Int) < (r.length : Int)) := by omega
  refine Ev.step ?_
  simp only [cohousingref28_empty.l0, h1, if_false]
  rw [decide_eq_false (by rintro ⟨j, h2, h3, _⟩; omega)]
  exact Ev.pure _
 | succ d ih =>
  intro i hi
  have h1 : ((i : Int) < (r.length : Int)) := by omega
  have h2 : (0 : Int) ≤ (i : Int) := by omega
  refine Ev.step ?_
  by_cases hc : (rd_T38 r (i : Int)).f0 > (rd_T38 r (i : Int)).f1
  ·simp only [cohousingref28_empty.l0, h1, h2, hc, if_true]
   rw [decide_eq_true ⟨i, Nat.le_refl _, by omega, hc⟩]
   exact Ev.pure _
  ·simp only [cohousingref28_empty.l0, h1, h2, hc, if_true, if_false, wrap_nat (show i ≤ 140737488355328 by omega)]
   have := ih (i + 1) (by omega)
   rw [show decide (∃ j, i ≤ j ∧ j < r.length ∧ (rr r j).f1 < (rr r j).f0) = decide (∃ j, i + 1 ≤ j ∧ j < r.length ∧ (rr r j).f1 < (rr r j).f0) from decide_eq_decide.2 ⟨fun ⟨j, h3, h4, h5⟩ => ⟨j, by
    by_cases e : j = i
    ·subst e; exact absurd h5 hc
    ·omega, h4, h5⟩, fun ⟨j, h3, h4, h5⟩ => ⟨j, by omega, h4, h5⟩⟩]
   exact this
theorem empty_f (r : List RG) (hB : r.length ≤ 140737488355328) : Ev (fun k => cohousingref28_empty.f k r) (decide (∃ j, j < r.length ∧ (rr r j).f1 < (rr r j).f0)) := by
 have := empty_l0 r hB r.length 0 (by omega)
 rw [show decide (∃ j, j < r.length ∧ (rr r j).f1 < (rr r j).f0) = decide (∃ j, 0 ≤ j ∧ j < r.length ∧ (rr r j).f1 < (rr r j).f0) from decide_eq_decide.2 ⟨fun ⟨j, h⟩ => ⟨j, Nat.zero_le _, h⟩, fun ⟨j, _, h⟩ => ⟨j, h⟩⟩]
 exact this
theorem same_l0 (a b : List RG) (hB : a.length ≤ 140737488355328) (hl : a.length = b.length) : ∀ (d i : Nat), i + d = a.length → Ev (fun k => cohousingref28_Same.l0 k a b (i : Int)) (decide (∀ j, i ≤ j → j < a.length → rr a j = rr b j)) := by
 intro d
 induction d with
 | zero =>
  intro i hi
  have h1 : ¬ ((i : Int) < (a.length : Int)) := by omega
  refine Ev.step ?_
  simp only [cohousingref28_Same.l0, h1, if_false]
  rw [decide_eq_true (fun j h2 h3 => by omega)]
  exact Ev.pure _
 | succ d ih =>
  intro i hi
  have h1 : ((i : Int) < (a.length : Int)) := by omega
  have h2 : (0 : Int) ≤ (i : Int) := by omega
  have h3 : ((i : Int) < (b.length : Int)) := by omega
  refine Ev.step ?_
  by_cases hc : rr a i = rr b i
  ·have hc' : (!(((rd_T38 a (i : Int)).f0) == ((rd_T38 b (i : Int)).f0)) || (!(((rd_T38 a (i : Int)).f1) == ((rd_T38 b (i : Int)).f1)))) = false := by
    have : rd_T38 a (i : Int) = rd_T38 b (i : Int) := hc
    rw [this]; simp
   simp only [cohousingref28_Same.l0, h1, h2, h3, hc', if_true, if_false, Bool.false_eq_true, wrap_nat (show i ≤ 140737488355328 by omega)]
   have := ih (i + 1) (by omega)
   rw [show decide (∀ j, i ≤ j → j < a.length → rr a j = rr b j) = decide (∀ j, i + 1 ≤ j → j < a.length → rr a j = rr b j) from decide_eq_decide.2 ⟨fun h j h4 h5 => h j (by omega) h5, fun h j h4 h5 => by
    by_cases e : j = i
    ·subst e; exact hc
    ·exact h j (by omega) h5⟩]
   exact this
  ·have hc' : (!(((rd_T38 a (i : Int)).f0) == ((rd_T38 b (i : Int)).f0)) || (!(((rd_T38 a (i : Int)).f1) == ((rd_T38 b (i : Int)).f1)))) = true := by
    rw [Bool.or_eq_true, Bool.not_eq_true', Bool.not_eq_true', beq_eq_false_iff_ne, beq_eq_false_iff_ne]
    by_cases h4 : (rd_T38 a (i : Int)).f0 = (rd_T38 b (i : Int)).f0
    ·refine .inr (fun h5 => hc ?_)
     show rd_T38 a (i : Int) = rd_T38 b (i : Int)
     cases ha : rd_T38 a (i : Int)
     cases hb : rd_T38 b (i : Int)
     rw [ha, hb] at h4 h5
     simp only at h4 h5
     rw [h4, h5]
    ·exact .inl h4
   simp only [cohousingref28_Same.l0, h1, h2, h3, hc', if_true]
   rw [decide_eq_false (fun h => hc (h i (Nat.le_refl _) (by omega)))]
   exact Ev.pure _
theorem rr_ext {a b : List RG} (hl : a.length = b.length) (h : ∀ j, j < a.length → rr a j = rr b j) : a = b := by
 apply List.ext_getElem hl
 intro i h1 h2
 have := h i h1
 simp only [rr, rd_T38, Int.toNat_natCast, List.getD_eq_getElem?_getD, List.getElem?_eq_getElem h1, List.getElem?_eq_getElem h2, Option.getD_some] at this
 exact this
theorem same_f (a b : List RG) (hB : a.length ≤ 140737488355328) : Ev (fun k => cohousingref28_Same.f k a b) (decide (a = b)) := by
 unfold cohousingref28_Same.f
 by_cases hl : a.length = b.length
 ·have h1 : (a.length : Int) = (b.length : Int) := by omega
  simp only [h1, if_true]
  have := same_l0 a b hB hl a.length 0 (by omega)
  rw [show decide (a = b) = decide (∀ j, 0 ≤ j → j < a.length → rr a j = rr b j) from decide_eq_decide.2 ⟨fun h j _ _ => by rw [h], fun h => rr_ext hl (fun j hj => h j (Nat.zero_le _) hj)⟩]
  exact this
 ·have h1 : ¬ (a.length : Int) = (b.length : Int) := by omega
  simp only [h1, if_false]
  rw [decide_eq_false (fun h => hl (by rw [h]))]
  exact Ev.pure _
end Go.Proofs.Ythjjabcbngffoaa.P
end
section
namespace Go.Proofs.Ythjjabcbngffoaa.P
open Go.RowKit Go.Proofs.YthjjabcbngffoaaW.PrintWords Go.Proofs.YthjjabcbngffoaaW.PrintLast Go.Proofs.YthjjabcbngffoaaW.PrintMore Go.Proofs.YthjjabcbngffoaaH Go.Proofs.FlowTree
open Classical
def lo9 (r : List RG) (j : Nat) : Int := (rr r j).f0
def hi9 (r : List RG) (j : Nat) : Int := (rr r j).f1
theorem mx_max (a b : Int) : mx a b = max a b := by unfold mx; split <;> omega
theorem mn_min (a b : Int) : mn a b = min a b := by unfold mn; split <;> omega
section
variable (l : List PI) (r : List RG) (i : Nat)
def sL : Int := sm (lo9 r) (kidsAt l l.length i)
def sH : Int := sm (hi9 r) (kidsAt l l.length i)
def ownA : Int := max (lo9 r i) (sL l r i)
def ownB : Int := min (hi9 r i) (sH l r i + loP l i)
def eqAt (j : Nat) : RG :=
 if j = i then ⟨ownA l r i, ownB l r i⟩ else
 if i < j ∧ abP l j = idP l i then ⟨max (lo9 r j) (ownA l r i - loP l i - (sH l r i - hi9 r j)), min (hi9 r j) (ownB l r i - (sL l r i - lo9 r j))⟩ else rr r j
end
theorem take_sm (f : Nat → Int) (ks : List Nat) (x : Nat) (h : x < ks.length) : sm f (ks.take (x + 1)) = sm f (ks.take x) + f ks[x] := by
 rw [List.take_succ_eq_append_getElem h, sm_append, sm_cons, sm_nil]; omega
theorem rd_ofNat (ks : List Nat) (x : Nat) (h : x < ks.length) : rd (ks.map Int.ofNat) (x : Int) = (ks[x] : Int) := by
 simp [rd, List.getD_eq_getElem?_getD, h]
theorem sm_take_le {f : Nat → Int} {ks : List Nat} {B : Int} (h : ∀ k ∈ ks, 0 ≤ f k ∧ f k ≤ B) (x : Nat) : 0 ≤ sm f (ks.take x) ∧ sm f (ks.take x) ≤ sm f ks := by
 have h1 : 0 ≤ sm f (ks.take x) := sm_nonneg (fun k hk => (h k (List.mem_of_mem_take hk)).1)
 have h2 : 0 ≤ sm f (ks.drop x) := sm_nonneg (fun k hk => (h k (List.mem_of_mem_drop hk)).1)
 have h3 : sm f ks = sm f (ks.take x) + sm f (ks.drop x) := by rw [← sm_append, List.take_append_drop]
 omega
section
variable {l : List PI} {r : List RG} {i : Nat}
theorem sums_bound (hn : l.length ≤ 200) (hv : Vol l.length (lo9 r) (hi9 r)) : (0 ≤ sL l r i ∧ sL l r i ≤ 200000000000) ∧ (0 ≤ sH l r i ∧ sH l r i ≤ 200000000000) := by
 have hk : ∀ k ∈ kidsAt l l.length i, k < l.length := fun k hk => (kidsAt_mem.1 hk).1
 have bL := sm_bound (f := lo9 r) (ks := kidsAt l l.length i) (a := 0) (b := 1000000000) (fun k hk' => by have := hv k (hk k hk'); omega)
 have bH := sm_bound (f := hi9 r) (ks := kidsAt l l.length i) (a := 0) (b := 1000000000) (fun k hk' => by have := hv k (hk k hk'); omega)
 have bl := kids_len l i
 unfold sL sH
 omega
set_option maxHeartbeats 1000000 in
theorem eq_l1 (hok : okL l) (hn : l.length ≤ 200) (hr : r.length = l.length) (hv : Vol l.length (lo9 r) (hi9 r)) (hi : i < l.length) : ∀ (d x : Nat) (acc : List RG), x + d = l.length → acc.length = x →
  Ev (fun k => cohousingref28_equation.l1 k l r (i : Int) (sL l r i) (sH l r i) acc (x : Int) (ownA l r i) (ownB l r i)) (acc ++ (List.range' x d).map (eqAt l r i)) := by
 intro d
 have hb := sums_bound (i := i) hn hv
 have hvi := hv i hi
 have hlo := (hok i hi).2.2.1
 have hoA : 0 ≤ ownA l r i ∧ ownA l r i ≤ 200000000000 := by unfold ownA; omega
 have hoB : 0 ≤ ownB l r i ∧ ownB l r i ≤ 1000000000 := by unfold ownB; omega
 induction d with
 | zero =>
  intro x acc hx _
  have h1 : ¬ ((x : Int) < (r.length : Int)) := by omega
  refine Ev.step ?_
  simp only [cohousingref28_equation.l1, h1, if_false, List.range'_zero, List.map_nil, List.append_nil]
  exact Ev.pure _
 | succ d ih =>
  intro x acc hx ha
  have h1 : ((x : Int) < (r.length : Int)) := by omega
  have h2 : (0 : Int) ≤ (x : Int) := by omega
  have h3 : ((x : Int) < (l.length : Int)) := by omega
  have h4 : (0 : Int) ≤ (i : Int) := by omega
  have h5 : ((i : Int) < (l.length : Int)) := by omega
  have h6 : acc.length < 8796093022208 := by omega
  have hw := wrap_nat (show x ≤ 140737488355328 by omega)
  have key : Ev (fun k => cohousingref28_equation.l1 k l r (i : Int) (sL l r i) (sH l r i) (acc ++ [eqAt l r i x]) ((x + 1 : Nat) : Int) (ownA l r i) (ownB l r i)) (acc ++ (List.range' x (d + 1)).map (eqAt l r i)) := by
   have := ih (x + 1) (acc ++ [eqAt l r i x]) (by omega) (by simp; omega)
   rw [List.append_assoc] at this
   rw [List.range'_succ, List.map_cons]
   exact this
  refine Ev.step ?_
  simp only [cohousingref28_equation.l1, h1, h2, h3, h4, h5, h6, if_true, hw]
  by_cases hxi : x = i
  ·have c1 : (x : Int) = (i : Int) := by rw [hxi]
   have c2 : ¬ ((i : Int) > (i : Int)) := Int.lt_irrefl _
   simp only [c1, c2, if_true, if_false]
   have e : eqAt l r i x = ⟨ownA l r i, ownB l r i⟩ := by unfold eqAt; rw [if_pos hxi]
   rw [e] at key
   exact key
  ·have c1 : ¬ (x : Int) = (i : Int) := fun h => hxi (Int.ofNat_inj.1 h)
   simp only [c1, if_false]
   by_cases hlt : i < x
   ·have c2 : ((x : Int) > (i : Int)) := Int.ofNat_lt.2 hlt
    simp only [c2, if_true]
    by_cases hab : (rd_T63 l (x : Int)).f1 = (rd_T63 l (i : Int)).f0
    ·simp only [hab, if_true, cohousingref28_narrow.f, Option.bind_some]
     have hvx := hv x (by omega)
     have e : eqAt l r i x = ⟨mx (rd_T38 r (x : Int)).f0 (wrap64 (wrap64 (ownA l r i - (rd_T63 l (i : Int)).f2) - wrap64 (sH l r i - (rd_T38 r (x : Int)).f1))), mn (rd_T38 r (x : Int)).f1 (wrap64 (ownB l r i - wrap64 (sL l r i - (rd_T38 r (x : Int)).f0)))⟩ := by
      unfold eqAt
      rw [if_neg hxi, if_pos ⟨hlt, hab⟩, mx_max, mn_min]
      have w1 : (rd_T38 r (x : Int)).f0 = lo9 r x := rfl
      have w2 : (rd_T38 r (x : Int)).f1 = hi9 r x := rfl
      have w3 : (rd_T63 l (i : Int)).f2 = loP l i := rfl
      rw [w1, w2, w3, wrap_id (n := ownA l r i - loP l i) (by omega) (by omega), wrap_id (n := sH l r i - hi9 r x) (by omega) (by omega), wrap_id (n := sL l r i - lo9 r x) (by omega) (by omega), wrap_id (by omega) (by omega), wrap_id (by omega) (by omega)]
     rw [e] at key
     exact key
    ·simp only [hab, if_false]
     have e : eqAt l r i x = ⟨(rd_T38 r (x : Int)).f0, (rd_T38 r (x : Int)).f1⟩ := by
      unfold eqAt
      rw [if_neg hxi, if_neg (fun h => hab h.2)]
     rw [e] at key
     exact key
   ·have c2 : ¬ ((x : Int) > (i : Int)) := fun h => hlt (Int.ofNat_lt.1 h)
    simp only [c2, if_false]
    have e : eqAt l r i x = ⟨(rd_T38 r (x : Int)).f0, (rd_T38 r (x : Int)).f1⟩ := by
     unfold eqAt
     rw [if_neg hxi, if_neg (fun h => hlt h.1)]
    rw [e] at key
    exact key
theorem eq_l0 (hok : okL l) (hn : l.length ≤ 200) (hr : r.length = l.length) (hv : Vol l.length (lo9 r) (hi9 r)) (hi : i < l.length) : ∀ (d x : Nat), x + d = (kidsAt l l.length i).length →
  Ev (fun k => cohousingref28_equation.l0 k l r (i : Int) ((kidsAt l l.length i).map Int.ofNat) (sm (lo9 r) ((kidsAt l l.length i).take x)) (sm (hi9 r) ((kidsAt l l.length i).take x)) (x : Int)) ((List.range l.length).map (eqAt l r i)) := by
 intro d
 have hb := sums_bound (i := i) hn hv
 have hvi := hv i hi
 have hlo := (hok i hi).2.2.1
 have hkl := kids_len l i
 have hkm : ∀ k ∈ kidsAt l l.length i, k < l.length := fun k hk => (kidsAt_mem.1 hk).1
 induction d with
 | zero =>
  intro x hx
  have h1 : ¬ ((x : Int) < (((kidsAt l l.length i).map Int.ofNat).length : Int)) := by rw [List.length_map]; omega
  have h2 : (0 : Int) ≤ (i : Int) := by omega
  have h3 : ((i : Int) < (r.length : Int)) := by omega
  have h4 : ((i : Int) < (l.length : Int)) := by omega
  refine Ev.step ?_
  rw [List.take_of_length_le (by omega)]
  simp only [cohousingref28_equation.l0, h1, h2, h3, h4, if_true, if_false, cohousingref28_narrow.f, Option.bind_some]
  have e1 : mx (rd_T38 r (i : Int)).f0 (sm (lo9 r) (kidsAt l l.length i)) = ownA l r i := by rw [mx_max]; rfl
  have e2 : mn (rd_T38 r (i : Int)).f1 (wrap64 (sm (hi9 r) (kidsAt l l.length i) + (rd_T63 l (i : Int)).f2)) = ownB l r i := by
   rw [mn_min]
   have w1 : (rd_T63 l (i : Int)).f2 = loP l i := rfl
   have w2 : sm (hi9 r) (kidsAt l l.length i) = sH l r i := rfl
   rw [w1, w2, wrap_id (by omega) (by omega)]
   rfl
  rw [e1, e2]
  have := eq_l1 hok hn hr hv hi l.length 0 [] (by omega) rfl
  rw [List.nil_append, ← List.range_eq_range'] at this
  exact this
 | succ d ih =>
  intro x hx
  have hxl : x < (kidsAt l l.length i).length := by omega
  have h1 : ((x : Int) < (((kidsAt l l.length i).map Int.ofNat).length : Int)) := by rw [List.length_map]; omega
  have h2 : (0 : Int) ≤ (x : Int) := by omega
  have hk := hkm _ (List.getElem_mem hxl)
  have h3 : (0 : Int) ≤ (((kidsAt l l.length i)[x] : Nat) : Int) := by omega
  have h4 : ((((kidsAt l l.length i)[x] : Nat) : Int) < (r.length : Int)) := by omega
  have hvk := hv _ hk
  have t1 := sm_take_le (f := lo9 r) (ks := kidsAt l l.length i) (B := 1000000000) (fun k hk' => by have := hv k (hkm k hk'); omega) (x + 1)
  have t2 := sm_take_le (f := hi9 r) (ks := kidsAt l l.length i) (B := 1000000000) (fun k hk' => by have := hv k (hkm k hk'); omega) (x + 1)
  have hb1 : sm (lo9 r) (kidsAt l l.length i) ≤ 200000000000 := hb.1.2
  have hb2 : sm (hi9 r) (kidsAt l l.length i) ≤ 200000000000 := hb.2.2
  refine Ev.step ?_
  simp only [cohousingref28_equation.l0, h1, h2, if_true, rd_ofNat _ _ hxl, h3, h4, wrap_nat (show x ≤ 140737488355328 by omega)]
  have e1 : wrap64 (sm (lo9 r) ((kidsAt l l.length i).take x) + (rd_T38 r (((kidsAt l l.length i)[x] : Nat) : Int)).f0) = sm (lo9 r) ((kidsAt l l.length i).take (x + 1)) := by
   have w1 : (rd_T38 r (((kidsAt l l.length i)[x] : Nat) : Int)).f0 = lo9 r (kidsAt l l.length i)[x] := rfl
   rw [w1, ← take_sm _ _ _ hxl, wrap_id (by omega) (by omega)]
  have e2 : wrap64 (sm (hi9 r) ((kidsAt l l.length i).take x) + (rd_T38 r (((kidsAt l l.length i)[x] : Nat) : Int)).f1) = sm (hi9 r) ((kidsAt l l.length i).take (x + 1)) := by
   have w1 : (rd_T38 r (((kidsAt l l.length i)[x] : Nat) : Int)).f1 = hi9 r (kidsAt l l.length i)[x] := rfl
   rw [w1, ← take_sm _ _ _ hxl, wrap_id (by omega) (by omega)]
  rw [e1, e2]
  exact ih (x + 1) (by omega)
theorem eq_f (hok : okL l) (hn : l.length ≤ 200) (hr : r.length = l.length) (hv : Vol l.length (lo9 r) (hi9 r)) (hi : i < l.length) :
  Ev (fun k => cohousingref28_equation.f k l r (i : Int) ((kidsAt l l.length i).map Int.ofNat)) ((List.range l.length).map (eqAt l r i)) :=
 eq_l0 hok hn hr hv hi (kidsAt l l.length i).length 0 (by omega)
theorem rr_map (f : Nat → RG) (n j : Nat) (h : j < n) : rr ((List.range n).map f) j = f j := by
 simp [rr, rd_T38, List.getD_eq_getElem?_getD, h]
end
end Go.Proofs.Ythjjabcbngffoaa.P
end
section
namespace Go.Proofs.Ythjjabcbngffoaa.P
open Go.RowKit Go.Proofs.YthjjabcbngffoaaW.PrintWords Go.Proofs.YthjjabcbngffoaaW.PrintLast Go.Proofs.YthjjabcbngffoaaW.PrintMore Go.Proofs.YthjjabcbngffoaaH Go.Proofs.FlowTree
open Classical
section
variable {l : List PI}
def Done (l : List PI) (r : List RG) (p : Nat) : Prop := kidsAt l l.length p ≠ [] → (sL l r p ≤ lo9 r p ∧ hi9 r p ≤ sH l r p + loP l p) ∧
 ∀ k ∈ kidsAt l l.length p, lo9 r p - loP l p - (sH l r p - hi9 r k) ≤ lo9 r k ∧ hi9 r k ≤ hi9 r p - (sL l r p - lo9 r k)
structure Narrow (l : List PI) (r e : List RG) : Prop where
 len : e.length = l.length
 rng : ∀ j, j < l.length → lo9 r j ≤ lo9 e j ∧ hi9 e j ≤ hi9 r j
 sol : ∀ x, Sol (netT l) (lo9 r) (hi9 r) x → Sol (netT l) (lo9 e) (hi9 e) x
theorem Narrow.refl {r : List RG} (h : r.length = l.length) : Narrow l r r := ⟨h, fun _ _ => ⟨Int.le_refl _, Int.le_refl _⟩, fun _ hx => hx⟩
theorem Narrow.trans {r e f : List RG} (h : Narrow l r e) (h' : Narrow l e f) : Narrow l r f :=
 ⟨h'.len, fun j hj => by have := h.rng j hj; have := h'.rng j hj; omega, fun x hx => h'.sol x (h.sol x hx)⟩
def Dead (l : List PI) (e : List RG) : Prop := ∃ j, j < l.length ∧ hi9 e j < lo9 e j
theorem vol_not_dead {e : List RG} (h : Vol l.length (lo9 e) (hi9 e)) : ¬ Dead l e := fun ⟨j, hj, hd⟩ => by have := h j hj; omega
theorem dead_no_sol {e : List RG} (h : Dead l e) : ¬ ∃ x, Sol (netT l) (lo9 e) (hi9 e) x := fun ⟨x, hx⟩ => by
 obtain ⟨j, hj, hd⟩ := h
 have := hx.1 j hj
 omega
theorem eq_step (hok : okL l) (hn : l.length ≤ 200) {r : List RG} (hr : r.length = l.length) (hv : Vol l.length (lo9 r) (hi9 r)) {i : Nat} (hi : i < l.length) (hne : kidsAt l l.length i ≠ []) :
  Narrow l r ((List.range l.length).map (eqAt l r i)) ∧ (Dead l ((List.range l.length).map (eqAt l r i)) ∨ Vol l.length (lo9 ((List.range l.length).map (eqAt l r i))) (hi9 ((List.range l.length).map (eqAt l r i)))) ∧
   (((List.range l.length).map (eqAt l r i)) = r → Done l r i) := by
 have hT := netT_ok hok
 have hvi := hv i hi
 have hlo := (hok i hi).2.2.1
 have hat : ∀ j, j < l.length → rr ((List.range l.length).map (eqAt l r i)) j = eqAt l r i j := fun j hj => rr_map _ _ j hj
 obtain ⟨e, he⟩ : ∃ e, e = (List.range l.length).map (eqAt l r i) := ⟨_, rfl⟩
 rw [← he] at hat ⊢
 have hlen : e.length = l.length := by rw [he, List.length_map, List.length_range]
 have hkid : ∀ k ∈ kidsAt l l.length i, i < k ∧ k < l.length := fun k hk' => hT.lt i k hk'
 have hkid' : ∀ k, k < l.length → (i < k ∧ abP l k = idP l i) → k ∈ kidsAt l l.length i := fun k hk h => kidsAt_mem.2 ⟨hk, h.1, h.2⟩
 have hown : lo9 e i = ownA l r i ∧ hi9 e i = ownB l r i := by
  have := hat i hi
  unfold eqAt at this
  rw [if_pos rfl] at this
  exact ⟨by unfold lo9; rw [this], by unfold hi9; rw [this]⟩
 have hk : ∀ k ∈ kidsAt l l.length i, lo9 e k = max (lo9 r k) (ownA l r i - loP l i - (sH l r i - hi9 r k)) ∧ hi9 e k = min (hi9 r k) (ownB l r i - (sL l r i - lo9 r k)) := by
  intro k hk'
  have hm := kidsAt_mem.1 hk'
  have := hat k (hkid k hk').2
  unfold eqAt at this
  rw [if_neg (by omega), if_pos ⟨hm.2.1, hm.2.2⟩] at this
  exact ⟨by unfold lo9; rw [this]; rfl, by unfold hi9; rw [this]; rfl⟩
 have hsame : ∀ j, j < l.length → j ≠ i → j ∉ kidsAt l l.length i → lo9 e j = lo9 r j ∧ hi9 e j = hi9 r j := by
  intro j hj h1 h2
  have := hat j hj
  unfold eqAt at this
  rw [if_neg h1, if_neg (fun h => h2 (hkid' j hj h))] at this
  exact ⟨by unfold lo9; rw [this], by unfold hi9; rw [this]⟩
 have hsplit : ∀ k ∈ kidsAt l l.length i, ∃ a b, sL l r i = lo9 r k + sm (lo9 r) (a ++ b) ∧ sH l r i = hi9 r k + sm (hi9 r) (a ++ b) ∧ (∀ x, sm x (kidsAt l l.length i) = x k + sm x (a ++ b)) ∧ (∀ q ∈ a ++ b, q ∈ kidsAt l l.length i) := by
  intro k hk'
  obtain ⟨a, b, hab, _⟩ := sm_split (lo9 r) hk'
  have hx : ∀ x : Nat → Int, sm x (kidsAt l l.length i) = x k + sm x (a ++ b) := fun x => by rw [hab, sm_append, sm_append, sm_cons]; omega
  refine ⟨a, b, hx _, hx _, hx, fun q hq => ?_⟩
  rw [hab]
  rcases List.mem_append.1 hq with h' | h'
  ·exact List.mem_append.2 (.inl h')
  ·exact List.mem_append.2 (.inr (List.mem_cons_of_mem _ h'))
 have hnar : Narrow l r e := by
  refine ⟨hlen, fun j hj => ?_, fun x hx => ⟨fun j hj => ?_, hx.2⟩⟩
  ·by_cases h1 : j = i
   ·subst h1
    rw [hown.1, hown.2]
    unfold ownA ownB
    omega
   ·by_cases h2 : j ∈ kidsAt l l.length i
    ·have := hk j h2; omega
    ·have := hsame j hj h1 h2; omega
  ·have hxj := hx.1 j hj
   have hxi := hx.1 i hi
   have h4 := hx.2 i hi hne
   simp only [netT] at h4
   have l1 : sL l r i ≤ sm x (kidsAt l l.length i) := sm_le (fun q hq => (hx.1 q (hkid q hq).2).1)
   have l2 : sm x (kidsAt l l.length i) ≤ sH l r i := sm_le (fun q hq => (hx.1 q (hkid q hq).2).2)
   have ho : ownA l r i ≤ x i ∧ x i ≤ ownB l r i := by unfold ownA ownB; omega
   by_cases h1 : j = i
   ·subst h1
    rw [hown.1, hown.2]
    exact ho
   ·by_cases h2 : j ∈ kidsAt l l.length i
    ·obtain ⟨a, b, e1, e2, e3, hq⟩ := hsplit j h2
     have e4 := e3 x
     have m1 : sm (lo9 r) (a ++ b) ≤ sm x (a ++ b) := sm_le (fun q h => (hx.1 q (hkid q (hq q h)).2).1)
     have m2 : sm x (a ++ b) ≤ sm (hi9 r) (a ++ b) := sm_le (fun q h => (hx.1 q (hkid q (hq q h)).2).2)
     have := hk j h2
     omega
    ·have := hsame j hj h1 h2; omega
 refine ⟨hnar, ?_, fun hee => ?_⟩
 ·by_cases hd : ownA l r i ≤ ownB l r i
  ·refine .inr (fun j hj => ?_)
   have hvj := hv j hj
   have hoA : lo9 r i ≤ ownA l r i ∧ sL l r i ≤ ownA l r i := by unfold ownA; omega
   have hoB : ownB l r i ≤ hi9 r i ∧ ownB l r i ≤ sH l r i + loP l i := by unfold ownB; omega
   by_cases h1 : j = i
   ·subst h1
    rw [hown.1, hown.2]
    omega
   ·by_cases h2 : j ∈ kidsAt l l.length i
    ·obtain ⟨a, b, e1, e2, e3, hq⟩ := hsplit j h2
     have m1 : sm (lo9 r) (a ++ b) ≤ sm (hi9 r) (a ++ b) := sm_le (fun q h => (hv q (hkid q (hq q h)).2).2.1)
     have := hk j h2
     omega
    ·have := hsame j hj h1 h2; omega
  ·exact .inl ⟨i, hi, by rw [hown.1, hown.2]; omega⟩
 ·intro _
  have h1 : lo9 r i = ownA l r i ∧ hi9 r i = ownB l r i := by rw [← hown.1, ← hown.2, hee]; exact ⟨rfl, rfl⟩
  refine ⟨?_, fun k hk' => ?_⟩
  ·unfold ownA ownB at h1
   omega
  ·have h2 := hk k hk'
   rw [hee] at h2
   omega
structure OnceAt (l : List PI) (r : List RG) (m : Nat) (e : List RG) : Prop where
 nar : Narrow l r e
 now : Dead l e ∨ Vol l.length (lo9 e) (hi9 e)
 fix : Vol l.length (lo9 e) (hi9 e) → e = r → ∀ p, p < m → Done l r p
theorem nil_len (l : List PI) (p : Nat) (h : kidsAt l l.length p = []) : ∀ r, Done l r p := fun _ hc => absurd h hc
theorem once_dead (hn : l.length ≤ 200) {r : List RG} (hr : r.length = l.length) (hd : Dead l r) : ∀ m, m ≤ l.length → Ev (fun k => cohousingref28_once.l0 k l r ((m : Int) - 1)) r := by
 intro m
 induction m with
 | zero =>
  intro _
  have h1 : ¬ (((0 : Nat) : Int) - 1 ≥ 0) := by omega
  refine Ev.step ?_
  simp only [cohousingref28_once.l0, h1, if_false]
  exact Ev.pure _
 | succ m ih =>
  intro hm
  have e : ((m + 1 : Nat) : Int) - 1 = (m : Int) := by omega
  have h1 : ((m : Int) ≥ 0) := by omega
  have e2 : wrap64 ((m : Int) - 1) = (m : Int) - 1 := wrap_id (by omega) (by omega)
  rw [e]
  refine Ev.step ?_
  simp only [cohousingref28_once.l0, h1, if_true, e2]
  refine Ev.bnd (below_f' l hn m (by omega)) ?_
  have hem := empty_f r (by omega)
  rw [decide_eq_true (show ∃ j, j < r.length ∧ (rr r j).f1 < (rr r j).f0 from by
   obtain ⟨j, hj, h⟩ := hd
   exact ⟨j, by omega, h⟩)] at hem
  by_cases hc : (((kidsAt l l.length m).map Int.ofNat).length : Int) > 0
  ·simp only [hc, if_true]
   refine Ev.bnd hem ?_
   simp only [if_true]
   exact ih (by omega)
  ·simp only [hc, if_false]
   exact ih (by omega)
theorem once_l0 (hok : okL l) (hn : l.length ≤ 200) : ∀ m, m ≤ l.length → ∀ r : List RG, r.length = l.length → Vol l.length (lo9 r) (hi9 r) → ∃ e, Ev (fun k => cohousingref28_once.l0 k l r ((m : Int) - 1)) e ∧ OnceAt l r m e := by
 intro m
 induction m with
 | zero =>
  intro _ r hr hv
  refine ⟨r, ?_, ⟨Narrow.refl hr, .inr hv, fun _ _ p hp => absurd hp (Nat.not_lt_zero _)⟩⟩
  have h1 : ¬ (((0 : Nat) : Int) - 1 ≥ 0) := by omega
  refine Ev.step ?_
  simp only [cohousingref28_once.l0, h1, if_false]
  exact Ev.pure _
 | succ m ih =>
  intro hm r hr hv
  have e : ((m + 1 : Nat) : Int) - 1 = (m : Int) := by omega
  have h1 : ((m : Int) ≥ 0) := by omega
  have e2 : wrap64 ((m : Int) - 1) = (m : Int) - 1 := wrap_id (by omega) (by omega)
  have hem := empty_f r (by omega)
  rw [decide_eq_false (show ¬ ∃ j, j < r.length ∧ (rr r j).f1 < (rr r j).f0 from by
   rintro ⟨j, hj, h⟩
   exact vol_not_dead hv ⟨j, by omega, h⟩)] at hem
  rw [e]
  by_cases hne : kidsAt l l.length m = []
  ·obtain ⟨e', he', ho⟩ := ih (by omega) r hr hv
   refine ⟨e', Ev.step ?_, ⟨ho.nar, ho.now, fun hv' hee p hp => ?_⟩⟩
   ·simp only [cohousingref28_once.l0, h1, if_true, e2]
    refine Ev.bnd (below_f' l hn m (by omega)) ?_
    have hc : ¬ (((kidsAt l l.length m).map Int.ofNat).length : Int) > 0 := by rw [hne]; simp
    simp only [hc, if_false]
    exact he'
   ·by_cases h' : p < m
    ·exact ho.fix hv' hee p h'
    ·rw [show p = m by omega]; exact nil_len l m hne r
  ·have hst := eq_step hok hn hr hv (i := m) (by omega) hne
   obtain ⟨q, hq⟩ : ∃ q, q = (List.range l.length).map (eqAt l r m) := ⟨_, rfl⟩
   rw [← hq] at hst
   have hqf := eq_f hok hn hr hv (i := m) (by omega)
   rw [← hq] at hqf
   have hrest : ∃ e', Ev (fun k => cohousingref28_once.l0 k l q ((m : Int) - 1)) e' ∧ OnceAt l q m e' := by
    rcases hst.2.1 with hd | hv'
    ·exact ⟨q, once_dead hn hst.1.len hd m (by omega), Narrow.refl hst.1.len, .inl hd, fun hv2 _ => absurd hd (vol_not_dead hv2)⟩
    ·exact ih (by omega) q hst.1.len hv'
   obtain ⟨e', he', ho⟩ := hrest
   refine ⟨e', Ev.step ?_, ⟨hst.1.trans ho.nar, ho.now, fun hv' hee p hp => ?_⟩⟩
   ·simp only [cohousingref28_once.l0, h1, if_true, e2]
    refine Ev.bnd (below_f' l hn m (by omega)) ?_
    have hc : (((kidsAt l l.length m).map Int.ofNat).length : Int) > 0 := by
     have := List.length_pos_iff.2 hne
     rw [List.length_map]; omega
    simp only [hc, if_true]
    refine Ev.bnd hem ?_
    simp only [Bool.false_eq_true, if_false]
    exact Ev.bnd hqf he'
   ·have hqr : q = r := by
     apply rr_ext (by rw [hst.1.len, hr])
     intro j hj
     rw [hst.1.len] at hj
     have a1 := hst.1.rng j hj
     have a2 := ho.nar.rng j hj
     rw [hee] at a2
     have b1 : lo9 q j = lo9 r j := by omega
     have b2 : hi9 q j = hi9 r j := by omega
     unfold lo9 at b1
     unfold hi9 at b2
     cases h1 : rr q j
     cases h2 : rr r j
     rw [h1, h2] at b1 b2
     simp only at b1 b2
     rw [b1, b2]
    by_cases h' : p < m
    ·have := ho.fix hv' (hee.trans hqr.symm) p h'
     rw [hqr] at this
     exact this
    ·rw [show p = m by omega]
     exact hst.2.2 hqr
theorem once_f (hok : okL l) (hn : l.length ≤ 200) (r : List RG) (hr : r.length = l.length) (hv : Vol l.length (lo9 r) (hi9 r)) : ∃ e, Ev (fun k => cohousingref28_once.f k l r) e ∧ OnceAt l r l.length e := by
 obtain ⟨e, he, ho⟩ := once_l0 hok hn l.length (Nat.le_refl _) r hr hv
 refine ⟨e, ?_, ho⟩
 unfold cohousingref28_once.f
 rw [wrap_id (by omega) (by omega)]
 exact he
def wide (n : Nat) (e : List RG) : Nat := (List.range n).foldl (fun s j => s + (hi9 e j - lo9 e j).toNat) 0
theorem wide_succ (n : Nat) (e : List RG) : wide (n + 1) e = wide n e + (hi9 e n - lo9 e n).toNat := by
 unfold wide
 rw [List.range_succ, List.foldl_append]
 rfl
theorem wide_le (r e : List RG) : ∀ n, (∀ j, j < n → lo9 r j ≤ lo9 e j ∧ hi9 e j ≤ hi9 r j) → wide n e ≤ wide n r := by
 intro n
 induction n with
 | zero => intro _; exact Nat.le_refl _
 | succ n ih =>
  intro h
  rw [wide_succ, wide_succ]
  have h1 := ih (fun j hj => h j (by omega))
  have h2 := h n (by omega)
  omega
theorem wide_lt (r e : List RG) : ∀ n, (∀ j, j < n → lo9 r j ≤ lo9 e j ∧ hi9 e j ≤ hi9 r j ∧ lo9 e j ≤ hi9 e j) → (∃ j, j < n ∧ (lo9 r j ≠ lo9 e j ∨ hi9 r j ≠ hi9 e j)) → wide n e < wide n r := by
 intro n
 induction n with
 | zero => rintro _ ⟨j, hj, _⟩; omega
 | succ n ih =>
  rintro h ⟨j, hj, hd⟩
  rw [wide_succ, wide_succ]
  have h2 := h n (by omega)
  by_cases hjn : j < n
  ·have h1 := ih (fun j hj => h j (by omega)) ⟨j, hjn, hd⟩
   omega
  ·have e1 : j = n := by omega
   subst e1
   have h1 := wide_le r e j (fun j hj => by have := h j (by omega); omega)
   omega
theorem bounds_l0 (hok : okL l) (hn : l.length ≤ 200) : ∀ (μ : Nat) (r : List RG), wide l.length r = μ → r.length = l.length → Vol l.length (lo9 r) (hi9 r) →
  (Ev (fun k => cohousingref28_bounds.l0 k l r) ([], false) ∧ ¬ ∃ x, Sol (netT l) (lo9 r) (hi9 r) x) ∨
  (∃ d, Ev (fun k => cohousingref28_bounds.l0 k l r) (d, true) ∧ Narrow l r d ∧ Vol l.length (lo9 d) (hi9 d) ∧ ∀ p, p < l.length → Done l d p) := by
 intro μ
 induction μ using Nat.strongRecOn with
 | ind μ ih =>
  intro r hμ hr hv
  obtain ⟨e, he, ho⟩ := once_f hok hn r hr hv
  have hem := empty_f e (by have := ho.nar.len; omega)
  have hsf := same_f e r (by have := ho.nar.len; omega)
  rcases ho.now with hd | hv'
  ·refine .inl ⟨Ev.step ?_, fun ⟨x, hx⟩ => dead_no_sol hd ⟨x, ho.nar.sol x hx⟩⟩
   rw [decide_eq_true (show ∃ j, j < e.length ∧ (rr e j).f1 < (rr e j).f0 from by
    obtain ⟨j, hj, h⟩ := hd
    exact ⟨j, by rw [ho.nar.len]; exact hj, h⟩)] at hem
   simp only [cohousingref28_bounds.l0]
   refine Ev.bnd he (Ev.bnd hem ?_)
   simp only [if_true]
   exact Ev.pure _
  ·rw [decide_eq_false (show ¬ ∃ j, j < e.length ∧ (rr e j).f1 < (rr e j).f0 from by
    rintro ⟨j, hj, h⟩
    exact vol_not_dead hv' ⟨j, by rw [← ho.nar.len]; exact hj, h⟩)] at hem
   by_cases hee : e = r
   ·rw [decide_eq_true hee] at hsf
    refine .inr ⟨e, Ev.step ?_, ho.nar, hv', fun p hp => by rw [hee]; exact ho.fix hv' hee p hp⟩
    simp only [cohousingref28_bounds.l0]
    refine Ev.bnd he (Ev.bnd hem ?_)
    simp only [Bool.false_eq_true, if_false]
    refine Ev.bnd hsf ?_
    simp only [if_true]
    exact Ev.pure _
   ·rw [decide_eq_false hee] at hsf
    have hlt : wide l.length e < μ := by
     rw [← hμ]
     refine wide_lt r e l.length (fun j hj => by have := ho.nar.rng j hj; have := hv' j hj; omega) ?_
     by_cases hex : ∃ j, j < l.length ∧ (lo9 r j ≠ lo9 e j ∨ hi9 r j ≠ hi9 e j)
     ·exact hex
     ·refine absurd (rr_ext (by rw [ho.nar.len, hr]) (fun j hj => ?_)) hee
      rw [ho.nar.len] at hj
      have b1 : lo9 e j = lo9 r j := by
       by_cases h : lo9 r j = lo9 e j
       ·exact h.symm
       ·exact absurd ⟨j, hj, .inl h⟩ hex
      have b2 : hi9 e j = hi9 r j := by
       by_cases h : hi9 r j = hi9 e j
       ·exact h.symm
       ·exact absurd ⟨j, hj, .inr h⟩ hex
      unfold lo9 at b1
      unfold hi9 at b2
      cases h1 : rr e j
      cases h2 : rr r j
      rw [h1, h2] at b1 b2
      simp only at b1 b2
      rw [b1, b2]
    have hrest : ∀ R, Ev (fun k => cohousingref28_bounds.l0 k l e) R → Ev (fun k => cohousingref28_bounds.l0 k l r) R := fun R hR => by
     refine Ev.step ?_
     simp only [cohousingref28_bounds.l0]
     refine Ev.bnd he (Ev.bnd hem ?_)
     simp only [Bool.false_eq_true, if_false]
     refine Ev.bnd hsf ?_
     simp only [Bool.false_eq_true, if_false]
     exact hR
    rcases ih (wide l.length e) hlt e rfl ho.nar.len hv' with ⟨h1, h2⟩ | ⟨d, h1, h2, h3, h4⟩
    ·exact .inl ⟨hrest _ h1, fun ⟨x, hx⟩ => h2 ⟨x, ho.nar.sol x hx⟩⟩
    ·exact .inr ⟨d, hrest _ h1, ho.nar.trans h2, h3, h4⟩
end
end Go.Proofs.Ythjjabcbngffoaa.P
end
section
namespace Go.Proofs.Ythjjabcbngffoaa.P
open Go.RowKit Go.Proofs.YthjjabcbngffoaaW.PrintWords Go.Proofs.YthjjabcbngffoaaW.PrintLast Go.Proofs.YthjjabcbngffoaaW.PrintMore Go.Proofs.YthjjabcbngffoaaH Go.Proofs.FlowTree
open Classical
theorem Lo_map (r : List RG) : Lo (r.map toI) = lo9 r := funext (fun i => Lo_toI r i)
theorem Hi_map (r : List RG) : Hi (r.map toI) = hi9 r := funext (fun i => Hi_toI r i)
theorem rr_toR (d : List IV) (i : Nat) : rr (d.map toR) i = toR (rv d i) := by
 simp only [rv, rr, rd_T85, rd_T38, Int.toNat_natCast, List.getD_eq_getElem?_getD, List.getElem?_map]
 cases d[i]? <;> rfl
theorem belongs_iff (n : Nat) (r : List RG) : belongsB n r = true ↔ r.length = n ∧ Vol n (lo9 r) (hi9 r) := by
 unfold belongsB
 rw [Bool.and_eq_true, decide_eq_true_eq, Bool.not_eq_true', List.any_eq_false]
 constructor
 ·rintro ⟨h1, h2⟩
  refine ⟨h1, fun j hj => ?_⟩
  have hj' : j < r.length := by omega
  have := h2 r[j] (List.getElem_mem hj')
  simp only [oddR, Bool.not_eq_true, decide_eq_false_iff_not, Decidable.not_not] at this
  have e : rr r j = r[j] := by simp [rr, rd_T38, List.getD_eq_getElem?_getD, hj']
  unfold lo9 hi9
  rw [e]
  omega
 ·rintro ⟨h1, h2⟩
  refine ⟨h1, fun x hx => ?_⟩
  obtain ⟨j, hj, rfl⟩ := List.mem_iff_getElem.1 hx
  have := h2 j (by omega)
  have e : rr r j = r[j] := by simp [rr, rd_T38, List.getD_eq_getElem?_getD, hj]
  unfold lo9 hi9 at this
  rw [e] at this
  simp only [oddR, Bool.not_eq_true, decide_eq_false_iff_not, Decidable.not_not]
  omega
structure Good (l : List PI) (r : List RG) : Prop where
 ok : okL l
 n : l.length ≤ 200
 len : r.length = l.length
 vol : Vol l.length (lo9 r) (hi9 r)
theorem good_iff (l : List PI) (r : List RG) : Good l r ↔ (okL l ∧ l.length ≤ 200) ∧ belongsB l.length r = true := by
 rw [belongs_iff]
 exact ⟨fun h => ⟨⟨h.ok, h.n⟩, h.len, h.vol⟩, fun h => ⟨h.1.1, h.1.2, h.2.1, h.2.2⟩⟩
theorem netOk_some {l : List PI} (h : okL l) (hn : l.length ≤ 200) : ∃ kids, netOk l = some kids ∧ ∀ j, j < l.length → rdK kids j = (kidsAt l l.length j).map Int.ofNat := by
 obtain ⟨kids, hk⟩ := openK_of h
 exact ⟨kids, by unfold netOk; rw [if_pos hn, hk], (openK_some hk).2⟩
theorem netOk_none {l : List PI} (h : ¬ (okL l ∧ l.length ≤ 200)) : netOk l = none := by
 unfold netOk
 by_cases hn : l.length ≤ 200
 ·rw [if_pos hn]
  cases ho : openK l with
  | none => rfl
  | some kids => exact absurd ⟨(openK_some ho).1, hn⟩ h
 ·rw [if_neg hn]
theorem exact_uniq {l : List PI} {lo hi : Nat → Int} {d : List IV} (h : Exact l lo hi d) {e : List RG} (he : e.length = l.length) (hs : ∀ x, Sol (netT l) lo hi x → ∀ j, j < l.length → lo9 e j ≤ x j ∧ x j ≤ hi9 e j)
  (hv : Vol l.length (lo9 e) (hi9 e)) (hh : ∀ j, j < l.length → ∀ v, lo9 e j ≤ v → v ≤ hi9 e j → ∃ x, Sol (netT l) lo hi x ∧ x j = v) : e = d.map toR := by
 apply rr_ext (by rw [he, List.length_map, h.len])
 intro j hj
 rw [he] at hj
 have hd := h.rng j hj
 have hvj := hv j hj
 obtain ⟨x1, s1, e1⟩ := h.had j hj (Lo d j) (by omega) (by omega)
 obtain ⟨x2, s2, e2⟩ := h.had j hj (Hi d j) (by omega) (by omega)
 obtain ⟨x3, s3, e3⟩ := hh j hj (lo9 e j) (by omega) (by omega)
 obtain ⟨x4, s4, e4⟩ := hh j hj (hi9 e j) (by omega) (by omega)
 have a1 := hs x1 s1 j hj
 have a2 := hs x2 s2 j hj
 have a3 := h.sol x3 s3 j hj
 have a4 := h.sol x4 s4 j hj
 rw [rr_toR]
 have b1 : (rr e j).f0 = (rv d j).f0 := by unfold lo9 at *; unfold Lo at *; unfold hi9 at *; unfold Hi at *; omega
 have b2 : (rr e j).f1 = (rv d j).f1 := by unfold lo9 at *; unfold Lo at *; unfold hi9 at *; unfold Hi at *; omega
 unfold toR
 rw [← b1, ← b2]
section
variable {l : List PI} {kids : List (List Int)}
theorem ref_bounds (hok : okL l) (hn : l.length ≤ 200) (hk : ∀ j, j < l.length → rdK kids j = (kidsAt l l.length j).map Int.ofNat) {r : List RG} (hr : r.length = l.length) (hv : Vol l.length (lo9 r) (hi9 r)) :
  ((boundsF l kids (r.map toI)).1 = false ∧ (¬ ∃ x, Sol (netT l) (lo9 r) (hi9 r) x) ∧ Ev (fun k => cohousingref28_bounds.f k l r) ([], false)) ∨
  ((boundsF l kids (r.map toI)).1 = true ∧ Exact l (lo9 r) (hi9 r) (boundsF l kids (r.map toI)).2 ∧ Ev (fun k => cohousingref28_bounds.f k l r) ((boundsF l kids (r.map toI)).2.map toR, true)) := by
 have hb := boundsF_spec hok hn hk (r := r.map toI) (by rw [List.length_map, hr]) (by rw [Lo_map, Hi_map]; exact hv)
 rw [Lo_map, Hi_map] at hb
 have href := bounds_l0 hok hn (wide l.length r) r rfl hr hv
 rcases hb with ⟨b1, b2⟩ | ⟨b1, b2⟩
 ·refine .inl ⟨b1, b2, ?_⟩
  rcases href with ⟨h1, _⟩ | ⟨d, h1, h2, h3, h4⟩
  ·exact h1
  ·exfalso
   by_cases hz : 0 < l.length
   ·obtain ⟨x, hx, _⟩ := exact (netT l) (netT_ok hok) (lo9 d) (hi9 d) (lo9 d) (hi9 d) (fun i hi => (h3 i hi).2.1) (fun i hi hne => (h4 i hi hne).1) (fun i hi => ⟨Int.le_refl _, (h3 i hi).2.1, Int.le_refl _⟩)
     (fun i hi k hk' => (h4 i hi (fun hh => by simp only [netT] at hk'; rw [hh] at hk'; cases hk')).2 k hk') 0 hz (lo9 d 0) (Int.le_refl _) (h3 0 hz).2.1
    exact b2 ⟨x, fun i hi => by have := hx.1 i hi; have := h2.rng i hi; omega, hx.2⟩
   ·exact b2 ⟨fun _ => 0, fun i hi => absurd hi (by simp only [netT]; omega), fun i hi => absurd hi (by simp only [netT]; omega)⟩
 ·refine .inr ⟨b1, b2, ?_⟩
  rcases href with ⟨_, h2⟩ | ⟨d, h1, h2, h3, h4⟩
  ·exfalso
   by_cases hz : 0 < l.length
   ·obtain ⟨x, hx, _⟩ := b2.had 0 hz (Lo _ 0) (Int.le_refl _) (b2.rng 0 hz).2.1
    exact h2 ⟨x, hx⟩
   ·exact h2 ⟨fun _ => 0, fun i hi => absurd hi (by simp only [netT]; omega), fun i hi => absurd hi (by simp only [netT]; omega)⟩
  ·have e := exact_uniq b2 (e := d) h2.len (fun x hx => (h2.sol x hx).1) h3 (fun j hj v hv1 hv2 => by
    obtain ⟨x, hx, hxv⟩ := exact (netT l) (netT_ok hok) (lo9 d) (hi9 d) (lo9 d) (hi9 d) (fun i hi => (h3 i hi).2.1) (fun i hi hne => (h4 i hi hne).1) (fun i hi => ⟨Int.le_refl _, (h3 i hi).2.1, Int.le_refl _⟩)
     (fun i hi k hk' => (h4 i hi (fun hh => by simp only [netT] at hk'; rw [hh] at hk'; cases hk')).2 k hk') j hj v hv1 hv2
    exact ⟨x, ⟨fun i hi => by have := hx.1 i hi; have := h2.rng i hi; omega, hx.2⟩, hxv⟩)
   rw [← e]
   exact h1
end
inductive BoundsIs (l : List PI) (r : List RG) : List RG × Int → Prop
 | arg : ¬ Good l r → BoundsIs l r ([], 1)
 | flow : Good l r → (¬ ∃ x, Sol (netT l) (lo9 r) (hi9 r) x) → BoundsIs l r ([], 30)
 | ok (d : List IV) : Good l r → Exact l (lo9 r) (hi9 r) d → BoundsIs l r (d.map toR, 0)
theorem boundsR_is (l : List PI) (r : List RG) : BoundsIs l r (boundsR l r) := by
 unfold boundsR
 by_cases hg : Good l r
 ·obtain ⟨kids, h1, h2⟩ := netOk_some hg.ok hg.n
  rw [h1]
  simp only []
  rw [if_pos ((good_iff l r).1 hg).2]
  rcases ref_bounds hg.ok hg.n h2 hg.len hg.vol with ⟨b1, b2, _⟩ | ⟨b1, b2, _⟩
  ·rw [if_neg (by rw [b1]; decide)]
   exact .flow hg b2
  ·rw [if_pos b1]
   exact .ok _ hg b2
 ·have hno := fun h => hg ((good_iff l r).2 h)
  by_cases hv : okL l ∧ l.length ≤ 200
  ·obtain ⟨kids, h1, h2⟩ := netOk_some hv.1 hv.2
   rw [h1]
   simp only []
   rw [if_neg (fun h => hno ⟨hv, h⟩)]
   exact .arg hg
  ·rw [netOk_none hv]
   exact .arg hg
end Go.Proofs.Ythjjabcbngffoaa.P
end
section
namespace Go.Proofs.Ythjjabcbngffoaa.P
open Go.RowKit Go.Proofs.YthjjabcbngffoaaW.PrintWords Go.Proofs.YthjjabcbngffoaaW.PrintLast Go.Proofs.YthjjabcbngffoaaW.PrintMore
attribute [local go_sem] max2_int min2_int max_two min_two max_three min_three max_four min_four
set_option linter.unusedVariables false
set_option linter.unusedSimpArgs false
set_option maxHeartbeats 8000000
set_option maxRecDepth 100000
section
theorem eqA94 (d : Nat) (w : World) (x0 y0 : Int) (x1 y1 : Int) :
  (Op.equalIn (d + 2) 94 (.agg #[.int .i64 x0, .int .i64 x1]) (.agg #[.int .i64 y0, .int .i64 y1])).run Try.prog w = .ok (x0 == y0 && (x1 == y1)) w := by
 refine eqA_of Try.underlying94 (by kernel_rfl) ?_
 refine eqf_cons (by rfl) (by go_simp; rfl) (by go_simp; rfl) (by go_simp) ?_
 exact eqf_last (by rfl) (by go_simp; rfl) (by go_simp; rfl) (by go_simp)
end
section
def cohousingref29_Root.l0 : Nat → List (S63) → Int → Int → Option (Int)
 | 0, _, _, _ => none
 | k + 1, x0, x3, x4 => if x4 < (x0.length : Int) then (if 0 ≤ x4 then (if ((rd_T63 x0 x4).f1) = 0 then (if x3 ≥ 0 then (some (-1)) else (cohousingref29_Root.l0 k x0 x4 (wrap64 (x4 + 1)))) else (cohousingref29_Root.l0 k x0 x3 (wrap64 (x4 + 1)))) else (none)) else (some x3)
def cohousingref29_Root.f (k : Nat) (l0 : List (S63)) : Option (Int) := cohousingref29_Root.l0 k l0 (-1) 0
end
section
def cohousingref28_Leaf.f (k : Nat) (l0 : List (S63)) (a1 : Int) : Option (Bool) := (cohousingref28_below.f k l0 a1).bind fun t258 => (some ((t258.length : Int) == 0))
end
section
def cohousingref29_Leaves.l0 : Nat → List (S63) → List Int → Int → Option (List Int)
 | 0, _, _, _ => none
 | k + 1, x0, x3, x4 => if x4 < (x0.length : Int) then ((cohousingref28_Leaf.f k x0 x4).bind fun t261 => (if t261 = true then (if x3.length < 17592186044416 then (cohousingref29_Leaves.l0 k x0 (x3 ++ [x4]) (wrap64 (x4 + 1))) else (none)) else (cohousingref29_Leaves.l0 k x0 x3 (wrap64 (x4 + 1))))) else (some x3)
def cohousingref29_Leaves.f (k : Nat) (l0 : List (S63)) : Option (List Int) := cohousingref29_Leaves.l0 k l0 ([] : List Int) 0
end
end Go.Proofs.Ythjjabcbngffoaa.P
end
section
namespace Go.Proofs.Ythjjabcbngffoaa.P
open Go.RowKit Go.Proofs.YthjjabcbngffoaaW.PrintWords Go.Proofs.YthjjabcbngffoaaW.PrintLast Go.Proofs.YthjjabcbngffoaaW.PrintMore Go.Proofs.YthjjabcbngffoaaH Go.Proofs.FlowTree
open Classical
theorem leaf_ev (p : List PI) (hn : p.length ≤ 200) (i : Nat) (hi : i < p.length) : Ev (fun k => cohousingref28_Leaf.f k p (i : Int)) (decide (kidsAt p p.length i = [])) := by
 unfold cohousingref28_Leaf.f
 refine Ev.bnd (below_f' p hn i hi) ?_
 have e : ((((kidsAt p p.length i).map Int.ofNat).length : Int) == 0) = decide (kidsAt p p.length i = []) := by
  rw [List.length_map]
  cases h : kidsAt p p.length i with
  | nil => simp
  | cons a s => simp; omega
 rw [e]
 exact Ev.pure _
def leavesN (l : List PI) (m : Nat) : List Nat := (List.range m).filter (fun j => decide (kidsAt l l.length j = []))
theorem leavesN_succ (l : List PI) (m : Nat) : leavesN l (m + 1) = leavesN l m ++ (if kidsAt l l.length m = [] then [m] else []) := by
 unfold leavesN
 rw [List.range_succ, List.filter_append]
 congr 1
 by_cases h : kidsAt l l.length m = [] <;> simp [h]
theorem leavesN_len (l : List PI) (m : Nat) : (leavesN l m).length ≤ m := by
 unfold leavesN
 have := List.length_filter_le (fun j => decide (kidsAt l l.length j = [])) (List.range m)
 rw [List.length_range] at this
 exact this
theorem leavesN_mem {l : List PI} {m j : Nat} : j ∈ leavesN l m ↔ j < m ∧ kidsAt l l.length j = [] := by simp [leavesN]
theorem abv_iff {l : List PI} (hok : okL l) {j : Nat} (hj : j < l.length) : abvB l l.length (idP l j) = true ↔ kidsAt l l.length j ≠ [] := by
 unfold abvB
 rw [List.any_eq_true]
 constructor
 ·rintro ⟨i, hi, h⟩ hnil
  have hi' := List.mem_range.1 hi
  have h' : idP l j = abP l i := of_decide_eq_true h
  obtain ⟨j', hj', e⟩ := (hok i hi').2.2.2 (by have := (hok j hj).1; rw [← h']; omega)
  have : j' = j := id_inj (m := l.length) hok (by omega) hj (by rw [e, h'])
  have hm : i ∈ kidsAt l l.length j := kidsAt_mem.2 ⟨hi', by omega, h'.symm⟩
  rw [hnil] at hm
  cases hm
 ·intro hne
  cases hk : kidsAt l l.length j with
  | nil => exact absurd hk hne
  | cons i is =>
   have hm : i ∈ kidsAt l l.length j := by rw [hk]; simp
   have := kidsAt_mem.1 hm
   exact ⟨i, List.mem_range.2 this.1, decide_eq_true this.2.2.symm⟩
theorem parts_at {l : List PI} (hok : okL l) (bs : List RGE) : ∀ m, m ≤ l.length → partsN l bs m = (leavesN l m).map (qq bs) := by
 intro m
 induction m with
 | zero => intro _; rfl
 | succ m ih =>
  intro hm
  have e : partsN l bs (m + 1) = if abvB l l.length (idP l m) = true then partsN l bs m else partsN l bs m ++ [⟨(qq bs m).f0, (qq bs m).f1⟩] := foldl_rng _ _ _
  rw [e, ih (by omega), leavesN_succ]
  by_cases h : kidsAt l l.length m = []
  ·rw [if_neg (fun h2 => (abv_iff hok (by omega)).1 h2 h), if_pos h, List.map_append]
   rfl
  ·rw [if_pos ((abv_iff hok (by omega)).2 h), if_neg h, List.append_nil]
theorem leaves_l0 (l : List PI) (hn : l.length ≤ 200) : ∀ d i : Nat, i + d = l.length → Ev (fun k => cohousingref29_Leaves.l0 k l ((leavesN l i).map Int.ofNat) (i : Int)) ((leavesN l l.length).map Int.ofNat) := by
 intro d
 induction d with
 | zero =>
  intro i hi
  have e : i = l.length := by omega
  subst e
  have h1 : ¬ ((l.length : Int) < (l.length : Int)) := by omega
  refine Ev.step ?_
  simp only [cohousingref29_Leaves.l0, h1, if_false]
  exact Ev.pure _
 | succ d ih =>
  intro i hi
  have h1 : ((i : Int) < (l.length : Int)) := by omega
  have h2 : ((leavesN l i).map Int.ofNat).length < 17592186044416 := by rw [List.length_map]; have := leavesN_len l i; omega
  have hw := wrap_nat (show i ≤ 140737488355328 by omega)
  refine Ev.step ?_
  simp only [cohousingref29_Leaves.l0, h1, if_true]
  refine Ev.bnd (leaf_ev l hn i (by omega)) ?_
  have := ih (i + 1) (by omega)
  rw [leavesN_succ] at this
  by_cases h : kidsAt l l.length i = []
  ·rw [decide_eq_true h]
   rw [if_pos h, List.map_append] at this
   simp only [if_true, h2, hw]
   exact this
  ·rw [decide_eq_false h]
   rw [if_neg h, List.append_nil] at this
   simp only [Bool.false_eq_true, if_false, hw]
   exact this
theorem leaves_ev (l : List PI) (hn : l.length ≤ 200) : Ev (fun k => cohousingref29_Leaves.f k l) ((leavesN l l.length).map Int.ofNat) := leaves_l0 l hn l.length 0 (by omega)
theorem roots_at (l : List PI) (hn : l.length ≤ 5864062014805) : ∀ i, i ≤ l.length → 0 ≤ rootsN l i ∧ rootsN l i ≤ i ∧ (i < l.length → rootsN l (i + 1) = rootsN l i + if abP l i = 0 then 1 else 0) := by
 intro i
 have step : ∀ i, i < l.length → 0 ≤ rootsN l i → rootsN l i ≤ i → rootsN l (i + 1) = rootsN l i + if abP l i = 0 then 1 else 0 := by
  intro i hi h0 h1
  have e : rootsN l (i + 1) = if abP l i = 0 then wrap64 (rootsN l i + 1) else rootsN l i := foldl_rng _ _ _
  rw [e]
  split
  ·rw [wrap_id' (by omega) (by omega)]
  ·omega
 induction i with
 | zero => intro _; exact ⟨Int.le_refl _, Int.le_refl _, fun h => step 0 h (Int.le_refl _) (Int.le_refl _)⟩
 | succ i ih =>
  intro hi
  obtain ⟨h0, h1, h2⟩ := ih (by omega)
  have h3 := h2 (by omega)
  have hb : 0 ≤ rootsN l (i + 1) ∧ rootsN l (i + 1) ≤ ((i + 1 : Nat) : Int) := by rw [h3]; split <;> omega
  exact ⟨hb.1, hb.2, fun h => step (i + 1) h hb.1 hb.2⟩
theorem roots_mono (l : List PI) (hn : l.length ≤ 5864062014805) : ∀ d i, i + d ≤ l.length → rootsN l i ≤ rootsN l (i + d) := by
 intro d
 induction d with
 | zero => intro i _; exact Int.le_refl _
 | succ d ih =>
  intro i h
  have h1 := ih i (by omega)
  have h2 := (roots_at l hn (i + d) (by omega)).2.2 (by omega)
  rw [show i + (d + 1) = i + d + 1 by omega, h2]
  split <;> omega
theorem tot_succ (l : List PI) (bs : List RGE) (i : Nat) : totN l bs (i + 1) = if abP l i = 0 then ⟨(qq bs i).f0, (qq bs i).f1⟩ else totN l bs i := foldl_rng _ _ _
def RootOf (l : List PI) (i : Nat) (r : Int) : Prop := (rootsN l i = 0 ∧ r = -1) ∨ (rootsN l i = 1 ∧ ∃ m : Nat, m < i ∧ r = (m : Int) ∧ abP l m = 0 ∧ ∀ bs : List RGE, totN l bs i = qq bs m)
theorem root_l0 (l : List PI) (hn : l.length ≤ 5864062014805) : ∀ (d i : Nat) (r0 : Int), i + d = l.length → RootOf l i r0 → ∃ r, Ev (fun k => cohousingref29_Root.l0 k l r0 (i : Int)) r ∧ ((rootsN l l.length ≠ 1 ∧ r = -1) ∨ RootOf l l.length r) := by
 intro d
 induction d with
 | zero =>
  intro i r0 hi h
  have e : i = l.length := by omega
  subst e
  have h1 : ¬ ((l.length : Int) < (l.length : Int)) := by omega
  refine ⟨r0, Ev.step ?_, .inr h⟩
  simp only [cohousingref29_Root.l0, h1, if_false]
  exact Ev.pure _
 | succ d ih =>
  intro i r0 hi h
  have h1 : ((i : Int) < (l.length : Int)) := by omega
  have h2 : (0 : Int) ≤ (i : Int) := by omega
  have hw := wrap_nat (show i ≤ 140737488355328 by omega)
  have hs := (roots_at l hn i (by omega)).2.2 (by omega)
  have q : (rd_T63 l (i : Int)).f1 = abP l i := rfl
  by_cases c : abP l i = 0
  ·rw [if_pos c] at hs
   rcases h with ⟨h0, rfl⟩ | ⟨h0, m, hm, rfl, hab, htot⟩
   ·have e1 : ¬ ((-1 : Int) ≥ 0) := by omega
    obtain ⟨r, hr, hR⟩ := ih (i + 1) (i : Int) (by omega) (.inr ⟨by omega, i, Nat.lt_succ_self _, rfl, c, fun bs => by rw [tot_succ, if_pos c]⟩)
    refine ⟨r, Ev.step ?_, hR⟩
    simp only [cohousingref29_Root.l0, h1, h2, if_true, q, c, e1, if_false, hw]
    exact hr
   ·have e1 : ((m : Int) ≥ 0) := by omega
    have hmo := roots_mono l hn (l.length - (i + 1)) (i + 1) (by omega)
    rw [show i + 1 + (l.length - (i + 1)) = l.length by omega] at hmo
    refine ⟨-1, Ev.step ?_, .inl ⟨by omega, rfl⟩⟩
    simp only [cohousingref29_Root.l0, h1, h2, if_true, q, c, e1]
    exact Ev.pure _
  ·rw [if_neg c] at hs
   obtain ⟨r, hr, hR⟩ := ih (i + 1) r0 (by omega) (by
    rcases h with ⟨h0, h'⟩ | ⟨h0, m, hm, h', hab, htot⟩
    ·exact .inl ⟨by omega, h'⟩
    ·exact .inr ⟨by omega, m, by omega, h', hab, fun bs => by rw [tot_succ, if_neg c, htot]⟩)
   refine ⟨r, Ev.step ?_, hR⟩
   simp only [cohousingref29_Root.l0, h1, h2, if_true, q, c, if_false, hw]
   exact hr
theorem root_ev (l : List PI) (hn : l.length ≤ 5864062014805) : ∃ r, Ev (fun k => cohousingref29_Root.f k l) r ∧ ((rootsN l l.length ≠ 1 ∧ r = -1) ∨ (rootsN l l.length = 1 ∧ ∃ m : Nat, m < l.length ∧ r = (m : Int) ∧ abP l m = 0 ∧ ∀ bs : List RGE, totN l bs l.length = qq bs m)) := by
 obtain ⟨r, hr, h⟩ := root_l0 l hn l.length 0 (-1) (by omega) (.inl ⟨rfl, rfl⟩)
 refine ⟨r, hr, ?_⟩
 rcases h with h | h | h
 ·exact .inl h
 ·exact .inl ⟨by rw [h.1]; decide, h.2⟩
 ·exact .inr h
theorem qq_toR (d : List IV) (j : Nat) : qq (d.map toR) j = toR (rv d j) := rr_toR d j
structure NetOk (c : Int) (l : List PI) (known : List RG) (homes : List Int) (q : List CH × Int × Int) (d : List IV) (m : Nat) (p : List CH × Int) : Prop where
 good : Good l known
 bounds : boundsR l known = (d.map toR, 0)
 exact : Exact l (lo9 known) (hi9 known) d
 root : m < l.length
 one : rootsN l l.length = 1
 tot : ∀ bs : List RGE, totN l bs l.length = qq bs m
 same : Lo d m = Hi d m
 pos : 1 ≤ Lo d m
 parts : PartsOk c (Lo d m) ((leavesN l l.length).map (fun j => toR (rv d j)))
 low : LowAt homes c (Lo d m) ((leavesN l l.length).map (fun j => toR (rv d j))) ((leavesN l l.length).map (fun j => toR (rv d j))).length p
 flow : ¬ Lo d m < leastN ((leavesN l l.length).map (fun j => toR (rv d j))) ((leavesN l l.length).map (fun j => toR (rv d j))).length
 res : q = (p.1, c - p.2, 0)
theorem network_ok {c : Int} {l : List PI} {known : List RG} {homes : List Int} (h : (networkC c l known homes).2.2 = 0) : ∃ d m p, NetOk c l known homes (networkC c l known homes) d m p := by
 have hb := boundsR_is l known
 have e0 : (1 : Int) ≠ 0 := by decide
 have e30 : (30 : Int) ≠ 0 := by decide
 generalize hq : boundsR l known = q at hb
 cases hb with
 | arg _ =>
  have : networkC c l known homes = ([], 0, 1) := by unfold networkC; rw [hq, if_neg e0]
  rw [this] at h
  exact absurd h e0
 | flow _ _ =>
  have : networkC c l known homes = ([], 0, 30) := by unfold networkC; rw [hq, if_neg e30]
  rw [this] at h
  exact absurd h e30
 | ok d hg hd =>
  have e1 : networkC c l known homes = (if c < 0 ∨ 1000000000 < c ∨ rootsN l l.length ≠ 1 ∨ homes.length ≠ (partsN l (d.map toR) l.length).length ∨ homesB 0 homes = false then ([], 0, 1)
    else if (totN l (d.map toR) l.length).f0 ≠ (totN l (d.map toR) l.length).f1 ∨ (totN l (d.map toR) l.length).f0 = 0 then ([], 0, 3)
    else shareC c (totN l (d.map toR) l.length).f0 homes (partsN l (d.map toR) l.length)) := by unfold networkC; rw [hq, if_pos rfl]
  rw [e1] at h ⊢
  by_cases c1 : c < 0 ∨ 1000000000 < c ∨ rootsN l l.length ≠ 1 ∨ homes.length ≠ (partsN l (d.map toR) l.length).length ∨ homesB 0 homes = false
  ·rw [if_pos c1] at h; exact absurd h e0
  rw [if_neg c1] at h ⊢
  by_cases c2 : (totN l (d.map toR) l.length).f0 ≠ (totN l (d.map toR) l.length).f1 ∨ (totN l (d.map toR) l.length).f0 = 0
  ·rw [if_pos c2] at h; exact absurd h (by decide)
  rw [if_neg c2] at h ⊢
  have hr1 : rootsN l l.length = 1 := Classical.byContradiction fun hn => c1 (.inr (.inr (.inl hn)))
  obtain ⟨r, _, hR⟩ := root_ev l (by have := hg.n; omega)
  rcases hR with ⟨hne, _⟩ | ⟨_, m, hm, _, hab, htot⟩
  ·exact absurd hr1 hne
  rw [htot, qq_toR] at c2
  have hs : Lo d m = Hi d m := Classical.byContradiction fun hn => c2 (.inl hn)
  have hz : ¬ Lo d m = 0 := fun hn => c2 (.inr hn)
  have hrng := hd.rng m hm
  rw [parts_at hg.ok _ _ (Nat.le_refl _), htot, qq_toR] at h ⊢
  have eP : (leavesN l l.length).map (qq (d.map toR)) = (leavesN l l.length).map (fun j => toR (rv d j)) := List.map_congr_left (fun j _ => qq_toR d j)
  rw [eP] at h ⊢
  have et : (toR (rv d m)).f0 = Lo d m := rfl
  rw [et] at h ⊢
  have hsh := shareC_is c (Lo d m) homes ((leavesN l l.length).map (fun j => toR (rv d j)))
  generalize hq2 : shareC c (Lo d m) homes ((leavesN l l.length).map (fun j => toR (rv d j))) = q2 at hsh h ⊢
  cases hsh with
  | arg _ => exact absurd h e0
  | flow _ _ _ _ => exact absurd h e30
  | ok p hp _ _ hl hlow _ => exact ⟨d, m, p, hg, hq, hd, hm, hr1, htot, hs, by omega, hp, hlow, hl, rfl⟩
end Go.Proofs.Ythjjabcbngffoaa.P
end
section
namespace Go.Proofs.Ythjjabcbngffoaa.P
open Go.RowKit Go.Proofs.YthjjabcbngffoaaW.PrintWords Go.Proofs.YthjjabcbngffoaaW.PrintLast Go.Proofs.YthjjabcbngffoaaW.PrintMore Go.Proofs.YthjjabcbngffoaaH Go.Proofs.FlowTree
open Classical
theorem gB_f {l : List PI} {r : List RG} (hl : l.length ≤ 200) (hr : r.length ≤ 200) : flow_Bounds.f l r = some (boundsR l r) := by unfold flow_Bounds.f; rw [if_pos ⟨by omega, by omega⟩]
theorem gN_f {c : Int} {l : List PI} {r : List RG} {h : List Int} (hl : l.length ≤ 200) (hr : r.length ≤ 200) : charges_Network.f c l r h = some (networkC c l r h) := by unfold charges_Network.f; rw [if_pos ⟨by omega, by omega⟩]
section
variable {c : Int} {l : List PI} {known : List RG} {homes : List Int} {q : List CH × Int × Int} {d : List IV} {m : Nat} {p : List CH × Int}
def lf (l : List PI) (i : Nat) : Nat := (leavesN l l.length).getD i 0
theorem lf_lt (l : List PI) {i : Nat} (h : i < (leavesN l l.length).length) : lf l i < l.length := by
 have : lf l i ∈ leavesN l l.length := by simp [lf, List.getD_eq_getElem?_getD, h]
 exact (leavesN_mem.1 this).1
theorem parts_q (l : List PI) (d : List IV) {i : Nat} (h : i < (leavesN l l.length).length) : qq ((leavesN l l.length).map (fun j => toR (rv d j))) i = toR (rv d (lf l i)) := by
 simp [qq, rd_T38, lf, List.getD_eq_getElem?_getD, h]
end
end Go.Proofs.Ythjjabcbngffoaa.P
end
section
namespace Go.Proofs.Ythjjabcbngffoaa.P
open Go.RowKit Go.Proofs.YthjjabcbngffoaaW.PrintWords Go.Proofs.YthjjabcbngffoaaW.PrintLast Go.Proofs.YthjjabcbngffoaaW.PrintMore Go.Proofs.YthjjabcbngffoaaH Go.Proofs.FlowTree
theorem rd_cons0 (h : Int) (l : List Int) : rd (h :: l) ((0 : Nat) : Int) = h := by simp [rd]
theorem rd_consS (h : Int) (l : List Int) (j : Nat) : rd (h :: l) ((j + 1 : Nat) : Int) = rd l (j : Int) := by
 simp only [rd, Int.toNat_natCast, List.getD_eq_getElem?_getD, List.getElem?_cons_succ]
theorem homesB_at : ∀ (l : List Int) (last : Int), homesB last l = true → ∀ j : Nat, j < l.length → last < rd l (j : Int) ∧ rd l (j : Int) ≤ 64 ∧ ∀ i : Nat, i < j → rd l (i : Int) < rd l (j : Int)
 | [], _, _, _, hj => absurd hj (Nat.not_lt_zero _)
 | h :: tl, last, hh, j, hj => by
  simp only [homesB] at hh
  by_cases c1 : h ≤ last ∨ h > 64
  ·rw [if_pos c1] at hh; cases hh
  rw [if_neg c1] at hh
  cases j with
  | zero =>
   rw [rd_cons0]
   exact ⟨by omega, by omega, fun i hi => absurd hi (Nat.not_lt_zero _)⟩
  | succ j =>
   have ih := homesB_at tl h hh j (by simpa using hj)
   rw [rd_consS]
   refine ⟨by omega, ih.2.1, fun i hi => ?_⟩
   cases i with
   | zero => rw [rd_cons0]; exact ih.1
   | succ i => rw [rd_consS]; exact ih.2.2 i (by omega)
theorem amtB_of {l : List Int} (h : ∀ x ∈ l, -1000000000 ≤ x ∧ x ≤ 1000000000) : amtB l = true := by
 unfold amtB
 rw [List.all_eq_true]
 intro x hx
 have := h x hx
 simp [this]
section
variable {c t : Int} {l : List RGE} {homes : List Int} {p : List CH × Int}
theorem chgs_ok (h : PartsOk c t l) (hlen : homes.length = l.length) (hh : homesB 0 homes = true) (h64 : l.length ≤ 64) (hp : LowAt homes c t l l.length p) : chgsB p.1 = true := by
 unfold chgsB
 rw [Bool.and_eq_true, decide_eq_true_eq, List.all_eq_true]
 refine ⟨by rw [hp.len]; exact h64, fun j hj => ?_⟩
 have hj' : j < l.length := by have := List.mem_range.1 hj; rw [hp.len] at this; exact this
 have hf := hp.form j hj'
 have hb := b_bd h j hj'
 have hc := h.2.1
 have hc0 := h.1
 have hr := homesB_at homes 0 hh j (by omega)
 have g1 := hf.ge
 have g2 := hf.le
 have e1 : (rd_T40 p.1 (j : Int)).f0 = rd homes (j : Int) := hf.home
 have e2 : (rd_T40 p.1 (j : Int)).f2.f0 = bLo c t l j := hf.lo
 have e3 : (rd_T40 p.1 (j : Int)).f2.f1 = bHi c t l j := hf.hi
 have e4 : (rd_T40 p.1 (j : Int)).f3 = (bLo c t l j == bHi c t l j) := hf.sure
 have g1' : bLo c t l j ≤ (rd_T40 p.1 (j : Int)).f1 := g1
 have g2' : (rd_T40 p.1 (j : Int)).f1 ≤ bHi c t l j := g2
 rw [Bool.and_eq_true, Bool.not_eq_true']
 constructor
 ·unfold oneB
  rw [e1, e2, e3, e4]
  simp only [Bool.and_eq_true, decide_eq_true_eq, beq_iff_eq]
  refine ⟨⟨by omega, hr.2.1⟩, amtB_of (fun x hx => ?_), ⟨g1', g2'⟩, ?_⟩
  ·simp at hx
   omega
  ·exact BEq.comm
 ·unfold seenB
  rw [List.any_eq_false]
  intro i hi
  have hij := List.mem_range.1 hi
  have hfi := hp.form i (by omega)
  have e5 : (rd_T40 p.1 (i : Int)).f0 = rd homes (i : Int) := hfi.home
  rw [e1, e5]
  have := hr.2.2 i hij
  simp only [decide_eq_true_eq]
  omega
theorem sum_l0 {l : List CH} (hn : l.length ≤ 64) (hv : ∀ j, j < l.length → 0 ≤ (cc l j).f1 ∧ (cc l j).f1 ≤ 1000000000) {s0 : Int} (hs0 : -1000000000000 ≤ s0) (hs1 : s0 ≤ 1000000000000) : ∀ d i k : Nat, i + d = l.length → d < k →
  settle_sum.l0 k (s0 + sm (fun j => (cc l j).f1) (List.range i)) l (l.length : Int) (i : Int) = some (s0 + sm (fun j => (cc l j).f1) (List.range l.length)) := by
 intro d
 induction d with
 | zero =>
  intro i k hi hk
  obtain ⟨k, rfl⟩ : ∃ m, k = m + 1 := ⟨k - 1, by omega⟩
  have e : i = l.length := by omega
  subst e
  simp only [settle_sum.l0, Int.lt_irrefl, if_false]
 | succ d ih =>
  intro i k hi hk
  obtain ⟨k, rfl⟩ : ∃ m, k = m + 1 := ⟨k - 1, by omega⟩
  have h1 : ((i : Int) < (l.length : Int)) := by omega
  have h2 : (0 : Int) ≤ (i : Int) := by omega
  have hb := sm_bound (f := fun j => (cc l j).f1) (ks := List.range i) (a := 0) (b := 1000000000) (fun j hj => hv j (by have := List.mem_range.1 hj; omega))
  rw [List.length_range] at hb
  have hvi := hv i (by omega)
  have w : wrap64 (s0 + sm (fun j => (cc l j).f1) (List.range i) + (rd_T40 l (i : Int)).f1) = s0 + sm (fun j => (cc l j).f1) (List.range (i + 1)) := by
   have e : (rd_T40 l (i : Int)).f1 = (cc l i).f1 := rfl
   rw [e, wrap_id' (by omega) (by omega), List.range_succ, sm_append, sm_cons, sm_nil]
   omega
  simp only [settle_sum.l0, h1, h2, if_true, w, wrap_nat (show i ≤ 140737488355328 by omega)]
  exact ih (i + 1) k (by omega) (by omega)
theorem sum_f {l : List CH} (hn : l.length ≤ 64) (hv : ∀ j, j < l.length → 0 ≤ (cc l j).f1 ∧ (cc l j).f1 ≤ 1000000000) {s0 : Int} (hs0 : -1000000000000 ≤ s0) (hs1 : s0 ≤ 1000000000000) : settle_sum.f 65 l s0 = some (s0 + sm (fun j => (cc l j).f1) (List.range l.length)) := by
 have := sum_l0 hn hv hs0 hs1 l.length 0 65 (by omega) (by omega)
 rw [List.range_zero, sm_nil, Int.add_zero] at this
 exact this
end
section
variable {c t : Int} {lA lB : List RGE} {homes : List Int} {pA pB : List CH × Int}
theorem low_vals {l : List RGE} {p : List CH × Int} (h : PartsOk c t l) (hp : LowAt homes c t l l.length p) : ∀ j, j < p.1.length → 0 ≤ (cc p.1 j).f1 ∧ (cc p.1 j).f1 ≤ 1000000000 := fun j hj => by
 rw [hp.len] at hj
 have h1 := hp.form j hj
 have h2 := b_bd h j hj
 have h3 := h1.ge
 have h4 := h1.le
 have := h.2.1
 omega
theorem sm_le {f g : Nat → Int} : ∀ n : Nat, (∀ j, j < n → f j ≤ g j) → sm f (List.range n) ≤ sm g (List.range n) := by
 intro n
 induction n with
 | zero => intro _; exact Int.le_refl _
 | succ n ih =>
  intro h
  have h1 := ih (fun j hj => h j (by omega))
  have h2 := h n (by omega)
  rw [List.range_succ, sm_append, sm_append, sm_cons, sm_cons, sm_nil, sm_nil]
  omega
theorem sm_half {f : Nat → Int} : ∀ n : Nat, (∀ j, j < n → 0 ≤ f j) → sm f (List.range n) ≤ 2 * sm (fun j => f j / 2) (List.range n) + n := by
 intro n
 induction n with
 | zero => intro _; simp [sm_nil]
 | succ n ih =>
  intro h
  have h1 := ih (fun j hj => h j (by omega))
  have h2 := h n (by omega)
  rw [List.range_succ, sm_append, sm_append, sm_cons, sm_cons, sm_nil, sm_nil]
  omega
theorem sums_near (hA : PartsOk c t lA) (hB : PartsOk c t lB) (hn : lA.length ≤ 20) (hl : lB.length = lA.length) (hlB : ¬ t < leastN lB lB.length)
  (hpA : LowAt homes c t lA lA.length pA) (hpB : LowAt homes c t lB lB.length pB) (hin : ∀ j, j < lA.length → bLo c t lA j ≤ bLo c t lB j ∧ bHi c t lB j ≤ bHi c t lA j) :
  -1000000000 ≤ pA.2 - pB.2 ∧ pA.2 - pB.2 ≤ 1000000000 := by
 have hc := hA.2.1
 have hc0 := hA.1
 have a1 := hpA.bd
 have b1 := hpB.bd
 have hgB := house_ge hB hlB hpB
 have sA := hpA.sum
 have sB := hpB.sum
 constructor
 ·rcases hpA.mid with h | h
  ·omega
  ·by_cases hcb : pB.2 ≤ 1000000000
   ·omega
   have h1 : sm (fun j => (cc pB.1 j).f1) (List.range lA.length) ≤ sm (fun j => bLo c t lA j + bHi c t lA j) (List.range lA.length) := sm_le _ (fun j hj => by
    have h2 := (hpB.form j (by omega)).le
    have h3 := hin j hj
    have h4 := b_bd hA j hj
    omega)
   have h2 := sm_half (f := fun j => bLo c t lA j + bHi c t lA j) lA.length (fun j hj => by have h4 := b_bd hA j hj; show 0 ≤ bLo c t lA j + bHi c t lA j; omega)
   rw [hl] at sB
   rw [← sB] at h1
   rw [← h] at h2
   omega
 ·by_cases h : pA.2 ≤ c
  ·omega
  ·have h1 : sm (fun j => (cc pA.1 j).f1) (List.range lA.length) ≤ sm (fun j => (cc pB.1 j).f1) (List.range lA.length) := sm_le _ (fun j hj => by
    have h2 := hpA.low (by omega) j hj (by omega)
    have h3 := (hpB.form j (by omega)).ge
    have h4 := hin j hj
    omega)
   rw [hl] at sB
   rw [← sA, ← sB] at h1
   omega
theorem settle_ok (hA : PartsOk c t lA) (hB : PartsOk c t lB) (hn : lA.length ≤ 20) (hl : lB.length = lA.length) (hhl : homes.length = lA.length) (hh : homesB 0 homes = true) (hlA : ¬ t < leastN lA lA.length) (hlB : ¬ t < leastN lB lB.length)
  (hpA : LowAt homes c t lA lA.length pA) (hpB : LowAt homes c t lB lB.length pB) (hin : ∀ j, j < lA.length → bLo c t lA j ≤ bLo c t lB j ∧ bHi c t lB j ≤ bHi c t lA j) :
  settleB pA.1 pB.1 (c - pA.2) (c - pB.2) = true := by
 have hc := hA.2.1
 have hc0 := hA.1
 have a1 := hpA.bd
 have b1 := hpB.bd
 have hgA := house_ge hA hlA hpA
 have hgB := house_ge hB hlB hpB
 have hnear := sums_near hA hB hn hl hlB hpA hpB hin
 have hlenA := hpA.len
 have hlenB := hpB.len
 have q1 := chgs_ok hA hhl hh (by omega) hpA
 have q2 := chgs_ok hB (by omega) hh (by omega) hpB
 have q3 : sameHB pA.1 pB.1 = true := by
  unfold sameHB
  rw [Bool.and_eq_true, decide_eq_true_eq, List.all_eq_true]
  refine ⟨by omega, fun j hj => ?_⟩
  have hj' := List.mem_range.1 hj
  have e1 : (rd_T40 pA.1 (j : Int)).f0 = rd homes (j : Int) := (hpA.form j (by omega)).home
  have e2 : (rd_T40 pB.1 (j : Int)).f0 = rd homes (j : Int) := (hpB.form j (by omega)).home
  rw [e1, e2]
  exact beq_self_eq_true _
 have q4 : allB inB pA.1 pB.1 = true := by
  unfold allB
  rw [List.all_eq_true]
  intro j hj
  have hj' := List.mem_range.1 hj
  have e1 : (rd_T40 pA.1 (j : Int)).f2.f0 = bLo c t lA j := (hpA.form j (by omega)).lo
  have e2 : (rd_T40 pA.1 (j : Int)).f2.f1 = bHi c t lA j := (hpA.form j (by omega)).hi
  have e3 : (rd_T40 pB.1 (j : Int)).f2.f0 = bLo c t lB j := (hpB.form j (by omega)).lo
  have e4 : (rd_T40 pB.1 (j : Int)).f2.f1 = bHi c t lB j := (hpB.form j (by omega)).hi
  have := hin j (by omega)
  unfold inB
  simp only [e1, e2, e3, e4, Bool.and_eq_true, decide_eq_true_eq]
  exact this
 have q5 : amtB [c - pA.2, c - pB.2] = true := amtB_of (fun x hx => by
  simp at hx
  omega)
 have q6 : settle_sum.f 65 pA.1 (c - pA.2) = some c := by
  rw [sum_f (by omega) (low_vals hA hpA) (by omega) (by omega), hlenA, ← hpA.sum]
  congr 1
  omega
 have q7 : settle_sum.f 65 pB.1 (c - pB.2) = some c := by
  rw [sum_f (by omega) (low_vals hB hpB) (by omega) (by omega), hlenB, ← hpB.sum]
  congr 1
  omega
 have q8 : amtB [c - pB.2 - (c - pA.2)] = true := amtB_of (fun x hx => by
  simp at hx
  omega)
 have q9 : allB amt3 pA.1 pB.1 = true := by
  unfold allB
  rw [List.all_eq_true]
  intro j hj
  have hj' := List.mem_range.1 hj
  have fA := low_vals hA hpA j (by omega)
  have fB := low_vals hB hpB j (by omega)
  have bb := b_bd hB j (by omega)
  have e3 : (rd_T40 pB.1 (j : Int)).f2.f0 = bLo c t lB j := (hpB.form j (by omega)).lo
  have e4 : (rd_T40 pB.1 (j : Int)).f2.f1 = bHi c t lB j := (hpB.form j (by omega)).hi
  unfold amt3
  refine amtB_of (fun x hx => ?_)
  simp only [outC, e3, e4, List.mem_cons, List.not_mem_nil, or_false] at hx
  have fA' : 0 ≤ (rd_T40 pA.1 (j : Int)).f1 ∧ (rd_T40 pA.1 (j : Int)).f1 ≤ 1000000000 := fA
  have fB' : 0 ≤ (rd_T40 pB.1 (j : Int)).f1 ∧ (rd_T40 pB.1 (j : Int)).f1 ≤ 1000000000 := fB
  omega
 unfold settleB pairB
 rw [q1, q2, q3, q4, q5, q6, q7, q8, q9]
 simp
theorem settled_l0 (hA : PartsOk c t lA) (hB : PartsOk c t lB) (hn : lA.length ≤ 20) (hl : lB.length = lA.length) (hpA : LowAt homes c t lA lA.length pA) (hpB : LowAt homes c t lB lB.length pB) (hin : ∀ j, j < lA.length → bLo c t lA j ≤ bLo c t lB j ∧ bHi c t lB j ≤ bHi c t lA j)
  {out : List CH} (ho : out.length = lA.length) (hout : ∀ j, j < lA.length → cc out j = outC (cc pA.1 j, cc pB.1 j)) {s0 : Int} (hs : s0 = pA.2 - pB.2) : ∀ d i : Nat, i + d = lA.length →
  Ev (fun k => cohousingtop_w17Settled.l0 k pA.1 pB.1 out (s0 + (sm (fun j => (cc pB.1 j).f1) (List.range i) - sm (fun j => (cc pA.1 j).f1) (List.range i))) (out.length : Int) (i : Int)) true := by
 have hlenA := hpA.len
 have hlenB := hpB.len
 have a1 := hpA.bd
 have b1 := hpB.bd
 intro d
 induction d with
 | zero =>
  intro i hi
  have e : i = lA.length := by omega
  subst e
  have h1 : ¬ ((lA.length : Int) < (out.length : Int)) := by omega
  have e0 : (s0 + (sm (fun j => (cc pB.1 j).f1) (List.range lA.length) - sm (fun j => (cc pA.1 j).f1) (List.range lA.length)) == 0) = true := by
   rw [beq_iff_eq]
   have h2 := hpB.sum
   rw [hl] at h2
   rw [← hpA.sum, ← h2]
   omega
  refine Ev.step ?_
  simp only [cohousingtop_w17Settled.l0, h1, if_false, e0]
  exact Ev.pure _
 | succ d ih =>
  intro i hi
  have hil : i < lA.length := by omega
  have h1 : ((i : Int) < (out.length : Int)) := by omega
  have h2 : (0 : Int) ≤ (i : Int) := by omega
  have h3 : ((i : Int) < (pA.1.length : Int)) := by omega
  have h4 : ((i : Int) < (pB.1.length : Int)) := by omega
  have fA := low_vals hA hpA i (by omega)
  have fB := low_vals hB hpB i (by omega)
  have gA := hpA.form i hil
  have gB := hpB.form i (by omega)
  have hii := hin i hil
  have ho_ := hout i hil
  have o1 : (rd_T40 out (i : Int)).f1 = (cc pB.1 i).f1 - (cc pA.1 i).f1 := by show (cc out i).f1 = _; rw [ho_]; rfl
  have o2 : (rd_T40 out (i : Int)).f3 = (cc pB.1 i).f3 := by show (cc out i).f3 = _; rw [ho_]; rfl
  have rA : rd_T40 pA.1 (i : Int) = cc pA.1 i := rfl
  have rB : rd_T40 pB.1 (i : Int) = cc pB.1 i := rfl
  have w1 : wrap64 ((cc pA.1 i).f1 + ((cc pB.1 i).f1 - (cc pA.1 i).f1)) = (cc pB.1 i).f1 := by rw [wrap_id' (by omega) (by omega)]; omega
  have c1 : ¬ ((cc pB.1 i).f1 < (cc pA.1 i).f2.f0) := by have := gB.ge; rw [gA.lo]; omega
  have c2 : ¬ ((cc pB.1 i).f1 > (cc pA.1 i).f2.f1) := by have := gB.le; rw [gA.hi]; omega
  have hbA := sm_bound (f := fun j => (cc pA.1 j).f1) (ks := List.range i) (a := 0) (b := 1000000000) (fun j hj => low_vals hA hpA j (by have := List.mem_range.1 hj; omega))
  have hbB := sm_bound (f := fun j => (cc pB.1 j).f1) (ks := List.range i) (a := 0) (b := 1000000000) (fun j hj => low_vals hB hpB j (by have := List.mem_range.1 hj; omega))
  rw [List.length_range] at hbA hbB
  have w2 : wrap64 (s0 + (sm (fun j => (cc pB.1 j).f1) (List.range i) - sm (fun j => (cc pA.1 j).f1) (List.range i)) + ((cc pB.1 i).f1 - (cc pA.1 i).f1)) = s0 + (sm (fun j => (cc pB.1 j).f1) (List.range (i + 1)) - sm (fun j => (cc pA.1 j).f1) (List.range (i + 1))) := by
   rw [wrap_id' (by omega) (by omega), List.range_succ, sm_append, sm_append, sm_cons, sm_cons, sm_nil, sm_nil]
   omega
  refine Ev.step ?_
  simp only [cohousingtop_w17Settled.l0, h1, h2, h3, h4, if_true, o1, o2, rA, rB, w1, bne_self_eq_false, Bool.false_eq_true, if_false, c1, c2, w2, wrap_nat (show i ≤ 140737488355328 by omega)]
  exact ih (i + 1) (by omega)
theorem settled_ (hA : PartsOk c t lA) (hB : PartsOk c t lB) (hn : lA.length ≤ 20) (hl : lB.length = lA.length) (hhl : homes.length = lA.length) (hh : homesB 0 homes = true) (hlA : ¬ t < leastN lA lA.length) (hlB : ¬ t < leastN lB lB.length)
  (hpA : LowAt homes c t lA lA.length pA) (hpB : LowAt homes c t lB lB.length pB) (hq : ∀ j, j < lA.length → (qq lA j).f0 ≤ (qq lB j).f0 ∧ (qq lB j).f1 ≤ (qq lA j).f1) :
  Ev (fun k => cohousingtop_w17Settled.f k pA.1 pB.1 (c - pA.2) (c - pB.2)) true := by
 have hin : ∀ j, j < lA.length → bLo c t lA j ≤ bLo c t lB j ∧ bHi c t lB j ≤ bHi c t lA j := fun j hj => ⟨right_mono hA.1 hA.2.2.1 (hq j hj).1, right_mono hA.1 hA.2.2.1 (hq j hj).2⟩
 have hS := settle_ok hA hB hn hl hhl hh hlA hlB hpA hpB hin
 obtain ⟨s1, s2, s3, s4, s5, s6⟩ := settleB_at hS
 have hlenA := hpA.len
 have hlenB := hpB.len
 have eW : settle_Within.f pA.1 pB.1 = some (true, 0) := by unfold settle_Within.f; rw [s1, s2]; rfl
 obtain ⟨out, hout⟩ : ∃ out, out = (List.range pA.1.length).map (fun j => outC (rd_T40 pA.1 (j : Nat), rd_T40 pB.1 (j : Nat))) := ⟨_, rfl⟩
 have eS : settle_Settle.f pA.1 pB.1 (c - pA.2) (c - pB.2) = some (out, c - pB.2 - (c - pA.2), 0) := by unfold settle_Settle.f; rw [if_pos hS, hout]
 have ho : out.length = lA.length := by rw [hout, List.length_map, List.length_range, hlenA]
 have e1 : ((out.length : Int) = (pA.1.length : Int)) := by omega
 have e2 : ((pB.1.length : Int) != (pA.1.length : Int)) = false := by rw [bne_eq_false_iff_eq]; omega
 unfold cohousingtop_w17Settled.f
 simp only [eW, eS, Option.bind_some, if_true, e1, e2]
 refine Ev.step ?_
 simp only [cohousingtop_w17Settled.j0, Bool.false_eq_true, if_false]
 have := settled_l0 hA hB hn hl hpA hpB hin ho (fun j hj => by
  rw [hout]
  simp [cc, rd_T40, List.getD_eq_getElem?_getD, show j < pA.1.length by omega]) (s0 := c - pB.2 - (c - pA.2)) (by omega) lA.length 0 (by omega)
 rw [List.range_zero, sm_nil, sm_nil, Int.sub_zero, Int.add_zero] at this
 exact this
end
end Go.Proofs.Ythjjabcbngffoaa.P
end
section
namespace Go.Proofs.Ythjjabcbngffoaa.P
open Go.RowKit Go.Proofs.YthjjabcbngffoaaW.PrintWords Go.Proofs.YthjjabcbngffoaaW.PrintLast Go.Proofs.YthjjabcbngffoaaW.PrintMore Go.Proofs.YthjjabcbngffoaaH Go.Proofs.FlowTree
open Classical
theorem pipes_f : cohousingtop_w17Pipes.f = some true := by kernel_rfl
theorem sm_add (f g : Nat → Int) : ∀ n, sm (fun i => f i + g i) (List.range n) = sm f (List.range n) + sm g (List.range n) := by
 intro n
 induction n with
 | zero => rfl
 | succ n ih =>
  rw [List.range_succ, sm_append, sm_append, sm_append, sm_cons, sm_cons, sm_cons, sm_nil, sm_nil, sm_nil, ih]
  omega
theorem sm_zero : ∀ n, sm (fun _ => 0) (List.range n) = 0 := by
 intro n
 induction n with
 | zero => rfl
 | succ n ih => rw [List.range_succ, sm_append, sm_cons, sm_nil, ih]; rfl
theorem sm_one (g : Nat → Int) (i n : Nat) (hi : i < n) (h : ∀ j, j ≠ i → g j = 0) : sm g (List.range n) = g i := by
 rw [sm_upd (fun _ => 0) g i (g i) (fun j hj => h j hj) (by omega) n, sm_zero, if_pos hi]
 omega
theorem kids_all {l : List PI} (hok : okL l) (x : Nat → Int) : ∀ q, q ≤ l.length → sm (fun i => sm x (kidsAt l q i)) (List.range l.length) = sm (fun k => if abP l k = 0 then 0 else x k) (List.range q) := by
 intro q
 induction q with
 | zero =>
  intro _
  rw [sm_congr (g := fun _ => 0) (fun i _ => by show sm x (kidsAt l 0 i) = 0; simp [kidsAt, sm_nil]), sm_zero]
  rfl
 | succ q ih =>
  intro hq
  have e1 : sm (fun i => sm x (kidsAt l (q + 1) i)) (List.range l.length) = sm (fun i => sm x (kidsAt l q i) + (if i < q ∧ abP l q = idP l i then x q else 0)) (List.range l.length) := sm_congr (fun i _ => by
   show sm x (kidsAt l (q + 1) i) = _
   rw [kidsAt_succ, sm_append]
   by_cases h : i < q ∧ abP l q = idP l i
   ·rw [if_pos h, if_pos h, sm_cons, sm_nil]; omega
   ·rw [if_neg h, if_neg h, sm_nil])
  rw [e1, sm_add, ih (by omega), List.range_succ, sm_append, sm_cons, sm_nil]
  congr 1
  by_cases h0 : abP l q = 0
  ·rw [if_pos h0]
   rw [sm_congr (g := fun _ => 0) (fun i hi => by
    have hi' := List.mem_range.1 hi
    have := (hok i hi').1
    rw [if_neg (fun h => by have := h.2; omega)]), sm_zero]
   rfl
  ·rw [if_neg h0]
   obtain ⟨j, hj, e⟩ := (hok q (by omega)).2.2.2 h0
   rw [sm_one _ j l.length (by omega) (fun i hi => by
    rw [if_neg]
    rintro ⟨hiq, hid⟩
    exact hi (id_inj (m := l.length) hok (by omega) (by omega) (by rw [e, hid]))), if_pos ⟨hj, e.symm⟩]
   omega
theorem leaves_sum (l : List PI) (x : Nat → Int) : ∀ m, sm x (leavesN l m) = sm (fun i => if kidsAt l l.length i = [] then x i else 0) (List.range m) := by
 intro m
 induction m with
 | zero => rfl
 | succ m ih =>
  rw [leavesN_succ, sm_append, ih, List.range_succ, sm_append, sm_cons, sm_nil]
  by_cases h : kidsAt l l.length m = []
  ·rw [if_pos h, if_pos h, sm_cons, sm_nil]
  ·rw [if_neg h, if_neg h, sm_nil]; rfl
theorem root_one {l : List PI} (hn : l.length ≤ 5864062014805) (hone : rootsN l l.length = 1) {a b : Nat} (hab : a < b) (hb : b < l.length) (h0 : abP l a = 0) (h1 : abP l b = 0) : False := by
 have r1 := (roots_at l hn a (by omega)).2.2 (by omega)
 have r0 := (roots_at l hn a (by omega)).1
 have r2 := (roots_at l hn b (by omega)).2.2 hb
 have m1 := roots_mono l hn (b - (a + 1)) (a + 1) (by omega)
 have m2 := roots_mono l hn (l.length - (b + 1)) (b + 1) (by omega)
 rw [show a + 1 + (b - (a + 1)) = b by omega] at m1
 rw [show b + 1 + (l.length - (b + 1)) = l.length by omega] at m2
 rw [if_pos h0] at r1
 rw [if_pos h1] at r2
 omega
theorem leaves_le {l : List PI} (hok : okL l) (hn : l.length ≤ 200) (hone : rootsN l l.length = 1) {m : Nat} (hm : m < l.length) (h0 : abP l m = 0) {x : Nat → Int} (hx : ∀ i, i < l.length → (netT l).eq x i) : sm x (leavesN l l.length) ≤ x m := by
 have k1 := kids_all hok x l.length (Nat.le_refl _)
 have k2 : sm (fun i => sm x (kidsAt l l.length i)) (List.range l.length) ≤ sm (fun i => if kidsAt l l.length i = [] then 0 else x i) (List.range l.length) := sm_le _ (fun i hi => by
  show sm x (kidsAt l l.length i) ≤ _
  by_cases h : kidsAt l l.length i = []
  ·rw [if_pos h, h, sm_nil]; exact Int.le_refl _
  ·rw [if_neg h]
   have := hx i hi h
   have e : (netT l).kid i = kidsAt l l.length i := rfl
   rw [e] at this
   omega)
 have k3 := leaves_sum l x l.length
 have k4 := sm_add (fun i => if kidsAt l l.length i = [] then x i else 0) (fun i => if kidsAt l l.length i = [] then 0 else x i) l.length
 have k5 := sm_add (fun i => if abP l i = 0 then 0 else x i) (fun i => if abP l i = 0 then x i else 0) l.length
 have e4 : sm (fun i => (if kidsAt l l.length i = [] then x i else 0) + (if kidsAt l l.length i = [] then 0 else x i)) (List.range l.length) = sm x (List.range l.length) := sm_congr (fun i _ => by split <;> omega)
 have e5 : sm (fun i => (if abP l i = 0 then 0 else x i) + (if abP l i = 0 then x i else 0)) (List.range l.length) = sm x (List.range l.length) := sm_congr (fun i _ => by split <;> omega)
 rw [e4] at k4
 rw [e5] at k5
 have k6 : sm (fun i => if abP l i = 0 ∧ i < l.length then x i else 0) (List.range l.length) = x m := by
  have := sm_one (fun i => if abP l i = 0 ∧ i < l.length then x i else 0) m l.length hm (fun j hj => by
   rw [if_neg]
   rintro ⟨hj0, hjl⟩
   rcases Nat.lt_trichotomy j m with h | h | h
   ·exact root_one (by omega) hone h hm hj0 h0
   ·exact hj h
   ·exact root_one (by omega) hone h hjl h0 hj0)
  rw [this, if_pos ⟨h0, hm⟩]
 have k7 : sm (fun i => if abP l i = 0 then x i else 0) (List.range l.length) = sm (fun i => if abP l i = 0 ∧ i < l.length then x i else 0) (List.range l.length) := sm_congr (fun i hi => by
  have := List.mem_range.1 hi
  by_cases h : abP l i = 0
  ·rw [if_pos h, if_pos ⟨h, this⟩]
  ·rw [if_neg h, if_neg (fun hh => h hh.1)])
 omega
theorem sm_list (F : Nat → Int) (L : List Nat) : sm (fun j => F (L.getD j 0)) (List.range L.length) = sm F L := by
 have e : (List.range L.length).map (fun j => F (L.getD j 0)) = L.map F := by
  apply List.ext_getElem
  ·simp
  ·intro i h1 h2
   have hi : i < L.length := by simpa using h2
   simp [hi]
 unfold sm
 rw [e]
theorem bounds_ok {l : List PI} {r : List RG} (h : (boundsR l r).2 = 0) : ∃ d, boundsR l r = (d.map toR, 0) ∧ Good l r ∧ Exact l (lo9 r) (hi9 r) d := by
 have hb := boundsR_is l r
 generalize hq : boundsR l r = q at hb h ⊢
 cases hb with
 | arg _ => exact absurd h (by decide)
 | flow _ _ => exact absurd h (by decide)
 | ok d hg hd => exact ⟨d, rfl, hg, hd⟩
def Within (l : List PI) (r r' : List RG) : Prop := ∀ j, j < l.length → lo9 r j ≤ lo9 r' j ∧ hi9 r' j ≤ hi9 r j
theorem within_sol {l : List PI} {r r' : List RG} (h : Within l r r') {x : Nat → Int} (hx : Sol (netT l) (lo9 r') (hi9 r') x) : Sol (netT l) (lo9 r) (hi9 r) x :=
 ⟨fun i hi => by have h1 := h i hi; have h2 := hx.1 i hi; omega, hx.2⟩
theorem within_exact {l : List PI} {r r' : List RG} (h : Within l r r') {d d' : List IV} (hd : Exact l (lo9 r) (hi9 r) d) (hd' : Exact l (lo9 r') (hi9 r') d') : ∀ j, j < l.length → Lo d j ≤ Lo d' j ∧ Hi d' j ≤ Hi d j := fun j hj => by
 have hr := hd'.rng j hj
 obtain ⟨x, hx, e⟩ := hd'.had j hj (Lo d' j) (Int.le_refl _) hr.2.1
 obtain ⟨y, hy, e'⟩ := hd'.had j hj (Hi d' j) hr.2.1 (Int.le_refl _)
 have h1 := hd.sol x (within_sol h hx) j hj
 have h2 := hd.sol y (within_sol h hy) j hj
 omega
theorem network_homes {c : Int} {l : List PI} {known : List RG} {homes : List Int} {d : List IV} (h : (networkC c l known homes).2.2 = 0) (hb : boundsR l known = (d.map toR, 0)) :
  (0 ≤ c ∧ c ≤ 1000000000) ∧ homes.length = (partsN l (d.map toR) l.length).length ∧ homesB 0 homes = true := by
 unfold networkC at h
 rw [hb, if_pos rfl] at h
 by_cases c1 : c < 0 ∨ 1000000000 < c ∨ rootsN l l.length ≠ 1 ∨ homes.length ≠ (partsN l (d.map toR) l.length).length ∨ homesB 0 homes = false
 ·rw [if_pos c1] at h; exact absurd h (by decide)
 refine ⟨⟨by omega, by omega⟩, Classical.byContradiction fun hn => c1 (.inr (.inr (.inr (.inl hn)))), ?_⟩
 cases hx : homesB 0 homes with
 | true => rfl
 | false => exact absurd (.inr (.inr (.inr (.inr hx)))) c1
def parts (l : List PI) (d : List IV) : List RGE := (leavesN l l.length).map (fun j => toR (rv d j))
theorem parts_len (l : List PI) (d : List IV) : (parts l d).length = (leavesN l l.length).length := by unfold parts; rw [List.length_map]
theorem net_second {c : Int} {l : List PI} {known : List RG} {homes : List Int} {q : List CH × Int × Int} {d : List IV} {m : Nat} {p : List CH × Int} (hN : NetOk c l known homes q d m p) (hq : (networkC c l known homes).2.2 = 0)
  {r : List RG} (hw : Within l known r) {d' : List IV} (hb : boundsR l r = (d'.map toR, 0)) (hd : Exact l (lo9 r) (hi9 r) d') :
  ∃ p', networkC c l r homes = (p'.1, c - p'.2, 0) ∧ PartsOk c (Lo d m) (parts l d') ∧ LowAt homes c (Lo d m) (parts l d') (parts l d').length p' ∧ ¬ Lo d m < leastN (parts l d') (parts l d').length ∧ homes.length = (parts l d').length ∧ homesB 0 homes = true := by
 have hn := hN.good.n
 obtain ⟨hc, hlen, hh⟩ := network_homes hq hN.bounds
 have hin := within_exact hw hN.exact hd
 have hok := hN.good.ok
 have hm := hin m hN.root
 have hrm := hd.rng m hN.root
 have hsame := hN.same
 have hpos := hN.pos
 have e1 : Lo d' m = Lo d m := by omega
 have e2 : Hi d' m = Lo d m := by omega
 have hlen2 : homes.length = (parts l d').length := by rw [hlen, parts_at hok _ _ (Nat.le_refl _), List.length_map, parts_len]
 have hP : PartsOk c (Lo d m) (parts l d') := by
  refine ⟨hc.1, hc.2, hpos, hN.parts.2.2.2.1, by rw [parts_len]; exact Nat.le_trans (leavesN_len l l.length) hn, fun j hj => ?_⟩
  rw [parts_len] at hj
  have hlt := lf_lt l hj
  have h1 := hin (lf l j) hlt
  have h2 := hd.rng (lf l j) hlt
  have h3 := hN.parts.2.2.2.2.2 j (by rw [List.length_map]; exact hj)
  rw [parts_q l d hj] at h3
  show 0 ≤ (qq ((leavesN l l.length).map (fun j => toR (rv d' j))) j).f0 ∧ _
  have hgoal := parts_q l d' hj
  unfold parts
  rw [hgoal]
  have h4 : (toR (rv d (lf l j))).f0 = Lo d (lf l j) := rfl
  have h5 : (toR (rv d (lf l j))).f1 = Hi d (lf l j) := rfl
  have h6 : (toR (rv d' (lf l j))).f0 = Lo d' (lf l j) := rfl
  have h7 : (toR (rv d' (lf l j))).f1 = Hi d' (lf l j) := rfl
  rw [h4, h5] at h3
  rw [h6, h7]
  omega
 have hL : ¬ Lo d m < leastN (parts l d') (parts l d').length := by
  have h1 := (least_at hP (parts l d').length (Nat.le_refl _)).1
  obtain ⟨rt, _, hR⟩ := root_ev l (by omega)
  rcases hR with ⟨hne, _⟩ | ⟨_, m', hm', _, hab, htot⟩
  ·exact absurd hN.one hne
  have hmm : Hi d' m' = Hi d' m := by
   have h2 := (htot (d'.map toR)).symm.trans (hN.tot (d'.map toR))
   rw [qq_toR, qq_toR] at h2
   have h3 : (toR (rv d' m')).f1 = (toR (rv d' m)).f1 := by rw [h2]
   exact h3
  have hrm' := hd.rng m' hm'
  obtain ⟨x, hx, _⟩ := hd.had m' hm' (Lo d' m') (Int.le_refl _) hrm'.2.1
  have h4 := leaves_le hok hn hN.one hm' hab (x := x) hx.2
  have h5 := hd.sol x hx m' hm'
  have h6 : sm (fun j => (qq (parts l d') j).f0) (List.range (parts l d').length) = sm (Lo d') (leavesN l l.length) := by
   rw [← sm_list (Lo d') (leavesN l l.length), parts_len]
   refine sm_congr (fun j hj => ?_)
   have hj' := List.mem_range.1 hj
   show (qq ((leavesN l l.length).map (fun j => toR (rv d' j))) j).f0 = _
   rw [parts_q l d' hj']
   rfl
  have h7 : sm (Lo d') (leavesN l l.length) ≤ sm x (leavesN l l.length) := by
   rw [← sm_list (Lo d') (leavesN l l.length), ← sm_list x (leavesN l l.length)]
   exact sm_le _ (fun j hj => (hd.sol x hx (lf l j) (lf_lt l hj)).1)
  rw [h1, h6]
  omega
 have hs := shareC_is c (Lo d m) homes (parts l d')
 have eN : networkC c l r homes = shareC c (Lo d m) homes (parts l d') := by
  unfold networkC
  rw [hb, if_pos rfl]
  have eP : partsN l (d'.map toR) l.length = parts l d' := by
   rw [parts_at hok _ _ (Nat.le_refl _)]
   exact List.map_congr_left (fun j _ => qq_toR d' j)
  have eT : (totN l (d'.map toR) l.length) = toR (rv d' m) := by rw [hN.tot, qq_toR]
  have t1 : (toR (rv d' m)).f0 = Lo d m := e1
  have t2 : (toR (rv d' m)).f1 = Lo d m := e2
  have c1 : ¬ (c < 0 ∨ 1000000000 < c ∨ rootsN l l.length ≠ 1 ∨ homes.length ≠ (partsN l (d'.map toR) l.length).length ∨ homesB 0 homes = false) := by
   rw [eP, hh]
   rintro (h | h | h | h | h)
   ·omega
   ·omega
   ·exact h hN.one
   ·exact h hlen2
   ·cases h
  rw [if_neg c1, eT, eP, t1, t2, if_neg (by omega)]
 generalize hq2 : shareC c (Lo d m) homes (parts l d') = q2 at hs eN
 cases hs with
 | arg hno => exact absurd ⟨hP, hlen2, hh⟩ hno
 | flow _ _ _ hlt => exact absurd hlt hL
 | ok p' _ _ _ _ hlow _ => exact ⟨p', eN, hP, hlow, hL, hlen2, hh⟩
theorem net_settled {c t : Int} {l : List PI} {homes : List Int} (hn : l.length ≤ 20) {d d' : List IV} {p p' : List CH × Int} (hin : ∀ j, j < l.length → Lo d j ≤ Lo d' j ∧ Hi d' j ≤ Hi d j)
  (hP : PartsOk c t (parts l d)) (hP' : PartsOk c t (parts l d')) (hlow : LowAt homes c t (parts l d) (parts l d).length p) (hlow' : LowAt homes c t (parts l d') (parts l d').length p')
  (hL : ¬ t < leastN (parts l d) (parts l d).length) (hL' : ¬ t < leastN (parts l d') (parts l d').length) (hlen : homes.length = (parts l d).length) (hh : homesB 0 homes = true) :
  Ev (fun k => cohousingtop_w17Settled.f k p.1 p'.1 (c - p.2) (c - p'.2)) true := by
 refine settled_ hP hP' (by rw [parts_len]; exact Nat.le_trans (leavesN_len l l.length) hn) (by rw [parts_len, parts_len]) hlen hh hL hL' hlow hlow' (fun j hj => ?_)
 rw [parts_len] at hj
 have h1 := hin (lf l j) (lf_lt l hj)
 have e1 := parts_q l d hj
 have e2 := parts_q l d' hj
 show (qq ((leavesN l l.length).map (fun j => toR (rv d j))) j).f0 ≤ (qq ((leavesN l l.length).map (fun j => toR (rv d' j))) j).f0 ∧ (qq ((leavesN l l.length).map (fun j => toR (rv d' j))) j).f1 ≤ (qq ((leavesN l l.length).map (fun j => toR (rv d j))) j).f1
 rw [e1, e2]
 exact h1
end Go.Proofs.Ythjjabcbngffoaa.P
end
section
namespace Go.Proofs.YthjjabcbngffoaaH
open Go.RowKit Go.ChangeShapes Go.WideShapes Go.Proofs.YthjjabcbngffoaaW.PrintWords
def Opens {α : Type} (P : Program) (d : Kd α) (t : TypeId) : Prop :=
 ∀ {H : Type} {enc : TypeId × Value → H} {w : World} {base : Nat} {spare : Nat → Bool} {held : Bool} {fuel : Nat} {cs : List Value} {x : DataW H × List MemPlace}, DataW.trod enc P w base spare held fuel t cs = some x → ∃ a : α, d.K w a cs
theorem Opens.int {P : Program} {t : TypeId} {k : IntKind} (h : P.underlying t = some (.int k)) : Opens P (Kd.int k) t := by
 intro H enc w base spare held fuel cs x hx
 obtain ⟨n, rfl, _, _⟩ := DataW.trod_int h hx
 exact ⟨n, rfl⟩
theorem Opens.iso {α β : Type} {P : Program} {d : Kd α} {t : TypeId} (f : β → α) (g : α → β) (hfg : ∀ a, f (g a) = a) (h : Opens P d t) : Opens P (Kd.iso d f) t := by
 intro H enc w base spare held fuel cs x hx
 obtain ⟨a, ha⟩ := h hx
 refine ⟨g a, ?_⟩
 show d.K w (f (g a)) cs
 rw [hfg]
 exact ha
def Segs {β : Type} (P : Program) (d : Kd β) (fs : List Field) (o z : Nat) : Prop :=
 ∀ {H : Type} {enc : TypeId × Value → H} {w : World} {base : Nat} {spare : Nat → Bool} {held : Bool} {fuel : Nat} {cs : List Value}, cs.length = z →
  (∀ f ∈ fs, ∃ x : DataW H × List MemPlace, DataW.trod enc P w base spare held fuel f.type ((cs.drop f.offset).take (P.cellsOf f.type)) = some x) → ∃ b : β, d.K w b (cs.drop o)
theorem Segs.one {α : Type} {P : Program} {d : Kd α} {f : Field} {o z : Nat} (h : Opens P d f.type) (ho : f.offset = o) (hz : z = o + P.cellsOf f.type) : Segs P d [f] o z := by
 intro H enc w base spare held fuel cs hl hf
 obtain ⟨x, hx⟩ := hf f (by simp)
 obtain ⟨a, ha⟩ := h hx
 refine ⟨a, ?_⟩
 rw [ho, List.take_of_length_le (by rw [List.length_drop]; omega)] at ha
 exact ha
theorem Segs.cons {α β : Type} {P : Program} {d : Kd α} {d' : Kd β} {f : Field} {fs : List Field} {o o' z : Nat} (h : Opens P d f.type) (ho : f.offset = o) (ho' : o' = o + P.cellsOf f.type) (hr : Segs P d' fs o' z) : Segs P (Kd.pair d d') (f :: fs) o z := by
 intro H enc w base spare held fuel cs hl hf
 obtain ⟨x, hx⟩ := hf f (by simp)
 obtain ⟨a, ha⟩ := h hx
 obtain ⟨b, hb⟩ := hr hl (fun f' h' => hf f' (List.mem_cons_of_mem _ h'))
 refine ⟨(a, b), _, _, ?_, ha, hb⟩
 rw [ho, ho', ← List.drop_drop, List.take_append_drop]
theorem Opens.struct {β : Type} {P : Program} {d : Kd β} {t : TypeId} {fs : Array Field} (h : P.underlying t = some (.struct fs)) (hr : Segs P d fs.toList 0 (P.cellsOf t)) : Opens P d t := by
 intro H enc w base spare held fuel cs x hx
 obtain ⟨xs, n, _, _, hl, hxl, hf⟩ := DataW.trod_struct h hx
 have := hr (enc := enc) (w := w) (base := base) (spare := spare) (held := held) (fuel := n) (cs := cs) hl (fun f hm => by
  obtain ⟨i, hi, rfl⟩ := List.mem_iff_getElem.1 hm
  have hi' : i < fs.size := by simpa using hi
  have h1 := hf i fs[i] (by simp [hi'])
  refine ⟨xs[i]'(by omega), ?_⟩
  rw [Array.getElem_toList]
  rw [h1]
  simp [hxl, hi'])
 rw [List.drop_zero] at this
 exact this
theorem Opens.row {α : Type} {P : Program} {d : Kd α} {t e : TypeId} (ht : P.underlying t = some (.slice e)) (hsz : P.cellsOf e = d.sz) (he : Opens P d e) {H : Type} {enc : TypeId × Value → H} {w : World} {base : Nat} {spare : Nat → Bool} {held : Bool} {fuel : Nat} {cs : List Value} {x : DataW H × List MemPlace}
  (hx : DataW.trod enc P w base spare held fuel t cs = some x) : ∃ A len cap, cs = [.slice A len cap] ∧ ∃ xs : List α, xs.length = len ∧ len ≤ cap ∧ d.C w A len xs := by
 rcases Deep.open_slice ht hx with ⟨rfl, _⟩ | ⟨a, len, cap, m, n, D, Pl, rfl, _, hl, hm, hmm, _, hel⟩
 ·exact ⟨none, 0, 0, rfl, [], rfl, Nat.le_refl _, rfl, by omega, fun h => absurd h (Nat.lt_irrefl _)⟩
 ·have hlm : len ≤ m := by rw [hmm]; split <;> omega
  have each : ∀ i, i < len → ∃ a' : α, ∃ cs', cs'.length = d.sz ∧ d.K w a' cs' ∧ ∀ j u, cs'[j]? = some u → w.cell? (a.add (i * d.sz + j)) = some u := by
   intro i hi
   obtain ⟨cs', h1, h2⟩ := hel i (by omega)
   obtain ⟨a', ha'⟩ := he h2
   obtain ⟨_, hlen, hcell⟩ := World.cells?_some h1
   refine ⟨a', cs', by omega, ha', fun j u hj => ?_⟩
   have hjl : j < cs'.length := (List.getElem?_eq_some_iff.1 hj).1
   have := hcell j (by omega)
   rw [Deep.add_add, hsz] at this
   rw [this, hj]
  obtain ⟨xs, hxs⟩ : ∃ xs : List α, xs.length = len ∧ ∀ i (h : i < xs.length), ∃ cs', cs'.length = d.sz ∧ d.K w xs[i] cs' ∧ ∀ j u, cs'[j]? = some u → w.cell? (a.add (i * d.sz + j)) = some u := by
   have key : ∀ k, k ≤ len → ∃ xs : List α, xs.length = k ∧ ∀ i (h : i < xs.length), ∃ cs', cs'.length = d.sz ∧ d.K w xs[i] cs' ∧ ∀ j u, cs'[j]? = some u → w.cell? (a.add (i * d.sz + j)) = some u := by
    intro k
    induction k with
    | zero => intro _; exact ⟨[], rfl, fun i h => absurd h (Nat.not_lt_zero _)⟩
    | succ k ih =>
     intro hk
     obtain ⟨xs, hl, hxs⟩ := ih (by omega)
     obtain ⟨a', ha'⟩ := each k (by omega)
     refine ⟨xs ++ [a'], by simp [hl], fun i h => ?_⟩
     by_cases hi : i < xs.length
     ·rw [List.getElem_append_left hi]
      exact hxs i hi
     ·have e : i = xs.length := by simp at h; omega
      subst e
      rw [List.getElem_append_right (Nat.le_refl _)]
      simp only [Nat.sub_self, List.getElem_cons_zero]
      rw [hl]
      exact ha'
   exact key len (Nat.le_refl _)
  refine ⟨some a, len, cap, rfl, xs, hxs.1, hl, hxs.1, ?_, fun _ => ⟨a, rfl, fun j p hj => ?_⟩⟩
  ·have : maxLen = 2 ^ 63 - 1 := rfl
   omega
  ·obtain ⟨hjl, rfl⟩ := List.getElem?_eq_some_iff.1 hj
   exact hxs.2 j hjl
theorem Opens.slice {α : Type} {P : Program} {d : Kd α} {t e : TypeId} (ht : P.underlying t = some (.slice e)) (hsz : P.cellsOf e = d.sz) (he : Opens P d e) : Opens P (Kd.slice e d) t := by
 intro H enc w base spare held fuel cs x hx
 obtain ⟨A, len, cap, rfl, xs, rfl, hl, hC⟩ := Opens.row ht hsz he hx
 exact ⟨xs, A, cap, rfl, hl, hC⟩
theorem open_arg {α : Type} {P : Program} {d : Kd α} {t e : TypeId} (ht : P.underlying t = some (.slice e)) (hsz : P.cellsOf e = d.sz) (he : Opens P d e) {H : Type} {enc : TypeId × Value → H} {w : World} {base : Nat} {spare : Nat → Bool} {held : Bool} {A : Option Addr} {len cap : Nat} {x : DataW H} {ps : List MemPlace}
  (hx : DataW.Trod enc P w base spare held t (.slice A len cap) x ps) : ∃ xs : List α, xs.length = len ∧ len ≤ cap ∧ d.C w A len xs := by
 obtain ⟨fuel, hf⟩ := hx
 obtain ⟨A', len', cap', e1, r⟩ := Opens.row ht hsz he hf
 simp [Value.cells] at e1
 obtain ⟨rfl, rfl, rfl⟩ := e1
 exact r
theorem sized_arg {H : Type} {enc : TypeId × Value → H} {P : Program} {W : World} {base : Nat} {spare : Nat → Bool} {held : Bool} {t e : TypeId} {a : Option Addr} {len cap : Nat} {d : DataW H} {ps : List MemPlace} {ts : List TypeId} {ds : List (DataW H)} {j : Nat}
  (hsz : (DataW.weightsEach P ts ds).all (· ≤ reachBytes) = true) (ht : ts[j]? = some t) (hd : ds[j]? = some d) (hu : P.underlying t = some (.slice e)) {B : Nat} (hB : P.bytesOf e = B)
  (h : DataW.Trod enc P W base spare held t (.slice a len cap) d ps) : len * B ≤ 140737488351232 := by
 obtain ⟨fuel, hf⟩ := h
 rcases Deep.open_slice hu hf with ⟨hcs, _⟩ | ⟨x, l, c, m, n, D, Pl, hcs, _, hl, _, hm, hx, _⟩
 ·simp [Value.cells] at hcs
  obtain ⟨rfl, rfl, rfl⟩ := hcs
  simp
 ·simp [Value.cells] at hcs
  obtain ⟨rfl, rfl, rfl⟩ := hcs
  obtain ⟨hx, _⟩ := Prod.mk.inj hx
  subst hx
  have z := sized_slice hsz ht hd hu
  rw [hB] at z
  simp only [List.length_map, List.length_range] at z
  exact Nat.le_trans (Nat.mul_le_mul_right _ (Nat.le_add_right _ _)) z
end Go.Proofs.YthjjabcbngffoaaH
end
