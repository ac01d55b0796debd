/- Part 4 of the base that the seat's proofs share: words, walks and plain laws. -/
import Derived.ArgAppend
import Derived.Below
import Derived.BigQuiet
import Derived.ChangeOld
import Derived.ChangeSlices
import Derived.Deep.AppendLies
import Derived.Deep.CutBlock
import Derived.Deep.DeepCutAuto
import Derived.Deep.Draws
import Derived.Deep.LoopGhost
import Derived.Deep.OwnRows
import Derived.Deep.QuietTactic
import Derived.Deep.RegionHeld3
import Derived.Deep.Slices
import Derived.KernelRfl
import Derived.Laws.BitsLemmas
import Derived.Laws.BytesArg
import Derived.Laws.IdiomCopy
import Derived.Laws.MakeOwn
import Derived.Laws.OwnMore
import Derived.Laws.Rows
import Derived.Laws.Slices
import Derived.Laws.StructEq
import Derived.Lib.AppendStr
import Derived.Lib.ConvBytes
import Derived.LoopIn
import Derived.LoopNIn
import Derived.Maps.AppendAt
import Derived.Maps.Own
import Derived.OpenShut
import Derived.OrdersHeld
import Derived.OwnWalk
import Derived.OwnWalkIn
import Derived.ProofKit
import Derived.RangeFuncBound
import Derived.RangeFuncCalls
import Derived.RangeFuncLeaves
import Derived.RangeFuncNested
import Derived.RowKit
import Derived.RowKit3
import Derived.ShutString
import Derived.SizedLaws
import Derived.Tactics
import Derived.TacticsInMore
import Derived.Test.YtbgchacafglcpaaProg
import Derived.WalkKit
import Derived.WideLaws
import Derived.Test.YtbgchacafglcpaaCBc
set_option linter.unusedVariables false
set_option linter.unusedSimpArgs false
section
namespace Go.Proofs.Ytbgchacafglcpaa.P
open Go.RowKit Go.Proofs.YtbgchacafglcpaaW.PrintWords Go.Proofs.YtbgchacafglcpaaW.PrintLast Go.Proofs.YtbgchacafglcpaaW.PrintMore Go.Proofs.YtbgchacafglcpaaH Go.Proofs.FlowTree
abbrev IV := S74
abbrev PI := S63
abbrev rv (r : List IV) (i : Nat) : IV := rd_T74 r i
def Lo (r : List IV) (i : Nat) : Int := (rv r i).f0
def Hi (r : List IV) (i : Nat) : Int := (rv r i).f1
def Vol (n : Nat) (lo hi : Nat → Int) : Prop := ∀ i, i < n → 0 ≤ lo i ∧ lo i ≤ hi i ∧ hi i ≤ 1000000000
theorem rv_set (r : List IV) (i j : Nat) (y : IV) (hi : i < r.length) : rv (r.set i y) j = if i = j then y else rv r j := by
 simp only [rv, rd_T74, List.getD_eq_getElem?_getD, Int.toNat_natCast, List.getElem?_set]
 by_cases h : i = j
 ·subst h; simp [hi]
 ·simp [h]
theorem wrap_id {n : Int} (h1 : -9223372036854775808 ≤ n) (h2 : n ≤ 9223372036854775807) : wrap64 n = n := by unfold wrap64; omega
theorem total_fold (φ : IV → Int) (xs : List IV) : ∀ s : Int, 0 ≤ s → s + 1000000000 * xs.length ≤ 1000000000000 → (∀ x ∈ xs, 0 ≤ φ x ∧ φ x ≤ 1000000000) → xs.foldl (fun s x => wrap64 (s + φ x)) s = (xs.map φ).foldl (· + ·) s := by
 induction xs with
 | nil => intro s _ _ _; rfl
 | cons x xs ih =>
  intro s h0 h1 h
  have hx := h x (by simp)
  simp only [List.length_cons, Int.natCast_add, Int.natCast_one, Int.mul_add, Int.mul_one] at h1
  have hl : (0 : Int) ≤ 1000000000 * xs.length := by omega
  rw [List.foldl_cons, List.map_cons, List.foldl_cons, wrap_id (by omega) (by omega)]
  exact ih (s + φ x) (by omega) (by omega) (fun y hy => h y (List.mem_cons_of_mem _ hy))
theorem total_eq (φ : IV → Int) (r : List IV) (ks : List Nat) (hl : ks.length ≤ 200) (h : ∀ k ∈ ks, 0 ≤ φ (rv r k) ∧ φ (rv r k) ≤ 1000000000) : totalF φ (ks.map (fun k => rv r k)) = sm (fun k => φ (rv r k)) ks := by
 unfold totalF sm
 rw [total_fold φ _ 0 (Int.le_refl _) (by rw [List.length_map]; omega) (by
  intro x hx
  obtain ⟨k, hk, rfl⟩ := List.mem_map.1 hx
  exact h k hk), List.map_map]
 rfl
theorem kids_len (l : List PI) (i : Nat) : (kidsAt l l.length i).length ≤ l.length := by
 unfold kidsAt
 exact Nat.le_trans (List.length_filter_le _ _) (by simp)
section
variable {l : List PI} {kids : List (List Int)}
theorem below_eq (hk : ∀ j, j < l.length → rdK kids j = (kidsAt l l.length j).map Int.ofNat) (r : List IV) (i : Nat) (hi : i < l.length) : belowI kids r i = (kidsAt l l.length i).map (fun k => rv r k) := by
 unfold belowI
 rw [hk i hi, List.map_map]
 rfl
theorem cutI_f0 (x : IV) (a b : Int) : (cutI x a b).f0 = max x.f0 a := by simp only [cutI, mx]; split <;> omega
theorem cutI_f1 (x : IV) (a b : Int) : (cutI x a b).f1 = min x.f1 b := by simp only [cutI, mn]; split <;> omega
structure UpAt (l : List PI) (r : List IV) (m : Nat) (u : List IV) : Prop where
 len : u.length = l.length
 old : ∀ j, j < m → rv u j = rv r j
 now : (∃ j, m ≤ j ∧ j < l.length ∧ Hi u j < Lo u j) ∧ (¬ ∃ x, Sol (netT l) (Lo r) (Hi r) x) ∨
  (∀ j, m ≤ j → j < l.length → (0 ≤ Lo u j ∧ Lo u j ≤ Hi u j ∧ Hi u j ≤ 1000000000 ∧ Lo r j ≤ Lo u j ∧ Hi u j ≤ Hi r j) ∧ (kidsAt l l.length j ≠ [] → sm (Lo u) (kidsAt l l.length j) ≤ Lo u j ∧ Hi u j ≤ sm (Hi u) (kidsAt l l.length j) + loP l j)) ∧
  (∀ x, Sol (netT l) (Lo r) (Hi r) x → ∀ j, m ≤ j → j < l.length → Lo u j ≤ x j ∧ x j ≤ Hi u j)
theorem up_step (hok : okL l) (hn : l.length ≤ 200) (hk : ∀ j, j < l.length → rdK kids j = (kidsAt l l.length j).map Int.ofNat) {r u : List IV} (hv : Vol l.length (Lo r) (Hi r)) {i : Nat} (hi : i < l.length) (h : UpAt l r (i + 1) u) :
  UpAt l r i (upStep l kids u i) := by
 have hil : i < u.length := by rw [h.len]; exact hi
 have hlo : (rd_T63 l i).f2 = loP l i := rfl
 unfold upStep
 rw [below_eq hk u i hi, List.length_map, hlo]
 by_cases hne : kidsAt l l.length i = []
 ·rw [hne]
  simp only [List.length_nil, Nat.lt_irrefl, if_false]
  refine ⟨h.len, fun j hj => h.old j (by omega), ?_⟩
  have e : rv u i = rv r i := h.old i (by omega)
  rcases h.now with ⟨⟨j, h1, h2, h3⟩, hs⟩ | ⟨ha, hs⟩
  ·exact .inl ⟨⟨j, by omega, h2, h3⟩, hs⟩
  ·refine .inr ⟨fun j h1 h2 => ?_, fun x hx j h1 h2 => ?_⟩
   ·by_cases hj : i + 1 ≤ j
    ·exact ha j hj h2
    ·have e2 : j = i := by omega
     subst e2
     have h4 := hv j h2
     refine ⟨?_, fun hc => absurd hne hc⟩
     simp only [Lo, Hi, e] at *
     omega
   ·by_cases hj : i + 1 ≤ j
    ·exact hs x hx j hj h2
    ·have e2 : j = i := by omega
     subst e2
     have h4 := hx.1 j h2
     simp only [Lo, Hi, e] at *
     exact h4
 ·have hpos : 0 < (kidsAt l l.length i).length := List.length_pos_iff.2 hne
  rw [if_pos hpos, Int.toNat_natCast]
  have hset : ∀ y j, rv (u.set i y) j = if i = j then y else rv u j := fun y j => rv_set u i j y hil
  have hkid : ∀ k ∈ kidsAt l l.length i, i + 1 ≤ k ∧ k < l.length := fun k hk' => by have := kidsAt_mem.1 hk'; exact ⟨by omega, by omega⟩
  rcases h.now with ⟨⟨j, h1, h2, h3⟩, hs⟩ | ⟨ha, hs⟩
  ·refine ⟨by rw [List.length_set]; exact h.len, fun j hj => by rw [hset, if_neg (by omega)]; exact h.old j (by omega), .inl ⟨⟨j, by omega, h2, ?_⟩, hs⟩⟩
   simp only [Lo, Hi, hset, if_neg (show ¬ i = j by omega)] at *
   exact h3
  ·have hL : totalF S74.f0 ((kidsAt l l.length i).map (fun k => rv u k)) = sm (Lo u) (kidsAt l l.length i) := by
    rw [total_eq _ _ _ (Nat.le_trans (kids_len l i) hn) (fun k hk' => by have := (ha k (hkid k hk').1 (hkid k hk').2).1; simp only [Lo, Hi] at this; omega)]
    rfl
   have hH : totalF S74.f1 ((kidsAt l l.length i).map (fun k => rv u k)) = sm (Hi u) (kidsAt l l.length i) := by
    rw [total_eq _ _ _ (Nat.le_trans (kids_len l i) hn) (fun k hk' => by have := (ha k (hkid k hk').1 (hkid k hk').2).1; simp only [Lo, Hi] at this; omega)]
    rfl
   have bH := sm_bound (f := Hi u) (ks := kidsAt l l.length i) (a := 0) (b := 1000000000) (fun k hk' => by have := (ha k (hkid k hk').1 (hkid k hk').2).1; omega)
   have bL := sm_bound (f := Lo u) (ks := kidsAt l l.length i) (a := 0) (b := 1000000000) (fun k hk' => by have := (ha k (hkid k hk').1 (hkid k hk').2).1; omega)
   have bl := kids_len l i
   have bo := (hok i hi).2.2.1
   rw [hL, hH, wrap_id (by omega) (by omega)]
   obtain ⟨y, hy⟩ : ∃ y, y = cutI (rd_T74 u i) (sm (Lo u) (kidsAt l l.length i)) (sm (Hi u) (kidsAt l l.length i) + loP l i) := ⟨_, rfl⟩
   rw [← hy]
   have hy0 : y.f0 = max (Lo u i) (sm (Lo u) (kidsAt l l.length i)) := by rw [hy, cutI_f0]; rfl
   have hy1 : y.f1 = min (Hi u i) (sm (Hi u) (kidsAt l l.length i) + loP l i) := by rw [hy, cutI_f1]; rfl
   have er : rv u i = rv r i := h.old i (by omega)
   have hri := hv i hi
   have hrl : Lo u i = Lo r i := by simp only [Lo, er]
   have hrh : Hi u i = Hi r i := by simp only [Hi, er]
   have hsol : ∀ x, Sol (netT l) (Lo r) (Hi r) x → y.f0 ≤ x i ∧ x i ≤ y.f1 := by
    intro x hx
    have h1 := hx.1 i hi
    have h2 := hx.2 i hi hne
    have h3 : sm (Lo u) (kidsAt l l.length i) ≤ sm x (kidsAt l l.length i) := sm_le (fun k hk' => (hs x hx k (hkid k hk').1 (hkid k hk').2).1)
    have h4 : sm x (kidsAt l l.length i) ≤ sm (Hi u) (kidsAt l l.length i) := sm_le (fun k hk' => (hs x hx k (hkid k hk').1 (hkid k hk').2).2)
    simp only [netT] at h2
    omega
   have old' : ∀ j, j < i → rv (u.set i y) j = rv r j := fun j hj => by rw [hset, if_neg (by omega)]; exact h.old j (by omega)
   have hne' : ∀ j, i ≠ j → Lo (u.set i y) j = Lo u j ∧ Hi (u.set i y) j = Hi u j := fun j hj => ⟨by simp only [Lo, hset, if_neg hj], by simp only [Hi, hset, if_neg hj]⟩
   have hi0 : Lo (u.set i y) i = y.f0 ∧ Hi (u.set i y) i = y.f1 := ⟨by simp only [Lo, hset, if_true], by simp only [Hi, hset, if_true]⟩
   have hkn : ∀ j, i ≤ j → ∀ k ∈ kidsAt l l.length j, i ≠ k := fun j hj k hk' => by have := kidsAt_mem.1 hk'; omega
   refine ⟨by rw [List.length_set]; exact h.len, old', ?_⟩
   by_cases hem : y.f0 ≤ y.f1
   ·refine .inr ⟨fun j h1 h2 => ?_, fun x hx j h1 h2 => ?_⟩
    ·have hsL : sm (Lo (u.set i y)) (kidsAt l l.length j) = sm (Lo u) (kidsAt l l.length j) := sm_congr (fun k hk' => (hne' k (hkn j h1 k hk')).1)
     have hsH : sm (Hi (u.set i y)) (kidsAt l l.length j) = sm (Hi u) (kidsAt l l.length j) := sm_congr (fun k hk' => (hne' k (hkn j h1 k hk')).2)
     rw [hsL, hsH]
     by_cases hj : i + 1 ≤ j
     ·rw [(hne' j (by omega)).1, (hne' j (by omega)).2]
      exact ha j hj h2
     ·have e2 : j = i := by omega
      subst e2
      rw [hi0.1, hi0.2]
      exact ⟨by omega, fun _ => by omega⟩
    ·by_cases hj : i + 1 ≤ j
     ·rw [(hne' j (by omega)).1, (hne' j (by omega)).2]
      exact hs x hx j hj h2
     ·have e2 : j = i := by omega
      subst e2
      rw [hi0.1, hi0.2]
      exact hsol x hx
   ·refine .inl ⟨⟨i, Nat.le_refl _, hi, by rw [hi0.1, hi0.2]; omega⟩, fun ⟨x, hx⟩ => ?_⟩
    have := hsol x hx
    omega
theorem up_fold (hok : okL l) (hn : l.length ≤ 200) (hk : ∀ j, j < l.length → rdK kids j = (kidsAt l l.length j).map Int.ofNat) {r : List IV} (hl : r.length = l.length) (hv : Vol l.length (Lo r) (Hi r)) :
  ∀ d, d ≤ l.length → UpAt l r (l.length - d) ((downTo l.length d).foldl (fun r (j : Nat) => upStep l kids r j) r) := by
 intro d
 induction d with
 | zero => intro _; exact ⟨hl, fun _ _ => rfl, .inr ⟨fun j h1 h2 => by omega, fun x _ j h1 h2 => by omega⟩⟩
 | succ d ih =>
  intro hd
  rw [downTo_succ, List.foldl_append]
  have h := ih (by omega)
  have e : l.length - d = (l.length - 1 - d) + 1 := by omega
  rw [e] at h
  have := up_step hok hn hk hv (i := l.length - 1 - d) (by omega) h
  rw [show l.length - (d + 1) = l.length - 1 - d by omega]
  exact this
theorem up_spec (hok : okL l) (hn : l.length ≤ 200) (hk : ∀ j, j < l.length → rdK kids j = (kidsAt l l.length j).map Int.ofNat) {r : List IV} (hl : r.length = l.length) (hv : Vol l.length (Lo r) (Hi r)) : UpAt l r 0 (upF l kids r) := by
 have := up_fold hok hn hk hl hv l.length (Nat.le_refl _)
 rw [Nat.sub_self] at this
 exact this
end
end Go.Proofs.Ytbgchacafglcpaa.P
end
section
namespace Go.Proofs.Ytbgchacafglcpaa.P
open Go.RowKit Go.Proofs.YtbgchacafglcpaaW.PrintWords Go.Proofs.YtbgchacafglcpaaW.PrintLast Go.Proofs.YtbgchacafglcpaaW.PrintMore Go.Proofs.YtbgchacafglcpaaH Go.Proofs.FlowTree
section
variable {l : List PI} {kids : List (List Int)}
theorem cuts (i : Nat) (lo hi : Int) (d : List IV) : ∀ (ks : List Nat) (e : List IV), ks.Nodup → i ∉ ks → (∀ k ∈ ks, k < e.length) → (∀ k ∈ ks, rv e k = rv d k) → rv e i = rv d i →
  (∀ j, j ∉ ks → rv ((ks.map Int.ofNat).foldl (downCut l i lo hi) e) j = rv e j) ∧
  (∀ k ∈ ks, rv ((ks.map Int.ofNat).foldl (downCut l i lo hi) e) k = cutI (rv d k) (wrap64 (wrap64 ((rv d i).f0 - loP l i) - wrap64 (hi - (rv d k).f1))) (wrap64 ((rv d i).f1 - wrap64 (lo - (rv d k).f0)))) := by
 intro ks
 induction ks with
 | nil => intro e _ _ _ _ _; exact ⟨fun _ _ => rfl, (fun k hk => by cases hk)⟩
 | cons k ks ih =>
  intro e hnd hi' hlen heq hei
  rw [List.nodup_cons] at hnd
  have hk : k < e.length := hlen k (by simp)
  have hset : ∀ y j, rv (e.set k y) j = if k = j then y else rv e j := fun y j => rv_set e k j y hk
  have hik : ¬ k = i := fun h => hi' (by simp [h])
  rw [List.map_cons, List.foldl_cons]
  obtain ⟨y, hy⟩ : ∃ y, y = cutI (rv d k) (wrap64 (wrap64 ((rv d i).f0 - loP l i) - wrap64 (hi - (rv d k).f1))) (wrap64 ((rv d i).f1 - wrap64 (lo - (rv d k).f0))) := ⟨_, rfl⟩
  have hstep : downCut l i lo hi e (Int.ofNat k) = e.set k y := by
   unfold downCut
   have e1 : rd_T74 e (Int.ofNat k) = rv d k := heq k (by simp)
   have e2 : rd_T74 e (i : Int) = rv d i := hei
   rw [e1, e2, hy]
   rfl
  rw [hstep]
  have h := ih (e.set k y) hnd.2 (fun h => hi' (List.mem_cons_of_mem _ h)) (fun j hj => by rw [List.length_set]; exact hlen j (List.mem_cons_of_mem _ hj))
   (fun j hj => by rw [hset, if_neg (fun hh : k = j => hnd.1 (by rw [hh]; exact hj))]; exact heq j (List.mem_cons_of_mem _ hj)) (by rw [hset, if_neg hik]; exact hei)
  refine ⟨fun j hj => ?_, fun j hj => ?_⟩
  ·rw [h.1 j (fun hh => hj (List.mem_cons_of_mem _ hh)), hset, if_neg (fun hh => hj (by simp [hh]))]
  ·rcases List.mem_cons.1 hj with rfl | hj'
   ·rw [h.1 j hnd.1, hset, if_pos rfl, hy]
   ·exact h.2 j hj'
structure DownAt (l : List PI) (r u : List IV) (m : Nat) (d : List IV) : Prop where
 len : d.length = l.length
 old : ∀ j, (∀ p, p < m → j ∉ kidsAt l l.length p) → rv d j = rv u j
 rng : ∀ j, j < l.length → Lo u j ≤ Lo d j ∧ Lo d j ≤ Hi d j ∧ Hi d j ≤ Hi u j
 cut : ∀ p, p < m → ∀ k ∈ kidsAt l l.length p, Lo d p - loP l p - (sm (Hi u) (kidsAt l l.length p) - Hi u k) ≤ Lo d k ∧ Hi d k ≤ Hi d p - (sm (Lo u) (kidsAt l l.length p) - Lo u k)
 sol : ∀ x, Sol (netT l) (Lo r) (Hi r) x → ∀ j, j < l.length → Lo d j ≤ x j ∧ x j ≤ Hi d j
structure UpOk (l : List PI) (r u : List IV) : Prop where
 len : u.length = l.length
 rng : ∀ j, j < l.length → 0 ≤ Lo u j ∧ Lo u j ≤ Hi u j ∧ Hi u j ≤ 1000000000 ∧ Lo r j ≤ Lo u j ∧ Hi u j ≤ Hi r j
 eq : ∀ j, j < l.length → kidsAt l l.length j ≠ [] → sm (Lo u) (kidsAt l l.length j) ≤ Lo u j ∧ Hi u j ≤ sm (Hi u) (kidsAt l l.length j) + loP l j
 sol : ∀ x, Sol (netT l) (Lo r) (Hi r) x → ∀ j, j < l.length → Lo u j ≤ x j ∧ x j ≤ Hi u j
theorem down_step (hok : okL l) (hn : l.length ≤ 200) (hk : ∀ j, j < l.length → rdK kids j = (kidsAt l l.length j).map Int.ofNat) {r u d : List IV} (hu : UpOk l r u) {i : Nat} (hi : i < l.length) (h : DownAt l r u i d) :
  DownAt l r u (i + 1) (downStep l kids d i) := by
 have hT := netT_ok hok
 have hkid : ∀ k ∈ kidsAt l l.length i, i < k ∧ k < l.length := fun k hk' => hT.lt i k hk'
 have hold : ∀ k ∈ kidsAt l l.length i, rv d k = rv u k := fun k hk' => h.old k (fun p hp hm => by have := hT.one i p k hk' hm; omega)
 have hLk : ∀ k ∈ kidsAt l l.length i, Lo d k = Lo u k := fun k hk' => by simp only [Lo, hold k hk']
 have hHk : ∀ k ∈ kidsAt l l.length i, Hi d k = Hi u k := fun k hk' => by simp only [Hi, hold k hk']
 have hL : totalF S74.f0 ((kidsAt l l.length i).map (fun k => rv d k)) = sm (Lo u) (kidsAt l l.length i) := by
  rw [total_eq _ _ _ (Nat.le_trans (kids_len l i) hn) (fun k hk' => by have h1 := hu.rng k (hkid k hk').2; have h2 := hold k hk'; simp only [Lo, Hi, h2] at *; omega)]
  exact sm_congr hLk
 have hH : totalF S74.f1 ((kidsAt l l.length i).map (fun k => rv d k)) = sm (Hi u) (kidsAt l l.length i) := by
  rw [total_eq _ _ _ (Nat.le_trans (kids_len l i) hn) (fun k hk' => by have h1 := hu.rng k (hkid k hk').2; have h2 := hold k hk'; simp only [Lo, Hi, h2] at *; omega)]
  exact sm_congr hHk
 have bH := sm_bound (f := Hi u) (ks := kidsAt l l.length i) (a := 0) (b := 1000000000) (fun k hk' => by have := hu.rng k (hkid k hk').2; omega)
 have bL := sm_bound (f := Lo u) (ks := kidsAt l l.length i) (a := 0) (b := 1000000000) (fun k hk' => by have := hu.rng k (hkid k hk').2; omega)
 have bl := kids_len l i
 have bo := (hok i hi).2.2.1
 have hinot : i ∉ kidsAt l l.length i := fun hm => by have := hkid i hm; omega
 have hun : downStep l kids d i = ((kidsAt l l.length i).map Int.ofNat).foldl (downCut l i (sm (Lo u) (kidsAt l l.length i)) (sm (Hi u) (kidsAt l l.length i))) d := by
  unfold downStep
  rw [below_eq hk d i hi, hL, hH, hk i hi]
 have hc := cuts (l := l) i (sm (Lo u) (kidsAt l l.length i)) (sm (Hi u) (kidsAt l l.length i)) d (kidsAt l l.length i) d (hT.nodup i) hinot (fun k hk' => by rw [h.len]; exact (hkid k hk').2) (fun _ _ => rfl) rfl
 rw [← hun] at hc
 obtain ⟨e, he⟩ : ∃ e, e = downStep l kids d i := ⟨_, rfl⟩
 rw [← he] at hc ⊢
 have elen : e.length = l.length := by rw [he, downStep_len, h.len]
 have hri := h.rng i hi
 have hui := hu.rng i hi
 have hnew : ∀ k ∈ kidsAt l l.length i, Lo e k = max (Lo u k) (Lo d i - loP l i - (sm (Hi u) (kidsAt l l.length i) - Hi u k)) ∧ Hi e k = min (Hi u k) (Hi d i - (sm (Lo u) (kidsAt l l.length i) - Lo u k)) ∧ Lo e k ≤ Hi e k := by
  intro k hk'
  have h1 := hc.2 k hk'
  have h2 := hu.rng k (hkid k hk').2
  have h3 := hu.eq i hi (fun hh => by rw [hh] at hk'; cases hk')
  obtain ⟨a, b, hab, hlo⟩ := sm_split (Lo u) hk'
  have hhi : sm (Hi u) (kidsAt l l.length i) = Hi u k + sm (Hi u) (a ++ b) := by rw [hab, sm_append, sm_append, sm_cons]; omega
  have hle : sm (Lo u) (a ++ b) ≤ sm (Hi u) (a ++ b) := sm_le (fun j hj => by
   have hj' : j ∈ kidsAt l l.length i := by
    rw [hab]
    rcases List.mem_append.1 hj with h' | h'
    ·exact List.mem_append.2 (.inl h')
    ·exact List.mem_append.2 (.inr (List.mem_cons_of_mem _ h'))
   have := hu.rng j (hkid j hj').2
   omega)
  have e0 : Lo e k = max (Lo u k) (Lo d i - loP l i - (sm (Hi u) (kidsAt l l.length i) - Hi u k)) := by
   have := congrArg S74.f0 h1
   rw [cutI_f0] at this
   have w1 : (rv d k).f1 = Hi u k := hHk k hk'
   have w2 : (rv d k).f0 = Lo u k := hLk k hk'
   have w3 : (rv d i).f0 = Lo d i := rfl
   rw [w1, w2, w3, wrap_id (n := Lo d i - loP l i) (by omega) (by omega), wrap_id (n := sm (Hi u) (kidsAt l l.length i) - Hi u k) (by omega) (by omega), wrap_id (by omega) (by omega)] at this
   exact this
  have e1 : Hi e k = min (Hi u k) (Hi d i - (sm (Lo u) (kidsAt l l.length i) - Lo u k)) := by
   have := congrArg S74.f1 h1
   rw [cutI_f1] at this
   have w1 : (rv d k).f1 = Hi u k := hHk k hk'
   have w2 : (rv d k).f0 = Lo u k := hLk k hk'
   have w3 : (rv d i).f1 = Hi d i := rfl
   rw [w1, w2, w3, wrap_id (n := sm (Lo u) (kidsAt l l.length i) - Lo u k) (by omega) (by omega), wrap_id (by omega) (by omega)] at this
   exact this
  refine ⟨e0, e1, ?_⟩
  omega
 have hsame : ∀ j, j ∉ kidsAt l l.length i → Lo e j = Lo d j ∧ Hi e j = Hi d j := fun j hj => by
  have := hc.1 j hj
  exact ⟨by simp only [Lo, this], by simp only [Hi, this]⟩
 refine ⟨elen, fun j hj => ?_, fun j hj => ?_, fun p hp k hk' => ?_, fun x hx j hj => ?_⟩
 ·rw [hc.1 j (hj i (by omega))]
  exact h.old j (fun p hp => hj p (by omega))
 ·by_cases hm : j ∈ kidsAt l l.length i
  ·have := hnew j hm
   omega
  ·have := hsame j hm
   have := h.rng j hj
   omega
 ·have hpi : p ∉ kidsAt l l.length i := fun hm => by have := (hkid p hm).1; omega
  have hp' := hsame p hpi
  by_cases h' : p < i
  ·have hki : k ∉ kidsAt l l.length i := fun hm => by have := hT.one i p k hm hk'; omega
   have := hsame k hki
   have := h.cut p h' k hk'
   omega
  ·have e2 : p = i := by omega
   subst e2
   have := hnew k hk'
   omega
 ·by_cases hm : j ∈ kidsAt l l.length i
  ·have h1 := hnew j hm
   have h2 := h.sol x hx i hi
   have h3 := hu.sol x hx j hj
   have hne : kidsAt l l.length i ≠ [] := fun hh => by rw [hh] at hm; cases hm
   have h4 := hx.2 i hi hne
   simp only [netT] at h4
   obtain ⟨a, b, hab, hlo⟩ := sm_split (Lo u) hm
   have hhi : sm (Hi u) (kidsAt l l.length i) = Hi u j + sm (Hi u) (a ++ b) := by rw [hab, sm_append, sm_append, sm_cons]; omega
   have hxx : sm x (kidsAt l l.length i) = x j + sm x (a ++ b) := by rw [hab, sm_append, sm_append, sm_cons]; omega
   have hmem : ∀ q ∈ a ++ b, q < l.length := fun q hq => (hkid q (by
    rw [hab]
    rcases List.mem_append.1 hq with h' | h'
    ·exact List.mem_append.2 (.inl h')
    ·exact List.mem_append.2 (.inr (List.mem_cons_of_mem _ h')))).2
   have l1 : sm (Lo u) (a ++ b) ≤ sm x (a ++ b) := sm_le (fun q hq => (hu.sol x hx q (hmem q hq)).1)
   have l2 : sm x (a ++ b) ≤ sm (Hi u) (a ++ b) := sm_le (fun q hq => (hu.sol x hx q (hmem q hq)).2)
   omega
  ·have := hsame j hm
   have := h.sol x hx j hj
   omega
theorem down_fold (hok : okL l) (hn : l.length ≤ 200) (hk : ∀ j, j < l.length → rdK kids j = (kidsAt l l.length j).map Int.ofNat) {r u : List IV} (hu : UpOk l r u) :
  ∀ m, m ≤ l.length → DownAt l r u m ((List.range m).foldl (fun r (j : Nat) => downStep l kids r j) u) := by
 intro m
 induction m with
 | zero => intro _; exact ⟨hu.len, fun _ _ => rfl, fun j hj => by have := hu.rng j hj; simp only [List.range_zero, List.foldl_nil]; omega, fun p hp => absurd hp (Nat.not_lt_zero _), hu.sol⟩
 | succ m ih =>
  intro hm
  rw [foldl_range_succ]
  exact down_step hok hn hk hu (by omega) (ih (by omega))
structure Exact (l : List PI) (lo hi : Nat → Int) (d : List IV) : Prop where
 len : d.length = l.length
 rng : ∀ j, j < l.length → 0 ≤ Lo d j ∧ Lo d j ≤ Hi d j ∧ Hi d j ≤ 1000000000 ∧ lo j ≤ Lo d j ∧ Hi d j ≤ hi j
 sol : ∀ x, Sol (netT l) lo hi x → ∀ j, j < l.length → Lo d j ≤ x j ∧ x j ≤ Hi d j
 had : ∀ j, j < l.length → ∀ v, Lo d j ≤ v → v ≤ Hi d j → ∃ x, Sol (netT l) lo hi x ∧ x j = v
theorem any_empty (u : List IV) : u.any emptyI = true ↔ ∃ j, j < u.length ∧ Hi u j < Lo u j := by
 rw [List.any_eq_true]
 constructor
 ·rintro ⟨x, hx, he⟩
  obtain ⟨j, hj, rfl⟩ := List.mem_iff_getElem.1 hx
  refine ⟨j, hj, ?_⟩
  simp only [emptyI, decide_eq_true_eq] at he
  simp only [Lo, Hi, rv, rd_T74, Int.toNat_natCast, List.getD_eq_getElem?_getD, List.getElem?_eq_getElem hj, Option.getD_some]
  omega
 ·rintro ⟨j, hj, h⟩
  refine ⟨u[j], List.getElem_mem hj, ?_⟩
  simp only [Lo, Hi, rv, rd_T74, Int.toNat_natCast, List.getD_eq_getElem?_getD, List.getElem?_eq_getElem hj, Option.getD_some] at h
  simp only [emptyI, decide_eq_true_eq]
  omega
theorem boundsF_spec (hok : okL l) (hn : l.length ≤ 200) (hk : ∀ j, j < l.length → rdK kids j = (kidsAt l l.length j).map Int.ofNat) {r : List IV} (hl : r.length = l.length) (hv : Vol l.length (Lo r) (Hi r)) :
  ((boundsF l kids r).1 = false ∧ ¬ ∃ x, Sol (netT l) (Lo r) (Hi r) x) ∨ ((boundsF l kids r).1 = true ∧ Exact l (Lo r) (Hi r) (boundsF l kids r).2) := by
 have h := up_spec hok hn hk hl hv
 unfold boundsF
 rcases h.now with ⟨⟨j, h1, h2, h3⟩, hs⟩ | ⟨ha, hs⟩
 ·rw [if_pos ((any_empty _).2 ⟨j, by rw [h.len]; exact h2, h3⟩)]
  exact .inl ⟨rfl, hs⟩
 ·have hno : ¬ (upF l kids r).any emptyI = true := fun hh => by
   obtain ⟨j, hj, h3⟩ := (any_empty _).1 hh
   rw [h.len] at hj
   have := (ha j (Nat.zero_le _) hj).1
   omega
  rw [if_neg hno]
  have hu : UpOk l r (upF l kids r) := ⟨h.len, fun j hj => (ha j (Nat.zero_le _) hj).1, fun j hj => (ha j (Nat.zero_le _) hj).2, fun x hx j hj => hs x hx j (Nat.zero_le _) hj⟩
  have hd := down_fold hok hn hk hu l.length (Nat.le_refl _)
  have hd' : DownAt l r (upF l kids r) l.length (downF l kids (upF l kids r)) := hd
  have hno2 : ¬ (downF l kids (upF l kids r)).any emptyI = true := fun hh => by
   obtain ⟨j, hj, h3⟩ := (any_empty _).1 hh
   rw [hd'.len] at hj
   have := hd'.rng j hj
   omega
  rw [if_neg hno2]
  refine .inr ⟨rfl, hd'.len, fun j hj => ?_, hd'.sol, fun j hj v h1 h2 => ?_⟩
  ·have := hd'.rng j hj
   have := hu.rng j hj
   dsimp only
   omega
  ·obtain ⟨x, hx, hxv⟩ := exact (netT l) (netT_ok hok) (Lo (upF l kids r)) (Hi (upF l kids r)) (Lo (downF l kids (upF l kids r))) (Hi (downF l kids (upF l kids r))) (fun i hi => (hu.rng i hi).2.1) (fun i hi hne => hu.eq i hi hne)
    (fun i hi => hd'.rng i hi) (fun i hi k hk' => hd'.cut i hi k hk') j hj v h1 h2
   exact ⟨x, ⟨fun i hi => by have := hx.1 i hi; have := hu.rng i hi; omega, hx.2⟩, hxv⟩
end
end Go.Proofs.Ytbgchacafglcpaa.P
end
section
namespace Go.Proofs.Ytbgchacafglcpaa.P
open Go.RowKit Go.Proofs.YtbgchacafglcpaaW.PrintWords Go.Proofs.YtbgchacafglcpaaW.PrintLast Go.Proofs.YtbgchacafglcpaaW.PrintMore
attribute [local go_sem] max2_int min2_int max_two min_two max_three min_three max_four min_four
set_option linter.unusedVariables false
set_option linter.unusedSimpArgs false
def cohousingref28_Volume.f (a0 : Int) : Option (Bool) := if a0 ≥ 0 then (some (decide (a0 ≤ 1000000000))) else (some false)
end Go.Proofs.Ytbgchacafglcpaa.P
end
section
namespace Go.Proofs.Ytbgchacafglcpaa.P
open Go.RowKit Go.Proofs.YtbgchacafglcpaaW.PrintWords Go.Proofs.YtbgchacafglcpaaW.PrintLast Go.Proofs.YtbgchacafglcpaaW.PrintMore
attribute [local go_sem] max2_int min2_int max_two min_two max_three min_three max_four min_four
set_option linter.unusedVariables false
set_option linter.unusedSimpArgs false
def cohousingref28_At.l0 : Nat → List (S63) → Int → Int → Option (Int)
 | 0, _, _, _ => none
 | k + 1, x0, x1, x5 => if x5 < (x0.length : Int) then (if 0 ≤ x5 then (if ((rd_T63 x0 x5).f0) = x1 then (some x5) else (cohousingref28_At.l0 k x0 x1 (wrap64 (x5 + 1)))) else (none)) else (some (-1))
def cohousingref28_At.f (k : Nat) (l0 : List (S63)) (a1 : Int) : Option (Int) := cohousingref28_At.l0 k l0 a1 0
theorem cohousingref28_At.mono_l : ∀ k, (∀ y0 y1 y2, LeO (cohousingref28_At.l0 k y0 y1 y2) (cohousingref28_At.l0 (k + 1) y0 y1 y2))
 | 0 => fun _ _ _ r h => by simp [cohousingref28_At.l0] at h
 | k + 1 => by
  have ih0 := cohousingref28_At.mono_l k
  ·intro y0 y1 y2
   unfold cohousingref28_At.l0
   repeat' first
   | (with_reducible exact ih0 _ _ _)
   | (with_reducible exact LeO.refl _)
   | (with_reducible exact LeO.none _)
   | (with_reducible refine LeO.ite ?_ ?_)
   | (with_reducible refine LeO.bind ?_ (fun _ => ?_))
   | exact ih0 _ _ _
   | exact LeO.none _
   | refine LeO.ite ?_ ?_
   | refine LeO.bind ?_ (fun _ => ?_)
theorem cohousingref28_At.mono : ∀ a0 a1 k, LeO (cohousingref28_At.f k a0 a1) (cohousingref28_At.f (k + 1) a0 a1) := by
 intro a0 a1 k
 have ih0 := cohousingref28_At.mono_l k
 unfold cohousingref28_At.f
 repeat' first
   | (with_reducible exact ih0 _ _ _)
   | (with_reducible exact LeO.refl _)
   | (with_reducible exact LeO.none _)
   | (with_reducible refine LeO.ite ?_ ?_)
   | (with_reducible refine LeO.bind ?_ (fun _ => ?_))
   | exact ih0 _ _ _
   | exact LeO.none _
   | refine LeO.ite ?_ ?_
   | refine LeO.bind ?_ (fun _ => ?_)
end Go.Proofs.Ytbgchacafglcpaa.P
end
section
namespace Go.Proofs.Ytbgchacafglcpaa.P
open Go.RowKit Go.Proofs.YtbgchacafglcpaaW.PrintWords Go.Proofs.YtbgchacafglcpaaW.PrintLast Go.Proofs.YtbgchacafglcpaaW.PrintMore
attribute [local go_sem] max2_int min2_int max_two min_two max_three min_three max_four min_four
set_option linter.unusedVariables false
set_option linter.unusedSimpArgs false
mutual
def cohousingref28_Valid.l0 : Nat → List (S63) → Int → Option (Bool)
 | 0, _, _ => none
 | k + 1, x0, x3 => if x3 < (x0.length : Int) then (if 0 ≤ x3 then (if ((rd_T63 x0 x3).f0) < 1 then (cohousingref28_Valid.j1 k x0 x3 true) else (if x3 > 0 then (if 0 ≤ (wrap64 (x3 - 1)) then (if (wrap64 (x3 - 1)) < (x0.length : Int) then (if ((rd_T63 x0 x3).f0) ≤ ((rd_T63 x0 (wrap64 (x3 - 1))).f0) then (cohousingref28_Valid.j1 k x0 x3 true) else ((cohousingref28_Volume.f ((rd_T63 x0 x3).f2)).bind fun t270 => (cohousingref28_Valid.j1 k x0 x3 (!t270)))) else (none)) else (none)) else ((cohousingref28_Volume.f ((rd_T63 x0 x3).f2)).bind fun t272 => (cohousingref28_Valid.j1 k x0 x3 (!t272))))) else (none)) else (some (decide ((x0.length : Int) ≤ 200)))
def cohousingref28_Valid.j1 : Nat → List (S63) → Int → Bool → Option (Bool)
 | 0, _, _, _ => none
 | k + 1, x0, x3, x42 => if x42 = true then (some false) else (if 0 ≤ x3 then (if x3 < (x0.length : Int) then (if ((rd_T63 x0 x3).f1) = 0 then (cohousingref28_Valid.l0 k x0 (wrap64 (x3 + 1))) else (if x3 ≤ (x0.length : Int) then ((cohousingref28_At.f k (x0.take (x3 : Int).toNat) ((rd_T63 x0 x3).f1)).bind fun t279 => (if t279 < 0 then (some false) else (cohousingref28_Valid.l0 k x0 (wrap64 (x3 + 1))))) else (none))) else (none)) else (none))
end
def cohousingref28_Valid.f (k : Nat) (l0 : List (S63)) : Option (Bool) := cohousingref28_Valid.l0 k l0 0
theorem cohousingref28_Valid.mono_l : ∀ k, (∀ y0 y1, LeO (cohousingref28_Valid.l0 k y0 y1) (cohousingref28_Valid.l0 (k + 1) y0 y1)) ∧ (∀ y0 y1 y2, LeO (cohousingref28_Valid.j1 k y0 y1 y2) (cohousingref28_Valid.j1 (k + 1) y0 y1 y2))
 | 0 => ⟨fun _ _ r h => by simp [cohousingref28_Valid.l0] at h, fun _ _ _ r h => by simp [cohousingref28_Valid.j1] at h⟩
 | k + 1 => by
  obtain ⟨ih0, ih1⟩ := cohousingref28_Valid.mono_l k
  refine ⟨?_, ?_⟩
  ·intro y0 y1
   unfold cohousingref28_Valid.l0
   repeat' first
   | (with_reducible exact ih0 _ _)
   | (with_reducible exact ih1 _ _ _)
   | (with_reducible exact cohousingref28_At.mono _ _ _)
   | (with_reducible exact LeO.refl _)
   | (with_reducible exact LeO.none _)
   | (with_reducible refine LeO.ite ?_ ?_)
   | (with_reducible refine LeO.bind ?_ (fun _ => ?_))
   | exact ih0 _ _
   | exact ih1 _ _ _
   | exact cohousingref28_At.mono _ _ _
   | exact LeO.none _
   | refine LeO.ite ?_ ?_
   | refine LeO.bind ?_ (fun _ => ?_)
  ·intro y0 y1 y2
   unfold cohousingref28_Valid.j1
   repeat' first
   | (with_reducible exact ih0 _ _)
   | (with_reducible exact ih1 _ _ _)
   | (with_reducible exact cohousingref28_At.mono _ _ _)
   | (with_reducible exact LeO.refl _)
   | (with_reducible exact LeO.none _)
   | (with_reducible refine LeO.ite ?_ ?_)
   | (with_reducible refine LeO.bind ?_ (fun _ => ?_))
   | exact ih0 _ _
   | exact ih1 _ _ _
   | exact cohousingref28_At.mono _ _ _
   | exact LeO.none _
   | refine LeO.ite ?_ ?_
   | refine LeO.bind ?_ (fun _ => ?_)
theorem cohousingref28_Valid.mono : ∀ a0 k, LeO (cohousingref28_Valid.f k a0) (cohousingref28_Valid.f (k + 1) a0) := by
 intro a0 k
 obtain ⟨ih0, ih1⟩ := cohousingref28_Valid.mono_l k
 unfold cohousingref28_Valid.f
 repeat' first
   | (with_reducible exact ih0 _ _)
   | (with_reducible exact ih1 _ _ _)
   | (with_reducible exact cohousingref28_At.mono _ _ _)
   | (with_reducible exact LeO.refl _)
   | (with_reducible exact LeO.none _)
   | (with_reducible refine LeO.ite ?_ ?_)
   | (with_reducible refine LeO.bind ?_ (fun _ => ?_))
   | exact ih0 _ _
   | exact ih1 _ _ _
   | exact cohousingref28_At.mono _ _ _
   | exact LeO.none _
   | refine LeO.ite ?_ ?_
   | refine LeO.bind ?_ (fun _ => ?_)
end Go.Proofs.Ytbgchacafglcpaa.P
end
section
namespace Go.Proofs.Ytbgchacafglcpaa.P
open Go.RowKit Go.Proofs.YtbgchacafglcpaaW.PrintWords Go.Proofs.YtbgchacafglcpaaW.PrintLast Go.Proofs.YtbgchacafglcpaaW.PrintMore
attribute [local go_sem] max2_int min2_int max_two min_two max_three min_three max_four min_four
set_option linter.unusedVariables false
set_option linter.unusedSimpArgs false
open Go.Proofs.YtbgchacafglcpaaH
def cohousingref28_Belongs.f (l0 : List S63) (l1 : List S38) : Option Bool := if l0.length ≤ 140737488355328 ∧ l1.length ≤ 140737488355328 then some (belongsB l0.length l1) else none
end Go.Proofs.Ytbgchacafglcpaa.P
end
section
namespace Go.Proofs.Ytbgchacafglcpaa.P
open Go.RowKit Go.Proofs.YtbgchacafglcpaaW.PrintWords Go.Proofs.YtbgchacafglcpaaW.PrintLast Go.Proofs.YtbgchacafglcpaaW.PrintMore
attribute [local go_sem] max2_int min2_int max_two min_two max_three min_three max_four min_four
set_option linter.unusedVariables false
set_option linter.unusedSimpArgs false
attribute [local go_sem high] eqA38
def cohousingref28_Same.l0 : Nat → List (S38) → List (S38) → Int → Option (Bool)
 | 0, _, _, _ => none
 | k + 1, x0, x1, x5 => if x5 < (x0.length : Int) then (if 0 ≤ x5 then (if x5 < (x1.length : Int) then (if (!(((rd_T38 x0 x5).f0) == ((rd_T38 x1 x5).f0)) || (!(((rd_T38 x0 x5).f1) == ((rd_T38 x1 x5).f1)))) = true then (some false) else (cohousingref28_Same.l0 k x0 x1 (wrap64 (x5 + 1)))) else (none)) else (none)) else (some true)
def cohousingref28_Same.f (k : Nat) (l0 : List (S38)) (l1 : List (S38)) : Option (Bool) := if (l0.length : Int) = (l1.length : Int) then (cohousingref28_Same.l0 k l0 l1 0) else (some false)
theorem cohousingref28_Same.mono_l : ∀ k, (∀ y0 y1 y2, LeO (cohousingref28_Same.l0 k y0 y1 y2) (cohousingref28_Same.l0 (k + 1) y0 y1 y2))
 | 0 => fun _ _ _ r h => by simp [cohousingref28_Same.l0] at h
 | k + 1 => by
  have ih0 := cohousingref28_Same.mono_l k
  ·intro y0 y1 y2
   unfold cohousingref28_Same.l0
   repeat' first
   | (with_reducible exact ih0 _ _ _)
   | (with_reducible exact LeO.refl _)
   | (with_reducible exact LeO.none _)
   | (with_reducible refine LeO.ite ?_ ?_)
   | (with_reducible refine LeO.bind ?_ (fun _ => ?_))
   | exact ih0 _ _ _
   | exact LeO.none _
   | refine LeO.ite ?_ ?_
   | refine LeO.bind ?_ (fun _ => ?_)
theorem cohousingref28_Same.mono : ∀ a0 a1 k, LeO (cohousingref28_Same.f k a0 a1) (cohousingref28_Same.f (k + 1) a0 a1) := by
 intro a0 a1 k
 have ih0 := cohousingref28_Same.mono_l k
 unfold cohousingref28_Same.f
 repeat' first
   | (with_reducible exact ih0 _ _ _)
   | (with_reducible exact LeO.refl _)
   | (with_reducible exact LeO.none _)
   | (with_reducible refine LeO.ite ?_ ?_)
   | (with_reducible refine LeO.bind ?_ (fun _ => ?_))
   | exact ih0 _ _ _
   | exact LeO.none _
   | refine LeO.ite ?_ ?_
   | refine LeO.bind ?_ (fun _ => ?_)
end Go.Proofs.Ytbgchacafglcpaa.P
end
section
namespace Go.Proofs.Ytbgchacafglcpaa.P
open Go.RowKit Go.Proofs.YtbgchacafglcpaaW.PrintWords Go.Proofs.YtbgchacafglcpaaW.PrintLast Go.Proofs.YtbgchacafglcpaaW.PrintMore
attribute [local go_sem] max2_int min2_int max_two min_two max_three min_three max_four min_four
set_option linter.unusedVariables false
set_option linter.unusedSimpArgs false
def cohousingref28_empty.l0 : Nat → List (S38) → Int → Option (Bool)
 | 0, _, _ => none
 | k + 1, x0, x3 => if x3 < (x0.length : Int) then (if 0 ≤ x3 then (if ((rd_T38 x0 x3).f0) > ((rd_T38 x0 x3).f1) then (some true) else (cohousingref28_empty.l0 k x0 (wrap64 (x3 + 1)))) else (none)) else (some false)
def cohousingref28_empty.f (k : Nat) (l0 : List (S38)) : Option (Bool) := cohousingref28_empty.l0 k l0 0
theorem cohousingref28_empty.mono_l : ∀ k, (∀ y0 y1, LeO (cohousingref28_empty.l0 k y0 y1) (cohousingref28_empty.l0 (k + 1) y0 y1))
 | 0 => fun _ _ r h => by simp [cohousingref28_empty.l0] at h
 | k + 1 => by
  have ih0 := cohousingref28_empty.mono_l k
  ·intro y0 y1
   unfold cohousingref28_empty.l0
   repeat' first
   | (with_reducible exact ih0 _ _)
   | (with_reducible exact LeO.refl _)
   | (with_reducible exact LeO.none _)
   | (with_reducible refine LeO.ite ?_ ?_)
   | (with_reducible refine LeO.bind ?_ (fun _ => ?_))
   | exact ih0 _ _
   | exact LeO.none _
   | refine LeO.ite ?_ ?_
   | refine LeO.bind ?_ (fun _ => ?_)
theorem cohousingref28_empty.mono : ∀ a0 k, LeO (cohousingref28_empty.f k a0) (cohousingref28_empty.f (k + 1) a0) := by
 intro a0 k
 have ih0 := cohousingref28_empty.mono_l k
 unfold cohousingref28_empty.f
 repeat' first
   | (with_reducible exact ih0 _ _)
   | (with_reducible exact LeO.refl _)
   | (with_reducible exact LeO.none _)
   | (with_reducible refine LeO.ite ?_ ?_)
   | (with_reducible refine LeO.bind ?_ (fun _ => ?_))
   | exact ih0 _ _
   | exact LeO.none _
   | refine LeO.ite ?_ ?_
   | refine LeO.bind ?_ (fun _ => ?_)
end Go.Proofs.Ytbgchacafglcpaa.P
end
section
namespace Go.Proofs.Ytbgchacafglcpaa.P
open Go.RowKit Go.Proofs.YtbgchacafglcpaaW.PrintWords Go.Proofs.YtbgchacafglcpaaW.PrintLast Go.Proofs.YtbgchacafglcpaaW.PrintMore
attribute [local go_sem] max2_int min2_int max_two min_two max_three min_three max_four min_four
set_option linter.unusedVariables false
set_option linter.unusedSimpArgs false
def cohousingref28_below.l0 : Nat → List (S63) → Int → List Int → Int → Option (List Int)
 | 0, _, _, _, _ => none
 | k + 1, x0, x1, x5, x6 => if x6 < (x0.length : Int) then (if 0 ≤ x6 then (if 0 ≤ x1 then (if x1 < (x0.length : Int) then (if ((rd_T63 x0 x6).f1) = ((rd_T63 x0 x1).f0) then (if x5.length < 17592186044416 then (cohousingref28_below.l0 k x0 x1 (x5 ++ [x6]) (wrap64 (x6 + 1))) else (none)) else (cohousingref28_below.l0 k x0 x1 x5 (wrap64 (x6 + 1)))) else (none)) else (none)) else (none)) else (some x5)
def cohousingref28_below.f (k : Nat) (l0 : List (S63)) (a1 : Int) : Option (List Int) := cohousingref28_below.l0 k l0 a1 ([] : List Int) (wrap64 (a1 + 1))
theorem cohousingref28_below.mono_l : ∀ k, (∀ y0 y1 y2 y3, LeO (cohousingref28_below.l0 k y0 y1 y2 y3) (cohousingref28_below.l0 (k + 1) y0 y1 y2 y3))
 | 0 => fun _ _ _ _ r h => by simp [cohousingref28_below.l0] at h
 | k + 1 => by
  have ih0 := cohousingref28_below.mono_l k
  ·intro y0 y1 y2 y3
   unfold cohousingref28_below.l0
   repeat' first
   | (with_reducible exact ih0 _ _ _ _)
   | (with_reducible exact LeO.refl _)
   | (with_reducible exact LeO.none _)
   | (with_reducible refine LeO.ite ?_ ?_)
   | (with_reducible refine LeO.bind ?_ (fun _ => ?_))
   | exact ih0 _ _ _ _
   | exact LeO.none _
   | refine LeO.ite ?_ ?_
   | refine LeO.bind ?_ (fun _ => ?_)
theorem cohousingref28_below.mono : ∀ a0 a1 k, LeO (cohousingref28_below.f k a0 a1) (cohousingref28_below.f (k + 1) a0 a1) := by
 intro a0 a1 k
 have ih0 := cohousingref28_below.mono_l k
 unfold cohousingref28_below.f
 repeat' first
   | (with_reducible exact ih0 _ _ _ _)
   | (with_reducible exact LeO.refl _)
   | (with_reducible exact LeO.none _)
   | (with_reducible refine LeO.ite ?_ ?_)
   | (with_reducible refine LeO.bind ?_ (fun _ => ?_))
   | exact ih0 _ _ _ _
   | exact LeO.none _
   | refine LeO.ite ?_ ?_
   | refine LeO.bind ?_ (fun _ => ?_)
set_option maxHeartbeats 8000000 in
set_option maxRecDepth 100000 in
theorem cohousingref28_below.calls (k : Nat) (A0 : Option Addr) (c0 : Nat) (l0 : List (S63)) (a1 : Int) (r : List Int) (w : World) (hr0 : Kd.C k63 w A0 l0.length l0) (hc0 : l0.length ≤ c0) (h : cohousingref28_below.f k l0 a1 = some r) :
  Calls Try.prog 63 #[.slice A0 l0.length c0, .int .i64 a1] w fun e w' => ∃ v0_ : Value, e = .returned (v0_) ∧ Kd.R (Kd.int .i64) 3 w' w.heap.size (fun _ => True) v0_ r ∧ Below w.heap.size w w' := by
 have HR0 := Aside0.mk hr0
 have HC0 := Aside0.mk hc0
 clear hr0 hc0
 have HB := Aside0.mk (Below.refl w.heap.size w)
 have H : (cohousingref28_below.l0 k l0 a1 ([] : List Int) (wrap64 (a1 + 1))) = some r := h
 clear h
 have H' := Aside0.mk H
 clear H
 go_enter Try.func63, Try.ntmps63
 go_wp2
 repeat (go_quiet (fail); try go_wp2)
 go_loopg [5, 6] k (fun kq v5 v6 w' => ∃ (x5_1 : List Int) (x6_1 : Int), v6 = .int .i64 x6_1 ∧ Aside0 (cohousingref28_below.l0 kq l0 a1 x5_1 x6_1 = some r) ∧ Aside0 (kq ≤ k) ∧ Aside0 (Kd.R (Kd.int .i64) 3 w' w.heap.size (fun _ => True) v5 x5_1) ∧ Aside0 (Below w.heap.size w w'))
 case atStart => exact ⟨(([] : List Int)), (wrap64 (a1 + 1)), (by first | rfl | (simp; done) | (simp [*]; done)), H', ⟨Nat.le_refl _⟩, ⟨by first | exact Kd.R_nil _ _ _ _ _ | exact Kd.N_nil _ _ _ _ _ | exact Kd.V_nil _ _ _ _ _ | exact Kd.Q_nil _ _ _ _ _ | exact Kd.S_nil _ _ _ _ _⟩, ⟨by repeat (first | (with_reducible first | exact HB.out | apply below_alloc | apply pw_below_drewN | apply below_drew1) | exact HB.out)⟩⟩
 case round =>
  clear H'
  try clear p2
  obtain ⟨x5_1, x6_1, rfl, HA, HK1, HO_5, HB⟩ := hrel
  cases gk with
  | zero => exact absurd HA.out (by simp [cohousingref28_below.l0])
  | succ k1 =>
   have H := HA.out
   clear HA
   simp only [cohousingref28_below.l0] at H
   by_cases c3 : x6_1 < (l0.length : Int)
   ·rw [if_pos c3] at H
    have c3b0 : decide (x6_1 < (l0.length : Int)) = true := decide_eq_true c3
    clear c3
    by_cases c4 : 0 ≤ x6_1
    ·rw [if_pos c4] at H
     have c4b0 : decide (0 ≤ x6_1) = true := decide_eq_true c4
     clear c4
     by_cases c5 : 0 ≤ a1
     ·rw [if_pos c5] at H
      have c5b0 : decide (0 ≤ a1) = true := decide_eq_true c5
      clear c5
      by_cases c6 : a1 < (l0.length : Int)
      ·rw [if_pos c6] at H
       have c6b0 : decide (a1 < (l0.length : Int)) = true := decide_eq_true c6
       clear c6
       by_cases c7 : ((rd_T63 l0 x6_1).f1) = ((rd_T63 l0 a1).f0)
       ·rw [if_pos c7] at H
        have c7b0 : (((rd_T63 l0 x6_1).f1) == ((rd_T63 l0 a1).f0)) = true := beq_iff_eq.mpr c7
        have c7b1 : (((rd_T63 l0 x6_1).f1) != ((rd_T63 l0 a1).f0)) = false := bne_eq_false_iff_eq.mpr c7
        clear c7
        by_cases c8 : x5_1.length < 17592186044416
        ·rw [if_pos c8] at H
         have LMc8 := Aside0.mk c8
         clear c8
         obtain ⟨y254, hy254⟩ : ∃ y_ : List Int, y_ = (x5_1 ++ [x6_1]) := ⟨_, rfl⟩
         replace H : (cohousingref28_below.l0 k1 l0 a1 y254 (wrap64 (x6_1 + 1))) = some r := by first | (rw [hy254]; with_reducible exact H) | (have H2_ := (Option.bind_some _ _).symm.trans H; rw [hy254]; with_reducible exact H2_) | (have H2_ := (Option.bind_some _ _).symm.trans H; with_reducible exact H2_) | with_reducible exact H | (rw [hy254]; exact H) | exact H
         have Ny254 := Aside0.mk hy254
         clear hy254
         have H' := Aside0.mk H
         clear H
         have p252 : 0 ≤ (x6_1 : Int) := of_decide_eq_true (by first | (with_reducible assumption) | assumption)
         have q252 : x6_1 < (l0.length : Int) := of_decide_eq_true (by first | (with_reducible assumption) | assumption)
         obtain ⟨ad252, e252, hx252_0, hx252_1, hx252_2⟩ := at_T63 HR0.out x6_1 p252 q252
         cases e252
         replace hx252_0 := (HB.out.cell (World.block_lt_of_cell? w _ hx252_0)).trans hx252_0
         replace hx252_1 := (HB.out.cell (World.block_lt_of_cell? w _ hx252_1)).trans hx252_1
         replace hx252_2 := (HB.out.cell (World.block_lt_of_cell? w _ hx252_2)).trans hx252_2
         replace p252 := eq_true p252
         replace q252 := eq_true q252
         have p253 : 0 ≤ (a1 : Int) := of_decide_eq_true (by first | (with_reducible assumption) | assumption)
         have q253 : a1 < (l0.length : Int) := of_decide_eq_true (by first | (with_reducible assumption) | assumption)
         obtain ⟨ad253, e253, hx253_0, hx253_1, hx253_2⟩ := at_T63 HR0.out a1 p253 q253
         obtain rfl : ad252 = ad253 := (by injection e253)
         replace hx253_0 := (HB.out.cell (World.block_lt_of_cell? w _ hx253_0)).trans hx253_0
         replace hx253_1 := (HB.out.cell (World.block_lt_of_cell? w _ hx253_1)).trans hx253_1
         replace hx253_2 := (HB.out.cell (World.block_lt_of_cell? w _ hx253_2)).trans hx253_2
         replace p253 := eq_true p253
         replace q253 := eq_true q253
         go_wp2_with (first | ((with_reducible refine gate_builtin (b := .append) (xs := #[.tmp 26, .tmp 28]) rfl ?_); at_builtin; refine Kd.R_append (Kd.int .i64) (w0 := w) w.heap.size rfl (.tmp 26) (.tmp 28) 24 3 (.int .i64 0) 8 rfl Try.underlying24 info3 rfl (by decide) (by omega) u5 x5_1 x6_1 [.int .i64 x6_1] (fun _ => True) (fun _ => False) rfl rfl ?aP (fun _ hk => hk.elim) ?aF ?aO ?aB ?aS ?aL ?_; (case aP => exact rfl); (case aB => exact (by repeat (first | (with_reducible first | exact HB.out | apply below_alloc | apply pw_below_drewN | apply below_drew1) | exact HB.out))); (case aF => exact (fun _ _ => trivial)); (case aO => exact (by (with_reducible repeat (first | apply Kd.R_alloc | apply Kd.R_drewN | apply Kd.R_drew)); exact HO_5.out)); (case aS => exact (below_size (by repeat (first | (with_reducible first | exact HB.out | apply below_alloc | apply pw_below_drewN | apply below_drew1) | exact HB.out)))); (case aL => have := LMc8.out; omega); intro v255 w9 ho hb hg hat; rw [← Ny254.out] at ho; have n0_ := Aside0.mk (hb); have n1_ := Aside0.mk (ho); clear HB; clear HO_5; have HB := n0_; have HO256 := n1_; clear n0_ n1_; clear ho hb hg hat))
         repeat (go_quiet (first | ((with_reducible refine gate_builtin (b := .append) (xs := #[.tmp 26, .tmp 28]) rfl ?_); at_builtin; refine Kd.R_append (Kd.int .i64) (w0 := w) w.heap.size rfl (.tmp 26) (.tmp 28) 24 3 (.int .i64 0) 8 rfl Try.underlying24 info3 rfl (by decide) (by omega) u5 x5_1 x6_1 [.int .i64 x6_1] (fun _ => True) (fun _ => False) rfl rfl ?aP (fun _ hk => hk.elim) ?aF ?aO ?aB ?aS ?aL ?_; (case aP => exact rfl); (case aB => exact (by repeat (first | (with_reducible first | exact HB.out | apply below_alloc | apply pw_below_drewN | apply below_drew1) | exact HB.out))); (case aF => exact (fun _ _ => trivial)); (case aO => exact (by (with_reducible repeat (first | apply Kd.R_alloc | apply Kd.R_drewN | apply Kd.R_drew)); exact HO_5.out)); (case aS => exact (below_size (by repeat (first | (with_reducible first | exact HB.out | apply below_alloc | apply pw_below_drewN | apply below_drew1) | exact HB.out)))); (case aL => have := LMc8.out; omega); intro v255 w9 ho hb hg hat; rw [← Ny254.out] at ho; have n0_ := Aside0.mk (hb); have n1_ := Aside0.mk (ho); clear HB; clear HO_5; have HB := n0_; have HO256 := n1_; clear n0_ n1_; clear ho hb hg hat)); try go_wp2_with (first | ((with_reducible refine gate_builtin (b := .append) (xs := #[.tmp 26, .tmp 28]) rfl ?_); at_builtin; refine Kd.R_append (Kd.int .i64) (w0 := w) w.heap.size rfl (.tmp 26) (.tmp 28) 24 3 (.int .i64 0) 8 rfl Try.underlying24 info3 rfl (by decide) (by omega) u5 x5_1 x6_1 [.int .i64 x6_1] (fun _ => True) (fun _ => False) rfl rfl ?aP (fun _ hk => hk.elim) ?aF ?aO ?aB ?aS ?aL ?_; (case aP => exact rfl); (case aB => exact (by repeat (first | (with_reducible first | exact HB.out | apply below_alloc | apply pw_below_drewN | apply below_drew1) | exact HB.out))); (case aF => exact (fun _ _ => trivial)); (case aO => exact (by (with_reducible repeat (first | apply Kd.R_alloc | apply Kd.R_drewN | apply Kd.R_drew)); exact HO_5.out)); (case aS => exact (below_size (by repeat (first | (with_reducible first | exact HB.out | apply below_alloc | apply pw_below_drewN | apply below_drew1) | exact HB.out)))); (case aL => have := LMc8.out; omega); intro v255 w9 ho hb hg hat; rw [← Ny254.out] at ho; have n0_ := Aside0.mk (hb); have n1_ := Aside0.mk (ho); clear HB; clear HO_5; have HB := n0_; have HO256 := n1_; clear n0_ n1_; clear ho hb hg hat)))
         go_roundg k1
         case measure => have := HK1.out; omega
         case rel => exact ⟨(y254), (wrap64 (x6_1 + 1)), (by first | rfl | (simp; done) | (simp [*]; done)), H', ⟨by have := HK1.out; omega⟩, ⟨by (with_reducible repeat (first | apply Kd.R_alloc | apply Kd.R_drewN | apply Kd.R_drew)); exact HO256.out⟩, ⟨by repeat (first | (with_reducible first | exact HB.out | apply below_alloc | apply pw_below_drewN | apply below_drew1) | exact HB.out)⟩⟩
        ·rw [if_neg c8] at H
         exact absurd H (by simp)
       ·rw [if_neg c7] at H
        have c7b0 : (((rd_T63 l0 x6_1).f1) == ((rd_T63 l0 a1).f0)) = false := beq_eq_false_iff_ne.mpr c7
        have c7b1 : (((rd_T63 l0 x6_1).f1) != ((rd_T63 l0 a1).f0)) = true := bne_iff_ne.mpr c7
        have H' := Aside0.mk H
        clear H
        have p252 : 0 ≤ (x6_1 : Int) := of_decide_eq_true (by first | (with_reducible assumption) | assumption)
        have q252 : x6_1 < (l0.length : Int) := of_decide_eq_true (by first | (with_reducible assumption) | assumption)
        obtain ⟨ad252, e252, hx252_0, hx252_1, hx252_2⟩ := at_T63 HR0.out x6_1 p252 q252
        cases e252
        replace hx252_0 := (HB.out.cell (World.block_lt_of_cell? w _ hx252_0)).trans hx252_0
        replace hx252_1 := (HB.out.cell (World.block_lt_of_cell? w _ hx252_1)).trans hx252_1
        replace hx252_2 := (HB.out.cell (World.block_lt_of_cell? w _ hx252_2)).trans hx252_2
        replace p252 := eq_true p252
        replace q252 := eq_true q252
        have p253 : 0 ≤ (a1 : Int) := of_decide_eq_true (by first | (with_reducible assumption) | assumption)
        have q253 : a1 < (l0.length : Int) := of_decide_eq_true (by first | (with_reducible assumption) | assumption)
        obtain ⟨ad253, e253, hx253_0, hx253_1, hx253_2⟩ := at_T63 HR0.out a1 p253 q253
        obtain rfl : ad252 = ad253 := (by injection e253)
        replace hx253_0 := (HB.out.cell (World.block_lt_of_cell? w _ hx253_0)).trans hx253_0
        replace hx253_1 := (HB.out.cell (World.block_lt_of_cell? w _ hx253_1)).trans hx253_1
        replace hx253_2 := (HB.out.cell (World.block_lt_of_cell? w _ hx253_2)).trans hx253_2
        replace p253 := eq_true p253
        replace q253 := eq_true q253
        go_wp2
        repeat (go_quiet (fail); try go_wp2)
        go_roundg k1
        case measure => have := HK1.out; omega
        case rel => exact ⟨(x5_1), (wrap64 (x6_1 + 1)), (by first | rfl | (simp; done) | (simp [*]; done)), H', ⟨by have := HK1.out; omega⟩, ⟨by (with_reducible repeat (first | apply Kd.R_alloc | apply Kd.R_drewN | apply Kd.R_drew)); exact HO_5.out⟩, ⟨by repeat (first | (with_reducible first | exact HB.out | apply below_alloc | apply pw_below_drewN | apply below_drew1) | exact HB.out)⟩⟩
      ·rw [if_neg c6] at H
       exact absurd H (by simp)
     ·rw [if_neg c5] at H
      exact absurd H (by simp)
    ·rw [if_neg c4] at H
     exact absurd H (by simp)
   ·rw [if_neg c3] at H
    have c3b0 : decide (x6_1 < (l0.length : Int)) = false := decide_eq_false c3
    clear c3
    obtain rfl := Option.some.inj H
    go_wp2
    repeat (go_quiet (fail); try go_wp2)
    go_ret
    exact ⟨_, by first | rfl | (simp [errW_none, errW_some] <;> rfl) | (simp [*, errW_none, errW_some] <;> rfl), by (with_reducible repeat (first | apply Kd.R_alloc | apply Kd.R_drewN | apply Kd.R_drew)); exact HO_5.out, by repeat (first | (with_reducible first | exact HB.out | apply below_alloc | apply pw_below_drewN | apply below_drew1) | exact HB.out)⟩
end Go.Proofs.Ytbgchacafglcpaa.P
end
section
namespace Go.Proofs.Ytbgchacafglcpaa.P
open Go.RowKit Go.Proofs.YtbgchacafglcpaaW.PrintWords Go.Proofs.YtbgchacafglcpaaW.PrintLast Go.Proofs.YtbgchacafglcpaaW.PrintMore
attribute [local go_sem] max2_int min2_int max_two min_two max_three min_three max_four min_four
set_option linter.unusedVariables false
set_option linter.unusedSimpArgs false
def cohousingref28_narrow.f (a0_0 : Int) (a0_1 : Int) (a1 : Int) (a2 : Int) : Option (Int × Int) := some (mx a0_0 a1, mn a0_1 a2)
end Go.Proofs.Ytbgchacafglcpaa.P
end
section
namespace Go.Proofs.Ytbgchacafglcpaa.P
open Go.RowKit Go.Proofs.YtbgchacafglcpaaW.PrintWords Go.Proofs.YtbgchacafglcpaaW.PrintLast Go.Proofs.YtbgchacafglcpaaW.PrintMore
attribute [local go_sem] max2_int min2_int max_two min_two max_three min_three max_four min_four
set_option linter.unusedVariables false
set_option linter.unusedSimpArgs false
mutual
def cohousingref28_equation.l0 : Nat → List (S63) → List (S38) → Int → List Int → Int → Int → Int → Option ((List (S38)))
 | 0, _, _, _, _, _, _, _ => none
 | k + 1, x0, x1, x2, x3, x9, x10, x11 => if x11 < (x3.length : Int) then (if 0 ≤ x11 then (if 0 ≤ (rd x3 x11) then (if (rd x3 x11) < (x1.length : Int) then (cohousingref28_equation.l0 k x0 x1 x2 x3 (wrap64 (x9 + ((rd_T38 x1 (rd x3 x11)).f0))) (wrap64 (x10 + ((rd_T38 x1 (rd x3 x11)).f1))) (wrap64 (x11 + 1))) else (none)) else (none)) else (none)) else (if 0 ≤ x2 then (if x2 < (x1.length : Int) then (if x2 < (x0.length : Int) then ((cohousingref28_narrow.f ((rd_T38 x1 x2).f0) ((rd_T38 x1 x2).f1) x9 (wrap64 (x10 + ((rd_T63 x0 x2).f2)))).bind fun bt290 => (cohousingref28_equation.l1 k x0 x1 x2 x9 x10 ([] : List (S38)) 0 bt290.1 bt290.2)) else (none)) else (none)) else (none))
def cohousingref28_equation.l1 : Nat → List (S63) → List (S38) → Int → Int → Int → List (S38) → Int → Int → Int → Option ((List (S38)))
 | 0, _, _, _, _, _, _, _, _, _ => none
 | k + 1, x0, x1, x2, x9, x10, x13, x14, x293000, x293001 => if x14 < (x1.length : Int) then (if 0 ≤ x14 then (if x14 = x2 then (if x14 > x2 then (if x14 < (x0.length : Int) then (if 0 ≤ x2 then (if x2 < (x0.length : Int) then (if ((rd_T63 x0 x14).f1) = ((rd_T63 x0 x2).f0) then ((cohousingref28_narrow.f x293000 x293001 (wrap64 ((wrap64 (x293000 - ((rd_T63 x0 x2).f2))) - (wrap64 (x10 - x293001)))) (wrap64 (x293001 - (wrap64 (x9 - x293000))))).bind fun bt298 => (if x13.length < 8796093022208 then (cohousingref28_equation.l1 k x0 x1 x2 x9 x10 (x13 ++ [(⟨bt298.1, bt298.2⟩ : S38)]) (wrap64 (x14 + 1)) x293000 x293001) else (none))) else (if x13.length < 8796093022208 then (cohousingref28_equation.l1 k x0 x1 x2 x9 x10 (x13 ++ [(⟨x293000, x293001⟩ : S38)]) (wrap64 (x14 + 1)) x293000 x293001) else (none))) else (none)) else (none)) else (none)) else (if x13.length < 8796093022208 then (cohousingref28_equation.l1 k x0 x1 x2 x9 x10 (x13 ++ [(⟨x293000, x293001⟩ : S38)]) (wrap64 (x14 + 1)) x293000 x293001) else (none))) else (if x14 > x2 then (if x14 < (x0.length : Int) then (if 0 ≤ x2 then (if x2 < (x0.length : Int) then (if ((rd_T63 x0 x14).f1) = ((rd_T63 x0 x2).f0) then ((cohousingref28_narrow.f ((rd_T38 x1 x14).f0) ((rd_T38 x1 x14).f1) (wrap64 ((wrap64 (x293000 - ((rd_T63 x0 x2).f2))) - (wrap64 (x10 - ((rd_T38 x1 x14).f1))))) (wrap64 (x293001 - (wrap64 (x9 - ((rd_T38 x1 x14).f0)))))).bind fun bt312 => (if x13.length < 8796093022208 then (cohousingref28_equation.l1 k x0 x1 x2 x9 x10 (x13 ++ [(⟨bt312.1, bt312.2⟩ : S38)]) (wrap64 (x14 + 1)) x293000 x293001) else (none))) else (if x13.length < 8796093022208 then (cohousingref28_equation.l1 k x0 x1 x2 x9 x10 (x13 ++ [(⟨(rd_T38 x1 x14).f0, (rd_T38 x1 x14).f1⟩ : S38)]) (wrap64 (x14 + 1)) x293000 x293001) else (none))) else (none)) else (none)) else (none)) else (if x13.length < 8796093022208 then (cohousingref28_equation.l1 k x0 x1 x2 x9 x10 (x13 ++ [(⟨(rd_T38 x1 x14).f0, (rd_T38 x1 x14).f1⟩ : S38)]) (wrap64 (x14 + 1)) x293000 x293001) else (none)))) else (none)) else (some x13)
end
def cohousingref28_equation.f (k : Nat) (l0 : List (S63)) (l1 : List (S38)) (a2 : Int) (l3 : List Int) : Option ((List (S38))) := cohousingref28_equation.l0 k l0 l1 a2 l3 0 0 0
theorem cohousingref28_equation.mono_l : ∀ k, (∀ y0 y1 y2 y3 y4 y5 y6, LeO (cohousingref28_equation.l0 k y0 y1 y2 y3 y4 y5 y6) (cohousingref28_equation.l0 (k + 1) y0 y1 y2 y3 y4 y5 y6)) ∧ (∀ y0 y1 y2 y3 y4 y5 y6 y7 y8, LeO (cohousingref28_equation.l1 k y0 y1 y2 y3 y4 y5 y6 y7 y8) (cohousingref28_equation.l1 (k + 1) y0 y1 y2 y3 y4 y5 y6 y7 y8))
 | 0 => ⟨fun _ _ _ _ _ _ _ r h => by simp [cohousingref28_equation.l0] at h, fun _ _ _ _ _ _ _ _ _ r h => by simp [cohousingref28_equation.l1] at h⟩
 | k + 1 => by
  obtain ⟨ih0, ih1⟩ := cohousingref28_equation.mono_l k
  refine ⟨?_, ?_⟩
  ·intro y0 y1 y2 y3 y4 y5 y6
   unfold cohousingref28_equation.l0
   repeat' first
   | (with_reducible exact ih0 _ _ _ _ _ _ _)
   | (with_reducible exact ih1 _ _ _ _ _ _ _ _ _)
   | (with_reducible exact LeO.refl _)
   | (with_reducible exact LeO.none _)
   | (with_reducible refine LeO.ite ?_ ?_)
   | (with_reducible refine LeO.bind ?_ (fun _ => ?_))
   | exact ih0 _ _ _ _ _ _ _
   | exact ih1 _ _ _ _ _ _ _ _ _
   | exact LeO.none _
   | refine LeO.ite ?_ ?_
   | refine LeO.bind ?_ (fun _ => ?_)
  ·intro y0 y1 y2 y3 y4 y5 y6 y7 y8
   unfold cohousingref28_equation.l1
   repeat' first
   | (with_reducible exact ih0 _ _ _ _ _ _ _)
   | (with_reducible exact ih1 _ _ _ _ _ _ _ _ _)
   | (with_reducible exact LeO.refl _)
   | (with_reducible exact LeO.none _)
   | (with_reducible refine LeO.ite ?_ ?_)
   | (with_reducible refine LeO.bind ?_ (fun _ => ?_))
   | exact ih0 _ _ _ _ _ _ _
   | exact ih1 _ _ _ _ _ _ _ _ _
   | exact LeO.none _
   | refine LeO.ite ?_ ?_
   | refine LeO.bind ?_ (fun _ => ?_)
theorem cohousingref28_equation.mono : ∀ a0 a1 a2 a3 k, LeO (cohousingref28_equation.f k a0 a1 a2 a3) (cohousingref28_equation.f (k + 1) a0 a1 a2 a3) := by
 intro a0 a1 a2 a3 k
 obtain ⟨ih0, ih1⟩ := cohousingref28_equation.mono_l k
 unfold cohousingref28_equation.f
 repeat' first
   | (with_reducible exact ih0 _ _ _ _ _ _ _)
   | (with_reducible exact ih1 _ _ _ _ _ _ _ _ _)
   | (with_reducible exact LeO.refl _)
   | (with_reducible exact LeO.none _)
   | (with_reducible refine LeO.ite ?_ ?_)
   | (with_reducible refine LeO.bind ?_ (fun _ => ?_))
   | exact ih0 _ _ _ _ _ _ _
   | exact ih1 _ _ _ _ _ _ _ _ _
   | exact LeO.none _
   | refine LeO.ite ?_ ?_
   | refine LeO.bind ?_ (fun _ => ?_)
end Go.Proofs.Ytbgchacafglcpaa.P
end
section
namespace Go.Proofs.Ytbgchacafglcpaa.P
open Go.RowKit Go.Proofs.YtbgchacafglcpaaW.PrintWords Go.Proofs.YtbgchacafglcpaaW.PrintLast Go.Proofs.YtbgchacafglcpaaW.PrintMore
attribute [local go_sem] max2_int min2_int max_two min_two max_three min_three max_four min_four
set_option linter.unusedVariables false
set_option linter.unusedSimpArgs false
def cohousingref28_once.l0 : Nat → List (S63) → List (S38) → Int → Option ((List (S38)))
 | 0, _, _, _ => none
 | k + 1, x0, x1, x5 => if x5 ≥ 0 then ((cohousingref28_below.f k x0 x5).bind fun t323 => (if (t323.length : Int) > 0 then ((cohousingref28_empty.f k x1).bind fun t326 => (if t326 = true then (cohousingref28_once.l0 k x0 x1 (wrap64 (x5 - 1))) else ((cohousingref28_equation.f k x0 x1 x5 t323).bind fun t327 => (cohousingref28_once.l0 k x0 t327 (wrap64 (x5 - 1)))))) else (cohousingref28_once.l0 k x0 x1 (wrap64 (x5 - 1))))) else (some x1)
def cohousingref28_once.f (k : Nat) (l0 : List (S63)) (l1 : List (S38)) : Option ((List (S38))) := cohousingref28_once.l0 k l0 l1 (wrap64 ((l0.length : Int) - 1))
theorem cohousingref28_once.mono_l : ∀ k, (∀ y0 y1 y2, LeO (cohousingref28_once.l0 k y0 y1 y2) (cohousingref28_once.l0 (k + 1) y0 y1 y2))
 | 0 => fun _ _ _ r h => by simp [cohousingref28_once.l0] at h
 | k + 1 => by
  have ih0 := cohousingref28_once.mono_l k
  ·intro y0 y1 y2
   unfold cohousingref28_once.l0
   repeat' first
   | (with_reducible exact ih0 _ _ _)
   | (with_reducible exact cohousingref28_below.mono _ _ _)
   | (with_reducible exact cohousingref28_empty.mono _ _)
   | (with_reducible exact cohousingref28_equation.mono _ _ _ _ _)
   | (with_reducible exact LeO.refl _)
   | (with_reducible exact LeO.none _)
   | (with_reducible refine LeO.ite ?_ ?_)
   | (with_reducible refine LeO.bind ?_ (fun _ => ?_))
   | exact ih0 _ _ _
   | exact cohousingref28_below.mono _ _ _
   | exact cohousingref28_empty.mono _ _
   | exact cohousingref28_equation.mono _ _ _ _ _
   | exact LeO.none _
   | refine LeO.ite ?_ ?_
   | refine LeO.bind ?_ (fun _ => ?_)
theorem cohousingref28_once.mono : ∀ a0 a1 k, LeO (cohousingref28_once.f k a0 a1) (cohousingref28_once.f (k + 1) a0 a1) := by
 intro a0 a1 k
 have ih0 := cohousingref28_once.mono_l k
 unfold cohousingref28_once.f
 repeat' first
   | (with_reducible exact ih0 _ _ _)
   | (with_reducible exact cohousingref28_below.mono _ _ _)
   | (with_reducible exact cohousingref28_empty.mono _ _)
   | (with_reducible exact cohousingref28_equation.mono _ _ _ _ _)
   | (with_reducible exact LeO.refl _)
   | (with_reducible exact LeO.none _)
   | (with_reducible refine LeO.ite ?_ ?_)
   | (with_reducible refine LeO.bind ?_ (fun _ => ?_))
   | exact ih0 _ _ _
   | exact cohousingref28_below.mono _ _ _
   | exact cohousingref28_empty.mono _ _
   | exact cohousingref28_equation.mono _ _ _ _ _
   | exact LeO.none _
   | refine LeO.ite ?_ ?_
   | refine LeO.bind ?_ (fun _ => ?_)
end Go.Proofs.Ytbgchacafglcpaa.P
end
section
namespace Go.Proofs.Ytbgchacafglcpaa.P
open Go.RowKit Go.Proofs.YtbgchacafglcpaaW.PrintWords Go.Proofs.YtbgchacafglcpaaW.PrintLast Go.Proofs.YtbgchacafglcpaaW.PrintMore
attribute [local go_sem] max2_int min2_int max_two min_two max_three min_three max_four min_four
set_option linter.unusedVariables false
set_option linter.unusedSimpArgs false
def cohousingref28_bounds.l0 : Nat → List (S63) → List (S38) → Option ((List (S38)) × Bool)
 | 0, _, _ => none
 | k + 1, x0, x1 => (cohousingref28_once.f k x0 x1).bind fun t330 => ((cohousingref28_empty.f k t330).bind fun t333 => (if t333 = true then (some (([] : List (S38)), false)) else ((cohousingref28_Same.f k t330 x1).bind fun t334 => (if t334 = true then (some (t330, true)) else (cohousingref28_bounds.l0 k x0 t330)))))
def cohousingref28_bounds.f (k : Nat) (l0 : List (S63)) (l1 : List (S38)) : Option ((List (S38)) × Bool) := cohousingref28_bounds.l0 k l0 l1
theorem cohousingref28_bounds.mono_l : ∀ k, (∀ y0 y1, LeO (cohousingref28_bounds.l0 k y0 y1) (cohousingref28_bounds.l0 (k + 1) y0 y1))
 | 0 => fun _ _ r h => by simp [cohousingref28_bounds.l0] at h
 | k + 1 => by
  have ih0 := cohousingref28_bounds.mono_l k
  ·intro y0 y1
   unfold cohousingref28_bounds.l0
   repeat' first
   | (with_reducible exact ih0 _ _)
   | (with_reducible exact cohousingref28_Same.mono _ _ _)
   | (with_reducible exact cohousingref28_empty.mono _ _)
   | (with_reducible exact cohousingref28_once.mono _ _ _)
   | (with_reducible exact LeO.refl _)
   | (with_reducible exact LeO.none _)
   | (with_reducible refine LeO.ite ?_ ?_)
   | (with_reducible refine LeO.bind ?_ (fun _ => ?_))
   | exact ih0 _ _
   | exact cohousingref28_Same.mono _ _ _
   | exact cohousingref28_empty.mono _ _
   | exact cohousingref28_once.mono _ _ _
   | exact LeO.none _
   | refine LeO.ite ?_ ?_
   | refine LeO.bind ?_ (fun _ => ?_)
theorem cohousingref28_bounds.mono : ∀ a0 a1 k, LeO (cohousingref28_bounds.f k a0 a1) (cohousingref28_bounds.f (k + 1) a0 a1) := by
 intro a0 a1 k
 have ih0 := cohousingref28_bounds.mono_l k
 unfold cohousingref28_bounds.f
 repeat' first
   | (with_reducible exact ih0 _ _)
   | (with_reducible exact cohousingref28_Same.mono _ _ _)
   | (with_reducible exact cohousingref28_empty.mono _ _)
   | (with_reducible exact cohousingref28_once.mono _ _ _)
   | (with_reducible exact LeO.refl _)
   | (with_reducible exact LeO.none _)
   | (with_reducible refine LeO.ite ?_ ?_)
   | (with_reducible refine LeO.bind ?_ (fun _ => ?_))
   | exact ih0 _ _
   | exact cohousingref28_Same.mono _ _ _
   | exact cohousingref28_empty.mono _ _
   | exact cohousingref28_once.mono _ _ _
   | exact LeO.none _
   | refine LeO.ite ?_ ?_
   | refine LeO.bind ?_ (fun _ => ?_)
end Go.Proofs.Ytbgchacafglcpaa.P
end
section
namespace Go.Proofs.Ytbgchacafglcpaa.P
open Go.RowKit Go.Proofs.YtbgchacafglcpaaW.PrintWords Go.Proofs.YtbgchacafglcpaaW.PrintLast Go.Proofs.YtbgchacafglcpaaW.PrintMore
attribute [local go_sem] max2_int min2_int max_two min_two max_three min_three max_four min_four
set_option linter.unusedVariables false
set_option linter.unusedSimpArgs false
def cohousingref28_Bounds.j0 : Nat → List (S63) → List (S38) → Bool → Option ((List (S38)) × Int)
 | 0, _, _, _ => none
 | k + 1, x0, x1, x20 => if x20 = true then (some (([] : List (S38)), 1)) else ((cohousingref28_bounds.f k x0 x1).bind fun bt337 => (if bt337.2 = true then ((some (([] : List (S38)) : List (S38))).bind fun y341 => (if y341.length + bt337.1.length < 8796093022208 then (some ((y341 ++ bt337.1), 0)) else (none))) else (some (([] : List (S38)), 30))))
def cohousingref28_Bounds.f (k : Nat) (l0 : List (S63)) (l1 : List (S38)) : Option ((List (S38)) × Int) := (cohousingref28_Valid.f k l0).bind fun t335 => ((cohousingref28_Belongs.f l0 l1).bind fun t336 => (if t335 = true then (cohousingref28_Bounds.j0 k l0 l1 (!t336)) else (cohousingref28_Bounds.j0 k l0 l1 true)))
theorem cohousingref28_Bounds.mono_l : ∀ k, (∀ y0 y1 y2, LeO (cohousingref28_Bounds.j0 k y0 y1 y2) (cohousingref28_Bounds.j0 (k + 1) y0 y1 y2))
 | 0 => fun _ _ _ r h => by simp [cohousingref28_Bounds.j0] at h
 | k + 1 => by
  have ih0 := cohousingref28_Bounds.mono_l k
  ·intro y0 y1 y2
   unfold cohousingref28_Bounds.j0
   repeat' first
   | (with_reducible exact ih0 _ _ _)
   | (with_reducible exact cohousingref28_Valid.mono _ _)
   | (with_reducible exact cohousingref28_bounds.mono _ _ _)
   | (with_reducible exact LeO.refl _)
   | (with_reducible exact LeO.none _)
   | (with_reducible refine LeO.ite ?_ ?_)
   | (with_reducible refine LeO.bind ?_ (fun _ => ?_))
   | exact ih0 _ _ _
   | exact cohousingref28_Valid.mono _ _
   | exact cohousingref28_bounds.mono _ _ _
   | exact LeO.none _
   | refine LeO.ite ?_ ?_
   | refine LeO.bind ?_ (fun _ => ?_)
theorem cohousingref28_Bounds.mono : ∀ a0 a1 k, LeO (cohousingref28_Bounds.f k a0 a1) (cohousingref28_Bounds.f (k + 1) a0 a1) := by
 intro a0 a1 k
 have ih0 := cohousingref28_Bounds.mono_l k
 unfold cohousingref28_Bounds.f
 repeat' first
   | (with_reducible exact ih0 _ _ _)
   | (with_reducible exact cohousingref28_Valid.mono _ _)
   | (with_reducible exact cohousingref28_bounds.mono _ _ _)
   | (with_reducible exact LeO.refl _)
   | (with_reducible exact LeO.none _)
   | (with_reducible refine LeO.ite ?_ ?_)
   | (with_reducible refine LeO.bind ?_ (fun _ => ?_))
   | exact ih0 _ _ _
   | exact cohousingref28_Valid.mono _ _
   | exact cohousingref28_bounds.mono _ _ _
   | exact LeO.none _
   | refine LeO.ite ?_ ?_
   | refine LeO.bind ?_ (fun _ => ?_)
end Go.Proofs.Ytbgchacafglcpaa.P
end
section
namespace Go.Proofs.Ytbgchacafglcpaa.P
open Go.RowKit Go.Proofs.YtbgchacafglcpaaW.PrintWords Go.Proofs.YtbgchacafglcpaaW.PrintLast Go.Proofs.YtbgchacafglcpaaW.PrintMore Go.Proofs.YtbgchacafglcpaaH Go.Proofs.FlowTree
open Classical
def Ev {α : Type} (f : Nat → Option α) (r : α) : Prop := ∃ k0, ∀ k, k0 ≤ k → f k = some r
theorem Ev.step {α : Type} {f : Nat → Option α} {r : α} (h : Ev (fun k => f (k + 1)) r) : Ev f r := by
 obtain ⟨k0, h⟩ := h
 refine ⟨k0 + 1, fun k hk => ?_⟩
 obtain ⟨k, rfl⟩ : ∃ m, k = m + 1 := ⟨k - 1, by omega⟩
 exact h k (by omega)
theorem Ev.pure {α : Type} (r : α) : Ev (fun _ => some r) r := ⟨0, fun _ _ => rfl⟩
theorem Ev.bnd {α β : Type} {f : Nat → Option β} {g : β → Nat → Option α} {b : β} {r : α} (hf : Ev f b) (hg : Ev (g b) r) : Ev (fun k => (f k).bind fun t => g t k) r := by
 obtain ⟨k0, h⟩ := hf
 obtain ⟨k1, h1⟩ := hg
 refine ⟨max k0 k1, fun k hk => ?_⟩
 show (f k).bind _ = _
 rw [h k (by omega)]
 exact h1 k (by omega)
theorem Ev.congr {α : Type} {f g : Nat → Option α} {r : α} (h : ∀ k, f k = g k) (hg : Ev g r) : Ev f r := by
 obtain ⟨k0, h0⟩ := hg
 exact ⟨k0, fun k hk => (h k).trans (h0 k hk)⟩
theorem wrap_nat {n : Nat} (h : n ≤ 140737488355328) : wrap64 ((n : Int) + 1) = ((n + 1 : Nat) : Int) := by unfold wrap64; omega
abbrev RG := S38
theorem range_split (i n : Nat) (h : i < n) : List.range n = List.range (i + 1) ++ List.range' (i + 1) (n - (i + 1)) := by
 rw [List.range_eq_range', List.range_eq_range', show n = (i + 1) + (n - (i + 1)) by omega, ← List.range'_append]
 simp
theorem kidsAt_range (l : List PI) (i : Nat) (h : i < l.length) : kidsAt l l.length i = (List.range' (i + 1) (l.length - (i + 1))).filter (fun k => decide (abP l k = idP l i)) := by
 unfold kidsAt
 rw [range_split i l.length h, List.filter_append]
 have e1 : (List.range (i + 1)).filter (fun k => decide (i < k) && decide (abP l k = idP l i)) = [] := by
  rw [List.filter_eq_nil_iff]
  intro k hk
  have := List.mem_range.1 hk
  simp; omega
 rw [e1, List.nil_append]
 apply List.filter_congr
 intro k hk
 have := List.mem_range'.1 hk
 obtain ⟨j, hj, e⟩ := this
 rw [decide_eq_true (show i < k by omega), Bool.true_and]
theorem below_l0' (l : List PI) (hB : l.length ≤ 200) (i : Nat) (hi : i < l.length) : ∀ (d x : Nat) (acc : List Int), x + d = l.length → acc.length ≤ x →
  Ev (fun k => cohousingref28_below.l0 k l (i : Int) acc (x : Int)) (acc ++ ((List.range' x d).filter (fun k => decide (abP l k = idP l i))).map Int.ofNat) := by
 intro d
 induction d with
 | zero =>
  intro x acc hx _
  have h1 : ¬ ((x : Int) < (l.length : Int)) := by omega
  refine Ev.step ?_
  simp only [cohousingref28_below.l0, h1, if_false, List.range'_zero, List.filter_nil, List.map_nil, List.append_nil]
  exact Ev.pure _
 | succ d ih =>
  intro x acc hx ha
  have h1 : ((x : Int) < (l.length : Int)) := by omega
  have h2 : (0 : Int) ≤ (x : Int) := by omega
  have h3 : (0 : Int) ≤ (i : Int) := by omega
  have h4 : ((i : Int) < (l.length : Int)) := by omega
  refine Ev.step ?_
  rw [List.range'_succ]
  by_cases hc : (rd_T63 l (x : Int)).f1 = (rd_T63 l (i : Int)).f0
  ·have h5 : acc.length < 17592186044416 := by omega
   ·simp only [cohousingref28_below.l0, h1, h2, h3, h4, h5, hc, if_true, wrap_nat (show x ≤ 140737488355328 by omega)]
    rw [List.filter_cons_of_pos (by simpa using hc)]
    have := ih (x + 1) (acc ++ [(x : Int)]) (by omega) (by simp; omega)
    rw [List.append_assoc] at this
    exact this
  ·simp only [cohousingref28_below.l0, h1, h2, h3, h4, hc, if_true, if_false, wrap_nat (show x ≤ 140737488355328 by omega)]
   rw [List.filter_cons_of_neg (by simpa using hc)]
   exact ih (x + 1) acc (by omega) (by omega)
theorem below_f' (l : List PI) (hB : l.length ≤ 200) (i : Nat) (hi : i < l.length) : Ev (fun k => cohousingref28_below.f k l (i : Int)) ((kidsAt l l.length i).map Int.ofNat) := by
 have := below_l0' l hB i hi (l.length - (i + 1)) (i + 1) [] (by omega) (by simp)
 rw [kidsAt_range l i hi]
 unfold cohousingref28_below.f
 rw [wrap_nat (by omega)]
 rw [List.nil_append] at this
 exact this
abbrev rr (r : List RG) (i : Nat) : RG := rd_T38 r i
theorem rv_toI (r : List RG) (i : Nat) : rv (r.map toI) i = toI (rr r i) := by
 simp only [rv, rr, rd_T74, rd_T38, Int.toNat_natCast, List.getD_eq_getElem?_getD, List.getElem?_map]
 cases r[i]? <;> rfl
theorem Lo_toI (r : List RG) (i : Nat) : Lo (r.map toI) i = (rr r i).f0 := by unfold Lo; rw [rv_toI]; rfl
theorem Hi_toI (r : List RG) (i : Nat) : Hi (r.map toI) i = (rr r i).f1 := by unfold Hi; rw [rv_toI]; rfl
theorem empty_l0 (r : List RG) (hB : r.length ≤ 140737488355328) : ∀ (d i : Nat), i + d = r.length → Ev (fun k => cohousingref28_empty.l0 k r (i : Int)) (decide (∃ j, i ≤ j ∧ j < r.length ∧ (rr r j).f1 < (rr r j).f0)) := by
 intro d
 induction d with
 | zero =>
  intro i hi
  have h1 : ¬ ((i : Int) < (r.length : Int)) := by omega
  refine Ev.step ?_
  simp only [cohousingref28_empty.l0, h1, if_false]
  rw [decide_eq_false (by rintro ⟨j, h2, h3, _⟩; omega)]
  exact Ev.pure _
 | succ d ih =>
  intro i hi
  have h1 : ((i : Int) < (r.length : Int)) := by omega
  have h2 : (0 : Int) ≤ (i : Int) := by omega
  refine Ev.step ?_
  by_cases hc : (rd_T38 r (i : Int)).f0 > (rd_T38 r (i : Int)).f1
  ·simp only [cohousingref28_empty.l0, h1, h2, hc, if_true]
   rw [decide_eq_true ⟨i, Nat.le_refl _, by omega, hc⟩]
   exact Ev.pure _
  ·simp only [cohousingref28_empty.l0, h1, h2, hc, if_true, if_false, wrap_nat (show i ≤ 140737488355328 by omega)]
   have := ih (i + 1) (by omega)
   rw [show decide (∃ j, i ≤ j ∧ j < r.length ∧ (rr r j).f1 < (rr r j).f0) = decide (∃ j, i + 1 ≤ j ∧ j < r.length ∧ (rr r j).f1 < (rr r j).f0) from decide_eq_decide.2 ⟨fun ⟨j, h3, h4, h5⟩ => ⟨j, by
    by_cases e : j = i
    ·subst e; exact absurd h5 hc
    ·omega, h4, h5⟩, fun ⟨j, h3, h4, h5⟩ => ⟨j, by omega, h4, h5⟩⟩]
   exact this
theorem empty_f (r : List RG) (hB : r.length ≤ 140737488355328) : Ev (fun k => cohousingref28_empty.f k r) (decide (∃ j, j < r.length ∧ (rr r j).f1 < (rr r j).f0)) := by
 have := empty_l0 r hB r.length 0 (by omega)
 rw [show decide (∃ j, j < r.length ∧ (rr r j).f1 < (rr r j).f0) = decide (∃ j, 0 ≤ j ∧ j < r.length ∧ (rr r j).f1 < (rr r j).f0) from decide_eq_decide.2 ⟨fun ⟨j, h⟩ => ⟨j, Nat.zero_le _, h⟩, fun ⟨j, _, h⟩ => ⟨j, h⟩⟩]
 exact this
theorem same_l0 (a b : List RG) (hB : a.length ≤ 140737488355328) (hl : a.length = b.length) : ∀ (d i : Nat), i + d = a.length → Ev (fun k => cohousingref28_Same.l0 k a b (i : Int)) (decide (∀ j, i ≤ j → j < a.length → rr a j = rr b j)) := by
 intro d
 induction d with
 | zero =>
  intro i hi
  have h1 : ¬ ((i : Int) < (a.length : Int)) := by omega
  refine Ev.step ?_
  simp only [cohousingref28_Same.l0, h1, if_false]
  rw [decide_eq_true (fun j h2 h3 => by omega)]
  exact Ev.pure _
 | succ d ih =>
  intro i hi
  have h1 : ((i : Int) < (a.length : Int)) := by omega
  have h2 : (0 : Int) ≤ (i : Int) := by omega
  have h3 : ((i : Int) < (b.length : Int)) := by omega
  refine Ev.step ?_
  by_cases hc : rr a i = rr b i
  ·have hc' : (!(((rd_T38 a (i : Int)).f0) == ((rd_T38 b (i : Int)).f0)) || (!(((rd_T38 a (i : Int)).f1) == ((rd_T38 b (i : Int)).f1)))) = false := by
    have : rd_T38 a (i : Int) = rd_T38 b (i : Int) := hc
    rw [this]; simp
   simp only [cohousingref28_Same.l0, h1, h2, h3, hc', if_true, if_false, Bool.false_eq_true, wrap_nat (show i ≤ 140737488355328 by omega)]
   have := ih (i + 1) (by omega)
   rw [show decide (∀ j, i ≤ j → j < a.length → rr a j = rr b j) = decide (∀ j, i + 1 ≤ j → j < a.length → rr a j = rr b j) from decide_eq_decide.2 ⟨fun h j h4 h5 => h j (by omega) h5, fun h j h4 h5 => by
    by_cases e : j = i
    ·subst e; exact hc
    ·exact h j (by omega) h5⟩]
   exact this
  ·have hc' : (!(((rd_T38 a (i : Int)).f0) == ((rd_T38 b (i : Int)).f0)) || (!(((rd_T38 a (i : Int)).f1) == ((rd_T38 b (i : Int)).f1)))) = true := by
    rw [Bool.or_eq_true, Bool.not_eq_true', Bool.not_eq_true', beq_eq_false_iff_ne, beq_eq_false_iff_ne]
    by_cases h4 : (rd_T38 a (i : Int)).f0 = (rd_T38 b (i : Int)).f0
    ·refine .inr (fun h5 => hc ?_)
     show rd_T38 a (i : Int) = rd_T38 b (i : Int)
     cases ha : rd_T38 a (i : Int)
     cases hb : rd_T38 b (i : Int)
     rw [ha, hb] at h4 h5
     simp only at h4 h5
     rw [h4, h5]
    ·exact .inl h4
   simp only [cohousingref28_Same.l0, h1, h2, h3, hc', if_true]
   rw [decide_eq_false (fun h => hc (h i (Nat.le_refl _) (by omega)))]
   exact Ev.pure _
theorem rr_ext {a b : List RG} (hl : a.length = b.length) (h : ∀ j, j < a.length → rr a j = rr b j) : a = b := by
 apply List.ext_getElem hl
 intro i h1 h2
 have := h i h1
 simp only [rr, rd_T38, Int.toNat_natCast, List.getD_eq_getElem?_getD, List.getElem?_eq_getElem h1, List.getElem?_eq_getElem h2, Option.getD_some] at this
 exact this
theorem same_f (a b : List RG) (hB : a.length ≤ 140737488355328) : Ev (fun k => cohousingref28_Same.f k a b) (decide (a = b)) := by
 unfold cohousingref28_Same.f
 by_cases hl : a.length = b.length
 ·have h1 : (a.length : Int) = (b.length : Int) := by omega
  simp only [h1, if_true]
  have := same_l0 a b hB hl a.length 0 (by omega)
  rw [show decide (a = b) = decide (∀ j, 0 ≤ j → j < a.length → rr a j = rr b j) from decide_eq_decide.2 ⟨fun h j _ _ => by rw [h], fun h => rr_ext hl (fun j hj => h j (Nat.zero_le _) hj)⟩]
  exact this
 ·have h1 : ¬ (a.length : Int) = (b.length : Int) := by omega
  simp only [h1, if_false]
  rw [decide_eq_false (fun h => hl (by rw [h]))]
  exact Ev.pure _
end Go.Proofs.Ytbgchacafglcpaa.P
end
section
namespace Go.Proofs.Ytbgchacafglcpaa.P
open Go.RowKit Go.Proofs.YtbgchacafglcpaaW.PrintWords Go.Proofs.YtbgchacafglcpaaW.PrintLast Go.Proofs.YtbgchacafglcpaaW.PrintMore Go.Proofs.YtbgchacafglcpaaH Go.Proofs.FlowTree
open Classical
def lo9 (r : List RG) (j : Nat) : Int := (rr r j).f0
def hi9 (r : List RG) (j : Nat) : Int := (rr r j).f1
theorem mx_max (a b : Int) : mx a b = max a b := by unfold mx; split <;> omega
theorem mn_min (a b : Int) : mn a b = min a b := by unfold mn; split <;> omega
section
variable (l : List PI) (r : List RG) (i : Nat)
def sL : Int := sm (lo9 r) (kidsAt l l.length i)
def sH : Int := sm (hi9 r) (kidsAt l l.length i)
def ownA : Int := max (lo9 r i) (sL l r i)
def ownB : Int := min (hi9 r i) (sH l r i + loP l i)
def eqAt (j : Nat) : RG :=
 if j = i then ⟨ownA l r i, ownB l r i⟩ else
 if i < j ∧ abP l j = idP l i then ⟨max (lo9 r j) (ownA l r i - loP l i - (sH l r i - hi9 r j)), min (hi9 r j) (ownB l r i - (sL l r i - lo9 r j))⟩ else rr r j
end
theorem take_sm (f : Nat → Int) (ks : List Nat) (x : Nat) (h : x < ks.length) : sm f (ks.take (x + 1)) = sm f (ks.take x) + f ks[x] := by
 rw [List.take_succ_eq_append_getElem h, sm_append, sm_cons, sm_nil]; omega
theorem rd_ofNat (ks : List Nat) (x : Nat) (h : x < ks.length) : rd (ks.map Int.ofNat) (x : Int) = (ks[x] : Int) := by
 simp [rd, List.getD_eq_getElem?_getD, h]
theorem sm_take_le {f : Nat → Int} {ks : List Nat} {B : Int} (h : ∀ k ∈ ks, 0 ≤ f k ∧ f k ≤ B) (x : Nat) : 0 ≤ sm f (ks.take x) ∧ sm f (ks.take x) ≤ sm f ks := by
 have h1 : 0 ≤ sm f (ks.take x) := sm_nonneg (fun k hk => (h k (List.mem_of_mem_take hk)).1)
 have h2 : 0 ≤ sm f (ks.drop x) := sm_nonneg (fun k hk => (h k (List.mem_of_mem_drop hk)).1)
 have h3 : sm f ks = sm f (ks.take x) + sm f (ks.drop x) := by rw [← sm_append, List.take_append_drop]
 omega
section
variable {l : List PI} {r : List RG} {i : Nat}
theorem sums_bound (hn : l.length ≤ 200) (hv : Vol l.length (lo9 r) (hi9 r)) : (0 ≤ sL l r i ∧ sL l r i ≤ 200000000000) ∧ (0 ≤ sH l r i ∧ sH l r i ≤ 200000000000) := by
 have hk : ∀ k ∈ kidsAt l l.length i, k < l.length := fun k hk => (kidsAt_mem.1 hk).1
 have bL := sm_bound (f := lo9 r) (ks := kidsAt l l.length i) (a := 0) (b := 1000000000) (fun k hk' => by have := hv k (hk k hk'); omega)
 have bH := sm_bound (f := hi9 r) (ks := kidsAt l l.length i) (a := 0) (b := 1000000000) (fun k hk' => by have := hv k (hk k hk'); omega)
 have bl := kids_len l i
 unfold sL sH
 omega
set_option maxHeartbeats 1000000 in
theorem eq_l1 (hok : okL l) (hn : l.length ≤ 200) (hr : r.length = l.length) (hv : Vol l.length (lo9 r) (hi9 r)) (hi : i < l.length) : ∀ (d x : Nat) (acc : List RG), x + d = l.length → acc.length = x →
  Ev (fun k => cohousingref28_equation.l1 k l r (i : Int) (sL l r i) (sH l r i) acc (x : Int) (ownA l r i) (ownB l r i)) (acc ++ (List.range' x d).map (eqAt l r i)) := by
 intro d
 have hb := sums_bound (i := i) hn hv
 have hvi := hv i hi
 have hlo := (hok i hi).2.2.1
 have hoA : 0 ≤ ownA l r i ∧ ownA l r i ≤ 200000000000 := by unfold ownA; omega
 have hoB : 0 ≤ ownB l r i ∧ ownB l r i ≤ 1000000000 := by unfold ownB; omega
 induction d with
 | zero =>
  intro x acc hx _
  have h1 : ¬ ((x : Int) < (r.length : Int)) := by omega
  refine Ev.step ?_
  simp only [cohousingref28_equation.l1, h1, if_false, List.range'_zero, List.map_nil, List.append_nil]
  exact Ev.pure _
 | succ d ih =>
  intro x acc hx ha
  have h1 : ((x : Int) < (r.length : Int)) := by omega
  have h2 : (0 : Int) ≤ (x : Int) := by omega
  have h3 : ((x : Int) < (l.length : Int)) := by omega
  have h4 : (0 : Int) ≤ (i : Int) := by omega
  have h5 : ((i : Int) < (l.length : Int)) := by omega
  have h6 : acc.length < 8796093022208 := by omega
  have hw := wrap_nat (show x ≤ 140737488355328 by omega)
  have key : Ev (fun k => cohousingref28_equation.l1 k l r (i : Int) (sL l r i) (sH l r i) (acc ++ [eqAt l r i x]) ((x + 1 : Nat) : Int) (ownA l r i) (ownB l r i)) (acc ++ (List.range' x (d + 1)).map (eqAt l r i)) := by
   have := ih (x + 1) (acc ++ [eqAt l r i x]) (by omega) (by simp; omega)
   rw [List.append_assoc] at this
   rw [List.range'_succ, List.map_cons]
   exact this
  refine Ev.step ?_
  simp only [cohousingref28_equation.l1, h1, h2, h3, h4, h5, h6, if_true, hw]
  by_cases hxi : x = i
  ·have c1 : (x : Int) = (i : Int) := by rw [hxi]
   have c2 : ¬ ((i : Int) > (i : Int)) := Int.lt_irrefl _
   simp only [c1, c2, if_true, if_false]
   have e : eqAt l r i x = ⟨ownA l r i, ownB l r i⟩ := by unfold eqAt; rw [if_pos hxi]
   rw [e] at key
   exact key
  ·have c1 : ¬ (x : Int) = (i : Int) := fun h => hxi (Int.ofNat_inj.1 h)
   simp only [c1, if_false]
   by_cases hlt : i < x
   ·have c2 : ((x : Int) > (i : Int)) := Int.ofNat_lt.2 hlt
    simp only [c2, if_true]
    by_cases hab : (rd_T63 l (x : Int)).f1 = (rd_T63 l (i : Int)).f0
    ·simp only [hab, if_true, cohousingref28_narrow.f, Option.bind_some]
     have hvx := hv x (by omega)
     have e : eqAt l r i x = ⟨mx (rd_T38 r (x : Int)).f0 (wrap64 (wrap64 (ownA l r i - (rd_T63 l (i : Int)).f2) - wrap64 (sH l r i - (rd_T38 r (x : Int)).f1))), mn (rd_T38 r (x : Int)).f1 (wrap64 (ownB l r i - wrap64 (sL l r i - (rd_T38 r (x : Int)).f0)))⟩ := by
      unfold eqAt
      rw [if_neg hxi, if_pos ⟨hlt, hab⟩, mx_max, mn_min]
      have w1 : (rd_T38 r (x : Int)).f0 = lo9 r x := rfl
      have w2 : (rd_T38 r (x : Int)).f1 = hi9 r x := rfl
      have w3 : (rd_T63 l (i : Int)).f2 = loP l i := rfl
      rw [w1, w2, w3, wrap_id (n := ownA l r i - loP l i) (by omega) (by omega), wrap_id (n := sH l r i - hi9 r x) (by omega) (by omega), wrap_id (n := sL l r i - lo9 r x) (by omega) (by omega), wrap_id (by omega) (by omega), wrap_id (by omega) (by omega)]
     rw [e] at key
     exact key
    ·simp only [hab, if_false]
     have e : eqAt l r i x = ⟨(rd_T38 r (x : Int)).f0, (rd_T38 r (x : Int)).f1⟩ := by
      unfold eqAt
      rw [if_neg hxi, if_neg (fun h => hab h.2)]
     rw [e] at key
     exact key
   ·have c2 : ¬ ((x : Int) > (i : Int)) := fun h => hlt (Int.ofNat_lt.1 h)
    simp only [c2, if_false]
    have e : eqAt l r i x = ⟨(rd_T38 r (x : Int)).f0, (rd_T38 r (x : Int)).f1⟩ := by
     unfold eqAt
     rw [if_neg hxi, if_neg (fun h => hlt h.1)]
    rw [e] at key
    exact key
theorem eq_l0 (hok : okL l) (hn : l.length ≤ 200) (hr : r.length = l.length) (hv : Vol l.length (lo9 r) (hi9 r)) (hi : i < l.length) : ∀ (d x : Nat), x + d = (kidsAt l l.length i).length →
  Ev (fun k => cohousingref28_equation.l0 k l r (i : Int) ((kidsAt l l.length i).map Int.ofNat) (sm (lo9 r) ((kidsAt l l.length i).take x)) (sm (hi9 r) ((kidsAt l l.length i).take x)) (x : Int)) ((List.range l.length).map (eqAt l r i)) := by
 intro d
 have hb := sums_bound (i := i) hn hv
 have hvi := hv i hi
 have hlo := (hok i hi).2.2.1
 have hkl := kids_len l i
 have hkm : ∀ k ∈ kidsAt l l.length i, k < l.length := fun k hk => (kidsAt_mem.1 hk).1
 induction d with
 | zero =>
  intro x hx
  have h1 : ¬ ((x : Int) < (((kidsAt l l.length i).map Int.ofNat).length : Int)) := by rw [List.length_map]; omega
  have h2 : (0 : Int) ≤ (i : Int) := by omega
  have h3 : ((i : Int) < (r.length : Int)) := by omega
  have h4 : ((i : Int) < (l.length : Int)) := by omega
  refine Ev.step ?_
  rw [List.take_of_length_le (by omega)]
  simp only [cohousingref28_equation.l0, h1, h2, h3, h4, if_true, if_false, cohousingref28_narrow.f, Option.bind_some]
  have e1 : mx (rd_T38 r (i : Int)).f0 (sm (lo9 r) (kidsAt l l.length i)) = ownA l r i := by rw [mx_max]; rfl
  have e2 : mn (rd_T38 r (i : Int)).f1 (wrap64 (sm (hi9 r) (kidsAt l l.length i) + (rd_T63 l (i : Int)).f2)) = ownB l r i := by
   rw [mn_min]
   have w1 : (rd_T63 l (i : Int)).f2 = loP l i := rfl
   have w2 : sm (hi9 r) (kidsAt l l.length i) = sH l r i := rfl
   rw [w1, w2, wrap_id (by omega) (by omega)]
   rfl
  rw [e1, e2]
  have := eq_l1 hok hn hr hv hi l.length 0 [] (by omega) rfl
  rw [List.nil_append, ← List.range_eq_range'] at this
  exact this
 | succ d ih =>
  intro x hx
  have hxl : x < (kidsAt l l.length i).length := by omega
  have h1 : ((x : Int) < (((kidsAt l l.length i).map Int.ofNat).length : Int)) := by rw [List.length_map]; omega
  have h2 : (0 : Int) ≤ (x : Int) := by omega
  have hk := hkm _ (List.getElem_mem hxl)
  have h3 : (0 : Int) ≤ (((kidsAt l l.length i)[x] : Nat) : Int) := by omega
  have h4 : ((((kidsAt l l.length i)[x] : Nat) : Int) < (r.length : Int)) := by omega
  have hvk := hv _ hk
  have t1 := sm_take_le (f := lo9 r) (ks := kidsAt l l.length i) (B := 1000000000) (fun k hk' => by have := hv k (hkm k hk'); omega) (x + 1)
  have t2 := sm_take_le (f := hi9 r) (ks := kidsAt l l.length i) (B := 1000000000) (fun k hk' => by have := hv k (hkm k hk'); omega) (x + 1)
  have hb1 : sm (lo9 r) (kidsAt l l.length i) ≤ 200000000000 := hb.1.2
  have hb2 : sm (hi9 r) (kidsAt l l.length i) ≤ 200000000000 := hb.2.2
  refine Ev.step ?_
  simp only [cohousingref28_equation.l0, h1, h2, if_true, rd_ofNat _ _ hxl, h3, h4, wrap_nat (show x ≤ 140737488355328 by omega)]
  have e1 : wrap64 (sm (lo9 r) ((kidsAt l l.length i).take x) + (rd_T38 r (((kidsAt l l.length i)[x] : Nat) : Int)).f0) = sm (lo9 r) ((kidsAt l l.length i).take (x + 1)) := by
   have w1 : (rd_T38 r (((kidsAt l l.length i)[x] : Nat) : Int)).f0 = lo9 r (kidsAt l l.length i)[x] := rfl
   rw [w1, ← take_sm _ _ _ hxl, wrap_id (by omega) (by omega)]
  have e2 : wrap64 (sm (hi9 r) ((kidsAt l l.length i).take x) + (rd_T38 r (((kidsAt l l.length i)[x] : Nat) : Int)).f1) = sm (hi9 r) ((kidsAt l l.length i).take (x + 1)) := by
   have w1 : (rd_T38 r (((kidsAt l l.length i)[x] : Nat) : Int)).f1 = hi9 r (kidsAt l l.length i)[x] := rfl
   rw [w1, ← take_sm _ _ _ hxl, wrap_id (by omega) (by omega)]
  rw [e1, e2]
  exact ih (x + 1) (by omega)
theorem eq_f (hok : okL l) (hn : l.length ≤ 200) (hr : r.length = l.length) (hv : Vol l.length (lo9 r) (hi9 r)) (hi : i < l.length) :
  Ev (fun k => cohousingref28_equation.f k l r (i : Int) ((kidsAt l l.length i).map Int.ofNat)) ((List.range l.length).map (eqAt l r i)) :=
 eq_l0 hok hn hr hv hi (kidsAt l l.length i).length 0 (by omega)
theorem rr_map (f : Nat → RG) (n j : Nat) (h : j < n) : rr ((List.range n).map f) j = f j := by
 simp [rr, rd_T38, List.getD_eq_getElem?_getD, h]
end
end Go.Proofs.Ytbgchacafglcpaa.P
end
section
namespace Go.Proofs.Ytbgchacafglcpaa.P
open Go.RowKit Go.Proofs.YtbgchacafglcpaaW.PrintWords Go.Proofs.YtbgchacafglcpaaW.PrintLast Go.Proofs.YtbgchacafglcpaaW.PrintMore Go.Proofs.YtbgchacafglcpaaH Go.Proofs.FlowTree
open Classical
section
variable {l : List PI}
def Done (l : List PI) (r : List RG) (p : Nat) : Prop := kidsAt l l.length p ≠ [] → (sL l r p ≤ lo9 r p ∧ hi9 r p ≤ sH l r p + loP l p) ∧
 ∀ k ∈ kidsAt l l.length p, lo9 r p - loP l p - (sH l r p - hi9 r k) ≤ lo9 r k ∧ hi9 r k ≤ hi9 r p - (sL l r p - lo9 r k)
structure Narrow (l : List PI) (r e : List RG) : Prop where
 len : e.length = l.length
 rng : ∀ j, j < l.length → lo9 r j ≤ lo9 e j ∧ hi9 e j ≤ hi9 r j
 sol : ∀ x, Sol (netT l) (lo9 r) (hi9 r) x → Sol (netT l) (lo9 e) (hi9 e) x
theorem Narrow.refl {r : List RG} (h : r.length = l.length) : Narrow l r r := ⟨h, fun _ _ => ⟨Int.le_refl _, Int.le_refl _⟩, fun _ hx => hx⟩
theorem Narrow.trans {r e f : List RG} (h : Narrow l r e) (h' : Narrow l e f) : Narrow l r f :=
 ⟨h'.len, fun j hj => by have := h.rng j hj; have := h'.rng j hj; omega, fun x hx => h'.sol x (h.sol x hx)⟩
def Dead (l : List PI) (e : List RG) : Prop := ∃ j, j < l.length ∧ hi9 e j < lo9 e j
theorem vol_not_dead {e : List RG} (h : Vol l.length (lo9 e) (hi9 e)) : ¬ Dead l e := fun ⟨j, hj, hd⟩ => by have := h j hj; omega
theorem dead_no_sol {e : List RG} (h : Dead l e) : ¬ ∃ x, Sol (netT l) (lo9 e) (hi9 e) x := fun ⟨x, hx⟩ => by
 obtain ⟨j, hj, hd⟩ := h
 have := hx.1 j hj
 omega
theorem eq_step (hok : okL l) (hn : l.length ≤ 200) {r : List RG} (hr : r.length = l.length) (hv : Vol l.length (lo9 r) (hi9 r)) {i : Nat} (hi : i < l.length) (hne : kidsAt l l.length i ≠ []) :
  Narrow l r ((List.range l.length).map (eqAt l r i)) ∧ (Dead l ((List.range l.length).map (eqAt l r i)) ∨ Vol l.length (lo9 ((List.range l.length).map (eqAt l r i))) (hi9 ((List.range l.length).map (eqAt l r i)))) ∧
   (((List.range l.length).map (eqAt l r i)) = r → Done l r i) := by
 have hT := netT_ok hok
 have hvi := hv i hi
 have hlo := (hok i hi).2.2.1
 have hat : ∀ j, j < l.length → rr ((List.range l.length).map (eqAt l r i)) j = eqAt l r i j := fun j hj => rr_map _ _ j hj
 obtain ⟨e, he⟩ : ∃ e, e = (List.range l.length).map (eqAt l r i) := ⟨_, rfl⟩
 rw [← he] at hat ⊢
 have hlen : e.length = l.length := by rw [he, List.length_map, List.length_range]
 have hkid : ∀ k ∈ kidsAt l l.length i, i < k ∧ k < l.length := fun k hk' => hT.lt i k hk'
 have hkid' : ∀ k, k < l.length → (i < k ∧ abP l k = idP l i) → k ∈ kidsAt l l.length i := fun k hk h => kidsAt_mem.2 ⟨hk, h.1, h.2⟩
 have hown : lo9 e i = ownA l r i ∧ hi9 e i = ownB l r i := by
  have := hat i hi
  unfold eqAt at this
  rw [if_pos rfl] at this
  exact ⟨by unfold lo9; rw [this], by unfold hi9; rw [this]⟩
 have hk : ∀ k ∈ kidsAt l l.length i, lo9 e k = max (lo9 r k) (ownA l r i - loP l i - (sH l r i - hi9 r k)) ∧ hi9 e k = min (hi9 r k) (ownB l r i - (sL l r i - lo9 r k)) := by
  intro k hk'
  have hm := kidsAt_mem.1 hk'
  have := hat k (hkid k hk').2
  unfold eqAt at this
  rw [if_neg (by omega), if_pos ⟨hm.2.1, hm.2.2⟩] at this
  exact ⟨by unfold lo9; rw [this]; rfl, by unfold hi9; rw [this]; rfl⟩
 have hsame : ∀ j, j < l.length → j ≠ i → j ∉ kidsAt l l.length i → lo9 e j = lo9 r j ∧ hi9 e j = hi9 r j := by
  intro j hj h1 h2
  have := hat j hj
  unfold eqAt at this
  rw [if_neg h1, if_neg (fun h => h2 (hkid' j hj h))] at this
  exact ⟨by unfold lo9; rw [this], by unfold hi9; rw [this]⟩
 have hsplit : ∀ k ∈ kidsAt l l.length i, ∃ a b, sL l r i = lo9 r k + sm (lo9 r) (a ++ b) ∧ sH l r i = hi9 r k + sm (hi9 r) (a ++ b) ∧ (∀ x, sm x (kidsAt l l.length i) = x k + sm x (a ++ b)) ∧ (∀ q ∈ a ++ b, q ∈ kidsAt l l.length i) := by
  intro k hk'
  obtain ⟨a, b, hab, _⟩ := sm_split (lo9 r) hk'
  have hx : ∀ x : Nat → Int, sm x (kidsAt l l.length i) = x k + sm x (a ++ b) := fun x => by rw [hab, sm_append, sm_append, sm_cons]; omega
  refine ⟨a, b, hx _, hx _, hx, fun q hq => ?_⟩
  rw [hab]
  rcases List.mem_append.1 hq with h' | h'
  ·exact List.mem_append.2 (.inl h')
  ·exact List.mem_append.2 (.inr (List.mem_cons_of_mem _ h'))
 have hnar : Narrow l r e := by
  refine ⟨hlen, fun j hj => ?_, fun x hx => ⟨fun j hj => ?_, hx.2⟩⟩
  ·by_cases h1 : j = i
   ·subst h1
    rw [hown.1, hown.2]
    unfold ownA ownB
    omega
   ·by_cases h2 : j ∈ kidsAt l l.length i
    ·have := hk j h2; omega
    ·have := hsame j hj h1 h2; omega
  ·have hxj := hx.1 j hj
   have hxi := hx.1 i hi
   have h4 := hx.2 i hi hne
   simp only [netT] at h4
   have l1 : sL l r i ≤ sm x (kidsAt l l.length i) := sm_le (fun q hq => (hx.1 q (hkid q hq).2).1)
   have l2 : sm x (kidsAt l l.length i) ≤ sH l r i := sm_le (fun q hq => (hx.1 q (hkid q hq).2).2)
   have ho : ownA l r i ≤ x i ∧ x i ≤ ownB l r i := by unfold ownA ownB; omega
   by_cases h1 : j = i
   ·subst h1
    rw [hown.1, hown.2]
    exact ho
   ·by_cases h2 : j ∈ kidsAt l l.length i
    ·obtain ⟨a, b, e1, e2, e3, hq⟩ := hsplit j h2
     have e4 := e3 x
     have m1 : sm (lo9 r) (a ++ b) ≤ sm x (a ++ b) := sm_le (fun q h => (hx.1 q (hkid q (hq q h)).2).1)
     have m2 : sm x (a ++ b) ≤ sm (hi9 r) (a ++ b) := sm_le (fun q h => (hx.1 q (hkid q (hq q h)).2).2)
     have := hk j h2
     omega
    ·have := hsame j hj h1 h2; omega
 refine ⟨hnar, ?_, fun hee => ?_⟩
 ·by_cases hd : ownA l r i ≤ ownB l r i
  ·refine .inr (fun j hj => ?_)
   have hvj := hv j hj
   have hoA : lo9 r i ≤ ownA l r i ∧ sL l r i ≤ ownA l r i := by unfold ownA; omega
   have hoB : ownB l r i ≤ hi9 r i ∧ ownB l r i ≤ sH l r i + loP l i := by unfold ownB; omega
   by_cases h1 : j = i
   ·subst h1
    rw [hown.1, hown.2]
    omega
   ·by_cases h2 : j ∈ kidsAt l l.length i
    ·obtain ⟨a, b, e1, e2, e3, hq⟩ := hsplit j h2
     have m1 : sm (lo9 r) (a ++ b) ≤ sm (hi9 r) (a ++ b) := sm_le (fun q h => (hv q (hkid q (hq q h)).2).2.1)
     have := hk j h2
     omega
    ·have := hsame j hj h1 h2; omega
  ·exact .inl ⟨i, hi, by rw [hown.1, hown.2]; omega⟩
 ·intro _
  have h1 : lo9 r i = ownA l r i ∧ hi9 r i = ownB l r i := by rw [← hown.1, ← hown.2, hee]; exact ⟨rfl, rfl⟩
  refine ⟨?_, fun k hk' => ?_⟩
  ·unfold ownA ownB at h1
   omega
  ·have h2 := hk k hk'
   rw [hee] at h2
   omega
structure OnceAt (l : List PI) (r : List RG) (m : Nat) (e : List RG) : Prop where
 nar : Narrow l r e
 now : Dead l e ∨ Vol l.length (lo9 e) (hi9 e)
 fix : Vol l.length (lo9 e) (hi9 e) → e = r → ∀ p, p < m → Done l r p
theorem nil_len (l : List PI) (p : Nat) (h : kidsAt l l.length p = []) : ∀ r, Done l r p := fun _ hc => absurd h hc
theorem once_dead (hn : l.length ≤ 200) {r : List RG} (hr : r.length = l.length) (hd : Dead l r) : ∀ m, m ≤ l.length → Ev (fun k => cohousingref28_once.l0 k l r ((m : Int) - 1)) r := by
 intro m
 induction m with
 | zero =>
  intro _
  have h1 : ¬ (((0 : Nat) : Int) - 1 ≥ 0) := by omega
  refine Ev.step ?_
  simp only [cohousingref28_once.l0, h1, if_false]
  exact Ev.pure _
 | succ m ih =>
  intro hm
  have e : ((m + 1 : Nat) : Int) - 1 = (m : Int) := by omega
  have h1 : ((m : Int) ≥ 0) := by omega
  have e2 : wrap64 ((m : Int) - 1) = (m : Int) - 1 := wrap_id (by omega) (by omega)
  rw [e]
  refine Ev.step ?_
  simp only [cohousingref28_once.l0, h1, if_true, e2]
  refine Ev.bnd (below_f' l hn m (by omega)) ?_
  have hem := empty_f r (by omega)
  rw [decide_eq_true (show ∃ j, j < r.length ∧ (rr r j).f1 < (rr r j).f0 from by
   obtain ⟨j, hj, h⟩ := hd
   exact ⟨j, by omega, h⟩)] at hem
  by_cases hc : (((kidsAt l l.length m).map Int.ofNat).length : Int) > 0
  ·simp only [hc, if_true]
   refine Ev.bnd hem ?_
   simp only [if_true]
   exact ih (by omega)
  ·simp only [hc, if_false]
   exact ih (by omega)
theorem once_l0 (hok : okL l) (hn : l.length ≤ 200) : ∀ m, m ≤ l.length → ∀ r : List RG, r.length = l.length → Vol l.length (lo9 r) (hi9 r) → ∃ e, Ev (fun k => cohousingref28_once.l0 k l r ((m : Int) - 1)) e ∧ OnceAt l r m e := by
 intro m
 induction m with
 | zero =>
  intro _ r hr hv
  refine ⟨r, ?_, ⟨Narrow.refl hr, .inr hv, fun _ _ p hp => absurd hp (Nat.not_lt_zero _)⟩⟩
  have h1 : ¬ (((0 : Nat) : Int) - 1 ≥ 0) := by omega
  refine Ev.step ?_
  simp only [cohousingref28_once.l0, h1, if_false]
  exact Ev.pure _
 | succ m ih =>
  intro hm r hr hv
  have e : ((m + 1 : Nat) : Int) - 1 = (m : Int) := by omega
  have h1 : ((m : Int) ≥ 0) := by omega
  have e2 : wrap64 ((m : Int) - 1) = (m : Int) - 1 := wrap_id (by omega) (by omega)
  have hem := empty_f r (by omega)
  rw [decide_eq_false (show ¬ ∃ j, j < r.length ∧ (rr r j).f1 < (rr r j).f0 from by
   rintro ⟨j, hj, h⟩
   exact vol_not_dead hv ⟨j, by omega, h⟩)] at hem
  rw [e]
  by_cases hne : kidsAt l l.length m = []
  ·obtain ⟨e', he', ho⟩ := ih (by omega) r hr hv
   refine ⟨e', Ev.step ?_, ⟨ho.nar, ho.now, fun hv' hee p hp => ?_⟩⟩
   ·simp only [cohousingref28_once.l0, h1, if_true, e2]
    refine Ev.bnd (below_f' l hn m (by omega)) ?_
    have hc : ¬ (((kidsAt l l.length m).map Int.ofNat).length : Int) > 0 := by rw [hne]; simp
    simp only [hc, if_false]
    exact he'
   ·by_cases h' : p < m
    ·exact ho.fix hv' hee p h'
    ·rw [show p = m by omega]; exact nil_len l m hne r
  ·have hst := eq_step hok hn hr hv (i := m) (by omega) hne
   obtain ⟨q, hq⟩ : ∃ q, q = (List.range l.length).map (eqAt l r m) := ⟨_, rfl⟩
   rw [← hq] at hst
   have hqf := eq_f hok hn hr hv (i := m) (by omega)
   rw [← hq] at hqf
   have hrest : ∃ e', Ev (fun k => cohousingref28_once.l0 k l q ((m : Int) - 1)) e' ∧ OnceAt l q m e' := by
    rcases hst.2.1 with hd | hv'
    ·exact ⟨q, once_dead hn hst.1.len hd m (by omega), Narrow.refl hst.1.len, .inl hd, fun hv2 _ => absurd hd (vol_not_dead hv2)⟩
    ·exact ih (by omega) q hst.1.len hv'
   obtain ⟨e', he', ho⟩ := hrest
   refine ⟨e', Ev.step ?_, ⟨hst.1.trans ho.nar, ho.now, fun hv' hee p hp => ?_⟩⟩
   ·simp only [cohousingref28_once.l0, h1, if_true, e2]
    refine Ev.bnd (below_f' l hn m (by omega)) ?_
    have hc : (((kidsAt l l.length m).map Int.ofNat).length : Int) > 0 := by
     have := List.length_pos_iff.2 hne
     rw [List.length_map]; omega
    simp only [hc, if_true]
    refine Ev.bnd hem ?_
    simp only [Bool.false_eq_true, if_false]
    exact Ev.bnd hqf he'
   ·have hqr : q = r := by
     apply rr_ext (by rw [hst.1.len, hr])
     intro j hj
     rw [hst.1.len] at hj
     have a1 := hst.1.rng j hj
     have a2 := ho.nar.rng j hj
     rw [hee] at a2
     have b1 : lo9 q j = lo9 r j := by omega
     have b2 : hi9 q j = hi9 r j := by omega
     unfold lo9 at b1
     unfold hi9 at b2
     cases h1 : rr q j
     cases h2 : rr r j
     rw [h1, h2] at b1 b2
     simp only at b1 b2
     rw [b1, b2]
    by_cases h' : p < m
    ·have := ho.fix hv' (hee.trans hqr.symm) p h'
     rw [hqr] at this
     exact this
    ·rw [show p = m by omega]
     exact hst.2.2 hqr
theorem once_f (hok : okL l) (hn : l.length ≤ 200) (r : List RG) (hr : r.length = l.length) (hv : Vol l.length (lo9 r) (hi9 r)) : ∃ e, Ev (fun k => cohousingref28_once.f k l r) e ∧ OnceAt l r l.length e := by
 obtain ⟨e, he, ho⟩ := once_l0 hok hn l.length (Nat.le_refl _) r hr hv
 refine ⟨e, ?_, ho⟩
 unfold cohousingref28_once.f
 rw [wrap_id (by omega) (by omega)]
 exact he
def wide (n : Nat) (e : List RG) : Nat := (List.range n).foldl (fun s j => s + (hi9 e j - lo9 e j).toNat) 0
theorem wide_succ (n : Nat) (e : List RG) : wide (n + 1) e = wide n e + (hi9 e n - lo9 e n).toNat := by
 unfold wide
 rw [List.range_succ, List.foldl_append]
 rfl
theorem wide_le (r e : List RG) : ∀ n, (∀ j, j < n → lo9 r j ≤ lo9 e j ∧ hi9 e j ≤ hi9 r j) → wide n e ≤ wide n r := by
 intro n
 induction n with
 | zero => intro _; exact Nat.le_refl _
 | succ n ih =>
  intro h
  rw [wide_succ, wide_succ]
  have h1 := ih (fun j hj => h j (by omega))
  have h2 := h n (by omega)
  omega
theorem wide_lt (r e : List RG) : ∀ n, (∀ j, j < n → lo9 r j ≤ lo9 e j ∧ hi9 e j ≤ hi9 r j ∧ lo9 e j ≤ hi9 e j) → (∃ j, j < n ∧ (lo9 r j ≠ lo9 e j ∨ hi9 r j ≠ hi9 e j)) → wide n e < wide n r := by
 intro n
 induction n with
 | zero => rintro _ ⟨j, hj, _⟩; omega
 | succ n ih =>
  rintro h ⟨j, hj, hd⟩
  rw [wide_succ, wide_succ]
  have h2 := h n (by omega)
  by_cases hjn : j < n
  ·have h1 := ih (fun j hj => h j (by omega)) ⟨j, hjn, hd⟩
   omega
  ·have e1 : j = n := by omega
   subst e1
   have h1 := wide_le r e j (fun j hj => by have := h j (by omega); omega)
   omega
theorem bounds_l0 (hok : okL l) (hn : l.length ≤ 200) : ∀ (μ : Nat) (r : List RG), wide l.length r = μ → r.length = l.length → Vol l.length (lo9 r) (hi9 r) →
  (Ev (fun k => cohousingref28_bounds.l0 k l r) ([], false) ∧ ¬ ∃ x, Sol (netT l) (lo9 r) (hi9 r) x) ∨
  (∃ d, Ev (fun k => cohousingref28_bounds.l0 k l r) (d, true) ∧ Narrow l r d ∧ Vol l.length (lo9 d) (hi9 d) ∧ ∀ p, p < l.length → Done l d p) := by
 intro μ
 induction μ using Nat.strongRecOn with
 | ind μ ih =>
  intro r hμ hr hv
  obtain ⟨e, he, ho⟩ := once_f hok hn r hr hv
  have hem := empty_f e (by have := ho.nar.len; omega)
  have hsf := same_f e r (by have := ho.nar.len; omega)
  rcases ho.now with hd | hv'
  ·refine .inl ⟨Ev.step ?_, fun ⟨x, hx⟩ => dead_no_sol hd ⟨x, ho.nar.sol x hx⟩⟩
   rw [decide_eq_true (show ∃ j, j < e.length ∧ (rr e j).f1 < (rr e j).f0 from by
    obtain ⟨j, hj, h⟩ := hd
    exact ⟨j, by rw [ho.nar.len]; exact hj, h⟩)] at hem
   simp only [cohousingref28_bounds.l0]
   refine Ev.bnd he (Ev.bnd hem ?_)
   simp only [if_true]
   exact Ev.pure _
  ·rw [decide_eq_false (show ¬ ∃ j, j < e.length ∧ (rr e j).f1 < (rr e j).f0 from by
    rintro ⟨j, hj, h⟩
    exact vol_not_dead hv' ⟨j, by rw [← ho.nar.len]; exact hj, h⟩)] at hem
   by_cases hee : e = r
   ·rw [decide_eq_true hee] at hsf
    refine .inr ⟨e, Ev.step ?_, ho.nar, hv', fun p hp => by rw [hee]; exact ho.fix hv' hee p hp⟩
    simp only [cohousingref28_bounds.l0]
    refine Ev.bnd he (Ev.bnd hem ?_)
    simp only [Bool.false_eq_true, if_false]
    refine Ev.bnd hsf ?_
    simp only [if_true]
    exact Ev.pure _
   ·rw [decide_eq_false hee] at hsf
    have hlt : wide l.length e < μ := by
     rw [← hμ]
     refine wide_lt r e l.length (fun j hj => by have := ho.nar.rng j hj; have := hv' j hj; omega) ?_
     by_cases hex : ∃ j, j < l.length ∧ (lo9 r j ≠ lo9 e j ∨ hi9 r j ≠ hi9 e j)
     ·exact hex
     ·refine absurd (rr_ext (by rw [ho.nar.len, hr]) (fun j hj => ?_)) hee
      rw [ho.nar.len] at hj
      have b1 : lo9 e j = lo9 r j := by
       by_cases h : lo9 r j = lo9 e j
       ·exact h.symm
       ·exact absurd ⟨j, hj, .inl h⟩ hex
      have b2 : hi9 e j = hi9 r j := by
       by_cases h : hi9 r j = hi9 e j
       ·exact h.symm
       ·exact absurd ⟨j, hj, .inr h⟩ hex
      unfold lo9 at b1
      unfold hi9 at b2
      cases h1 : rr e j
      cases h2 : rr r j
      rw [h1, h2] at b1 b2
      simp only at b1 b2
      rw [b1, b2]
    have hrest : ∀ R, Ev (fun k => cohousingref28_bounds.l0 k l e) R → Ev (fun k => cohousingref28_bounds.l0 k l r) R := fun R hR => by
     refine Ev.step ?_
     simp only [cohousingref28_bounds.l0]
     refine Ev.bnd he (Ev.bnd hem ?_)
     simp only [Bool.false_eq_true, if_false]
     refine Ev.bnd hsf ?_
     simp only [Bool.false_eq_true, if_false]
     exact hR
    rcases ih (wide l.length e) hlt e rfl ho.nar.len hv' with ⟨h1, h2⟩ | ⟨d, h1, h2, h3, h4⟩
    ·exact .inl ⟨hrest _ h1, fun ⟨x, hx⟩ => h2 ⟨x, ho.nar.sol x hx⟩⟩
    ·exact .inr ⟨d, hrest _ h1, ho.nar.trans h2, h3, h4⟩
end
end Go.Proofs.Ytbgchacafglcpaa.P
end
section
namespace Go.Proofs.Ytbgchacafglcpaa.P
open Go.RowKit Go.Proofs.YtbgchacafglcpaaW.PrintWords Go.Proofs.YtbgchacafglcpaaW.PrintLast Go.Proofs.YtbgchacafglcpaaW.PrintMore Go.Proofs.YtbgchacafglcpaaH Go.Proofs.FlowTree
open Classical
theorem Lo_map (r : List RG) : Lo (r.map toI) = lo9 r := funext (fun i => Lo_toI r i)
theorem Hi_map (r : List RG) : Hi (r.map toI) = hi9 r := funext (fun i => Hi_toI r i)
theorem rr_toR (d : List IV) (i : Nat) : rr (d.map toR) i = toR (rv d i) := by
 simp only [rv, rr, rd_T74, rd_T38, Int.toNat_natCast, List.getD_eq_getElem?_getD, List.getElem?_map]
 cases d[i]? <;> rfl
theorem belongs_iff (n : Nat) (r : List RG) : belongsB n r = true ↔ r.length = n ∧ Vol n (lo9 r) (hi9 r) := by
 unfold belongsB
 rw [Bool.and_eq_true, decide_eq_true_eq, Bool.not_eq_true', List.any_eq_false]
 constructor
 ·rintro ⟨h1, h2⟩
  refine ⟨h1, fun j hj => ?_⟩
  have hj' : j < r.length := by omega
  have := h2 r[j] (List.getElem_mem hj')
  simp only [oddR, Bool.not_eq_true, decide_eq_false_iff_not, Decidable.not_not] at this
  have e : rr r j = r[j] := by simp [rr, rd_T38, List.getD_eq_getElem?_getD, hj']
  unfold lo9 hi9
  rw [e]
  omega
 ·rintro ⟨h1, h2⟩
  refine ⟨h1, fun x hx => ?_⟩
  obtain ⟨j, hj, rfl⟩ := List.mem_iff_getElem.1 hx
  have := h2 j (by omega)
  have e : rr r j = r[j] := by simp [rr, rd_T38, List.getD_eq_getElem?_getD, hj]
  unfold lo9 hi9 at this
  rw [e] at this
  simp only [oddR, Bool.not_eq_true, decide_eq_false_iff_not, Decidable.not_not]
  omega
structure Good (l : List PI) (r : List RG) : Prop where
 ok : okL l
 n : l.length ≤ 200
 len : r.length = l.length
 vol : Vol l.length (lo9 r) (hi9 r)
theorem good_iff (l : List PI) (r : List RG) : Good l r ↔ (okL l ∧ l.length ≤ 200) ∧ belongsB l.length r = true := by
 rw [belongs_iff]
 exact ⟨fun h => ⟨⟨h.ok, h.n⟩, h.len, h.vol⟩, fun h => ⟨h.1.1, h.1.2, h.2.1, h.2.2⟩⟩
theorem netOk_some {l : List PI} (h : okL l) (hn : l.length ≤ 200) : ∃ kids, netOk l = some kids ∧ ∀ j, j < l.length → rdK kids j = (kidsAt l l.length j).map Int.ofNat := by
 obtain ⟨kids, hk⟩ := openK_of h
 exact ⟨kids, by unfold netOk; rw [if_pos hn, hk], (openK_some hk).2⟩
theorem netOk_none {l : List PI} (h : ¬ (okL l ∧ l.length ≤ 200)) : netOk l = none := by
 unfold netOk
 by_cases hn : l.length ≤ 200
 ·rw [if_pos hn]
  cases ho : openK l with
  | none => rfl
  | some kids => exact absurd ⟨(openK_some ho).1, hn⟩ h
 ·rw [if_neg hn]
theorem exact_uniq {l : List PI} {lo hi : Nat → Int} {d : List IV} (h : Exact l lo hi d) {e : List RG} (he : e.length = l.length) (hs : ∀ x, Sol (netT l) lo hi x → ∀ j, j < l.length → lo9 e j ≤ x j ∧ x j ≤ hi9 e j)
  (hv : Vol l.length (lo9 e) (hi9 e)) (hh : ∀ j, j < l.length → ∀ v, lo9 e j ≤ v → v ≤ hi9 e j → ∃ x, Sol (netT l) lo hi x ∧ x j = v) : e = d.map toR := by
 apply rr_ext (by rw [he, List.length_map, h.len])
 intro j hj
 rw [he] at hj
 have hd := h.rng j hj
 have hvj := hv j hj
 obtain ⟨x1, s1, e1⟩ := h.had j hj (Lo d j) (by omega) (by omega)
 obtain ⟨x2, s2, e2⟩ := h.had j hj (Hi d j) (by omega) (by omega)
 obtain ⟨x3, s3, e3⟩ := hh j hj (lo9 e j) (by omega) (by omega)
 obtain ⟨x4, s4, e4⟩ := hh j hj (hi9 e j) (by omega) (by omega)
 have a1 := hs x1 s1 j hj
 have a2 := hs x2 s2 j hj
 have a3 := h.sol x3 s3 j hj
 have a4 := h.sol x4 s4 j hj
 rw [rr_toR]
 have b1 : (rr e j).f0 = (rv d j).f0 := by unfold lo9 at *; unfold Lo at *; unfold hi9 at *; unfold Hi at *; omega
 have b2 : (rr e j).f1 = (rv d j).f1 := by unfold lo9 at *; unfold Lo at *; unfold hi9 at *; unfold Hi at *; omega
 unfold toR
 rw [← b1, ← b2]
section
variable {l : List PI} {kids : List (List Int)}
theorem ref_bounds (hok : okL l) (hn : l.length ≤ 200) (hk : ∀ j, j < l.length → rdK kids j = (kidsAt l l.length j).map Int.ofNat) {r : List RG} (hr : r.length = l.length) (hv : Vol l.length (lo9 r) (hi9 r)) :
  ((boundsF l kids (r.map toI)).1 = false ∧ (¬ ∃ x, Sol (netT l) (lo9 r) (hi9 r) x) ∧ Ev (fun k => cohousingref28_bounds.f k l r) ([], false)) ∨
  ((boundsF l kids (r.map toI)).1 = true ∧ Exact l (lo9 r) (hi9 r) (boundsF l kids (r.map toI)).2 ∧ Ev (fun k => cohousingref28_bounds.f k l r) ((boundsF l kids (r.map toI)).2.map toR, true)) := by
 have hb := boundsF_spec hok hn hk (r := r.map toI) (by rw [List.length_map, hr]) (by rw [Lo_map, Hi_map]; exact hv)
 rw [Lo_map, Hi_map] at hb
 have href := bounds_l0 hok hn (wide l.length r) r rfl hr hv
 rcases hb with ⟨b1, b2⟩ | ⟨b1, b2⟩
 ·refine .inl ⟨b1, b2, ?_⟩
  rcases href with ⟨h1, _⟩ | ⟨d, h1, h2, h3, h4⟩
  ·exact h1
  ·exfalso
   by_cases hz : 0 < l.length
   ·obtain ⟨x, hx, _⟩ := exact (netT l) (netT_ok hok) (lo9 d) (hi9 d) (lo9 d) (hi9 d) (fun i hi => (h3 i hi).2.1) (fun i hi hne => (h4 i hi hne).1) (fun i hi => ⟨Int.le_refl _, (h3 i hi).2.1, Int.le_refl _⟩)
     (fun i hi k hk' => (h4 i hi (fun hh => by simp only [netT] at hk'; rw [hh] at hk'; cases hk')).2 k hk') 0 hz (lo9 d 0) (Int.le_refl _) (h3 0 hz).2.1
    exact b2 ⟨x, fun i hi => by have := hx.1 i hi; have := h2.rng i hi; omega, hx.2⟩
   ·exact b2 ⟨fun _ => 0, fun i hi => absurd hi (by simp only [netT]; omega), fun i hi => absurd hi (by simp only [netT]; omega)⟩
 ·refine .inr ⟨b1, b2, ?_⟩
  rcases href with ⟨_, h2⟩ | ⟨d, h1, h2, h3, h4⟩
  ·exfalso
   by_cases hz : 0 < l.length
   ·obtain ⟨x, hx, _⟩ := b2.had 0 hz (Lo _ 0) (Int.le_refl _) (b2.rng 0 hz).2.1
    exact h2 ⟨x, hx⟩
   ·exact h2 ⟨fun _ => 0, fun i hi => absurd hi (by simp only [netT]; omega), fun i hi => absurd hi (by simp only [netT]; omega)⟩
  ·have e := exact_uniq b2 (e := d) h2.len (fun x hx => (h2.sol x hx).1) h3 (fun j hj v hv1 hv2 => by
    obtain ⟨x, hx, hxv⟩ := exact (netT l) (netT_ok hok) (lo9 d) (hi9 d) (lo9 d) (hi9 d) (fun i hi => (h3 i hi).2.1) (fun i hi hne => (h4 i hi hne).1) (fun i hi => ⟨Int.le_refl _, (h3 i hi).2.1, Int.le_refl _⟩)
     (fun i hi k hk' => (h4 i hi (fun hh => by simp only [netT] at hk'; rw [hh] at hk'; cases hk')).2 k hk') j hj v hv1 hv2
    exact ⟨x, ⟨fun i hi => by have := hx.1 i hi; have := h2.rng i hi; omega, hx.2⟩, hxv⟩)
   rw [← e]
   exact h1
end
inductive BoundsIs (l : List PI) (r : List RG) : List RG × Int → Prop
 | arg : ¬ Good l r → BoundsIs l r ([], 1)
 | flow : Good l r → (¬ ∃ x, Sol (netT l) (lo9 r) (hi9 r) x) → BoundsIs l r ([], 30)
 | ok (d : List IV) : Good l r → Exact l (lo9 r) (hi9 r) d → BoundsIs l r (d.map toR, 0)
theorem boundsR_is (l : List PI) (r : List RG) : BoundsIs l r (boundsR l r) := by
 unfold boundsR
 by_cases hg : Good l r
 ·obtain ⟨kids, h1, h2⟩ := netOk_some hg.ok hg.n
  rw [h1]
  simp only []
  rw [if_pos ((good_iff l r).1 hg).2]
  rcases ref_bounds hg.ok hg.n h2 hg.len hg.vol with ⟨b1, b2, _⟩ | ⟨b1, b2, _⟩
  ·rw [if_neg (by rw [b1]; decide)]
   exact .flow hg b2
  ·rw [if_pos b1]
   exact .ok _ hg b2
 ·have hno := fun h => hg ((good_iff l r).2 h)
  by_cases hv : okL l ∧ l.length ≤ 200
  ·obtain ⟨kids, h1, h2⟩ := netOk_some hv.1 hv.2
   rw [h1]
   simp only []
   rw [if_neg (fun h => hno ⟨hv, h⟩)]
   exact .arg hg
  ·rw [netOk_none hv]
   exact .arg hg
end Go.Proofs.Ytbgchacafglcpaa.P
end
section
namespace Go.Proofs.YtbgchacafglcpaaH
open Go.RowKit Go.ChangeShapes Go.WideShapes Go.Proofs.YtbgchacafglcpaaW.PrintWords
def Opens {α : Type} (P : Program) (d : Kd α) (t : TypeId) : Prop :=
 ∀ {H : Type} {enc : TypeId × Value → H} {w : World} {base : Nat} {spare : Nat → Bool} {held : Bool} {fuel : Nat} {cs : List Value} {x : DataW H × List MemPlace}, DataW.trod enc P w base spare held fuel t cs = some x → ∃ a : α, d.K w a cs
theorem Opens.int {P : Program} {t : TypeId} {k : IntKind} (h : P.underlying t = some (.int k)) : Opens P (Kd.int k) t := by
 intro H enc w base spare held fuel cs x hx
 obtain ⟨n, rfl, _, _⟩ := DataW.trod_int h hx
 exact ⟨n, rfl⟩
theorem Opens.iso {α β : Type} {P : Program} {d : Kd α} {t : TypeId} (f : β → α) (g : α → β) (hfg : ∀ a, f (g a) = a) (h : Opens P d t) : Opens P (Kd.iso d f) t := by
 intro H enc w base spare held fuel cs x hx
 obtain ⟨a, ha⟩ := h hx
 refine ⟨g a, ?_⟩
 show d.K w (f (g a)) cs
 rw [hfg]
 exact ha
def Segs {β : Type} (P : Program) (d : Kd β) (fs : List Field) (o z : Nat) : Prop :=
 ∀ {H : Type} {enc : TypeId × Value → H} {w : World} {base : Nat} {spare : Nat → Bool} {held : Bool} {fuel : Nat} {cs : List Value}, cs.length = z →
  (∀ f ∈ fs, ∃ x : DataW H × List MemPlace, DataW.trod enc P w base spare held fuel f.type ((cs.drop f.offset).take (P.cellsOf f.type)) = some x) → ∃ b : β, d.K w b (cs.drop o)
theorem Segs.one {α : Type} {P : Program} {d : Kd α} {f : Field} {o z : Nat} (h : Opens P d f.type) (ho : f.offset = o) (hz : z = o + P.cellsOf f.type) : Segs P d [f] o z := by
 intro H enc w base spare held fuel cs hl hf
 obtain ⟨x, hx⟩ := hf f (by simp)
 obtain ⟨a, ha⟩ := h hx
 refine ⟨a, ?_⟩
 rw [ho, List.take_of_length_le (by rw [List.length_drop]; omega)] at ha
 exact ha
theorem Segs.cons {α β : Type} {P : Program} {d : Kd α} {d' : Kd β} {f : Field} {fs : List Field} {o o' z : Nat} (h : Opens P d f.type) (ho : f.offset = o) (ho' : o' = o + P.cellsOf f.type) (hr : Segs P d' fs o' z) : Segs P (Kd.pair d d') (f :: fs) o z := by
 intro H enc w base spare held fuel cs hl hf
 obtain ⟨x, hx⟩ := hf f (by simp)
 obtain ⟨a, ha⟩ := h hx
 obtain ⟨b, hb⟩ := hr hl (fun f' h' => hf f' (List.mem_cons_of_mem _ h'))
 refine ⟨(a, b), _, _, ?_, ha, hb⟩
 rw [ho, ho', ← List.drop_drop, List.take_append_drop]
theorem Opens.struct {β : Type} {P : Program} {d : Kd β} {t : TypeId} {fs : Array Field} (h : P.underlying t = some (.struct fs)) (hr : Segs P d fs.toList 0 (P.cellsOf t)) : Opens P d t := by
 intro H enc w base spare held fuel cs x hx
 obtain ⟨xs, n, _, _, hl, hxl, hf⟩ := DataW.trod_struct h hx
 have := hr (enc := enc) (w := w) (base := base) (spare := spare) (held := held) (fuel := n) (cs := cs) hl (fun f hm => by
  obtain ⟨i, hi, rfl⟩ := List.mem_iff_getElem.1 hm
  have hi' : i < fs.size := by simpa using hi
  have h1 := hf i fs[i] (by simp [hi'])
  refine ⟨xs[i]'(by omega), ?_⟩
  rw [Array.getElem_toList]
  rw [h1]
  simp [hxl, hi'])
 rw [List.drop_zero] at this
 exact this
theorem Opens.row {α : Type} {P : Program} {d : Kd α} {t e : TypeId} (ht : P.underlying t = some (.slice e)) (hsz : P.cellsOf e = d.sz) (he : Opens P d e) {H : Type} {enc : TypeId × Value → H} {w : World} {base : Nat} {spare : Nat → Bool} {held : Bool} {fuel : Nat} {cs : List Value} {x : DataW H × List MemPlace}
  (hx : DataW.trod enc P w base spare held fuel t cs = some x) : ∃ A len cap, cs = [.slice A len cap] ∧ ∃ xs : List α, xs.length = len ∧ len ≤ cap ∧ d.C w A len xs := by
 rcases Deep.open_slice ht hx with ⟨rfl, _⟩ | ⟨a, len, cap, m, n, D, Pl, rfl, _, hl, hm, hmm, _, hel⟩
 ·exact ⟨none, 0, 0, rfl, [], rfl, Nat.le_refl _, rfl, by omega, fun h => absurd h (Nat.lt_irrefl _)⟩
 ·have hlm : len ≤ m := by rw [hmm]; split <;> omega
  have each : ∀ i, i < len → ∃ a' : α, ∃ cs', cs'.length = d.sz ∧ d.K w a' cs' ∧ ∀ j u, cs'[j]? = some u → w.cell? (a.add (i * d.sz + j)) = some u := by
   intro i hi
   obtain ⟨cs', h1, h2⟩ := hel i (by omega)
   obtain ⟨a', ha'⟩ := he h2
   obtain ⟨_, hlen, hcell⟩ := World.cells?_some h1
   refine ⟨a', cs', by omega, ha', fun j u hj => ?_⟩
   have hjl : j < cs'.length := (List.getElem?_eq_some_iff.1 hj).1
   have := hcell j (by omega)
   rw [Deep.add_add, hsz] at this
   rw [this, hj]
  obtain ⟨xs, hxs⟩ : ∃ xs : List α, xs.length = len ∧ ∀ i (h : i < xs.length), ∃ cs', cs'.length = d.sz ∧ d.K w xs[i] cs' ∧ ∀ j u, cs'[j]? = some u → w.cell? (a.add (i * d.sz + j)) = some u := by
   have key : ∀ k, k ≤ len → ∃ xs : List α, xs.length = k ∧ ∀ i (h : i < xs.length), ∃ cs', cs'.length = d.sz ∧ d.K w xs[i] cs' ∧ ∀ j u, cs'[j]? = some u → w.cell? (a.add (i * d.sz + j)) = some u := by
    intro k
    induction k with
    | zero => intro _; exact ⟨[], rfl, fun i h => absurd h (Nat.not_lt_zero _)⟩
    | succ k ih =>
     intro hk
     obtain ⟨xs, hl, hxs⟩ := ih (by omega)
     obtain ⟨a', ha'⟩ := each k (by omega)
     refine ⟨xs ++ [a'], by simp [hl], fun i h => ?_⟩
     by_cases hi : i < xs.length
     ·rw [List.getElem_append_left hi]
      exact hxs i hi
     ·have e : i = xs.length := by simp at h; omega
      subst e
      rw [List.getElem_append_right (Nat.le_refl _)]
      simp only [Nat.sub_self, List.getElem_cons_zero]
      rw [hl]
      exact ha'
   exact key len (Nat.le_refl _)
  refine ⟨some a, len, cap, rfl, xs, hxs.1, hl, hxs.1, ?_, fun _ => ⟨a, rfl, fun j p hj => ?_⟩⟩
  ·have : maxLen = 2 ^ 63 - 1 := rfl
   omega
  ·obtain ⟨hjl, rfl⟩ := List.getElem?_eq_some_iff.1 hj
   exact hxs.2 j hjl
theorem Opens.slice {α : Type} {P : Program} {d : Kd α} {t e : TypeId} (ht : P.underlying t = some (.slice e)) (hsz : P.cellsOf e = d.sz) (he : Opens P d e) : Opens P (Kd.slice e d) t := by
 intro H enc w base spare held fuel cs x hx
 obtain ⟨A, len, cap, rfl, xs, rfl, hl, hC⟩ := Opens.row ht hsz he hx
 exact ⟨xs, A, cap, rfl, hl, hC⟩
theorem open_arg {α : Type} {P : Program} {d : Kd α} {t e : TypeId} (ht : P.underlying t = some (.slice e)) (hsz : P.cellsOf e = d.sz) (he : Opens P d e) {H : Type} {enc : TypeId × Value → H} {w : World} {base : Nat} {spare : Nat → Bool} {held : Bool} {A : Option Addr} {len cap : Nat} {x : DataW H} {ps : List MemPlace}
  (hx : DataW.Trod enc P w base spare held t (.slice A len cap) x ps) : ∃ xs : List α, xs.length = len ∧ len ≤ cap ∧ d.C w A len xs := by
 obtain ⟨fuel, hf⟩ := hx
 obtain ⟨A', len', cap', e1, r⟩ := Opens.row ht hsz he hf
 simp [Value.cells] at e1
 obtain ⟨rfl, rfl, rfl⟩ := e1
 exact r
theorem sized_arg {H : Type} {enc : TypeId × Value → H} {P : Program} {W : World} {base : Nat} {spare : Nat → Bool} {held : Bool} {t e : TypeId} {a : Option Addr} {len cap : Nat} {d : DataW H} {ps : List MemPlace} {ts : List TypeId} {ds : List (DataW H)} {j : Nat}
  (hsz : (DataW.weightsEach P ts ds).all (· ≤ reachBytes) = true) (ht : ts[j]? = some t) (hd : ds[j]? = some d) (hu : P.underlying t = some (.slice e)) {B : Nat} (hB : P.bytesOf e = B)
  (h : DataW.Trod enc P W base spare held t (.slice a len cap) d ps) : len * B ≤ 140737488351232 := by
 obtain ⟨fuel, hf⟩ := h
 rcases Deep.open_slice hu hf with ⟨hcs, _⟩ | ⟨x, l, c, m, n, D, Pl, hcs, _, hl, _, hm, hx, _⟩
 ·simp [Value.cells] at hcs
  obtain ⟨rfl, rfl, rfl⟩ := hcs
  simp
 ·simp [Value.cells] at hcs
  obtain ⟨rfl, rfl, rfl⟩ := hcs
  obtain ⟨hx, _⟩ := Prod.mk.inj hx
  subst hx
  have z := sized_slice hsz ht hd hu
  rw [hB] at z
  simp only [List.length_map, List.length_range] at z
  exact Nat.le_trans (Nat.mul_le_mul_right _ (Nat.le_add_right _ _)) z
end Go.Proofs.YtbgchacafglcpaaH
end
section
namespace Go.Proofs.Ytbgchacafglcpaa.P
open Go.RowKit Go.Proofs.YtbgchacafglcpaaW.PrintWords Go.Proofs.YtbgchacafglcpaaW.PrintLast Go.Proofs.YtbgchacafglcpaaW.PrintMore
attribute [local go_sem] max2_int min2_int max_two min_two max_three min_three max_four min_four
set_option linter.unusedVariables false
set_option linter.unusedSimpArgs false
def cohousinglaw29_few.f (l0 : List (S63)) (l1 : List (S38)) (l2 : List Int) : Option (Bool) := if (l0.length : Int) ≤ 20 then (if (l1.length : Int) ≤ 20 then (some (decide ((l2.length : Int) ≤ 20))) else (some false)) else (some false)
set_option maxHeartbeats 8000000 in
set_option maxRecDepth 100000 in
theorem cohousinglaw29_few.calls (A0 : Option Addr) (c0 : Nat) (l0 : List (S63)) (A1 : Option Addr) (c1 : Nat) (l1 : List (S38)) (A2 : Option Addr) (c2 : Nat) (l2 : List Int) (r : Bool) (w : World) (hr0 : Kd.C k63 w A0 l0.length l0) (hc0 : l0.length ≤ c0) (hr1 : Kd.C k38 w A1 l1.length l1) (hc1 : l1.length ≤ c1) (hr2 : Kd.C (Kd.int .i64) w A2 l2.length l2) (hc2 : l2.length ≤ c2) (h : cohousinglaw29_few.f l0 l1 l2 = some r) :
  Calls Try.prog 21 #[.slice A0 l0.length c0, .slice A1 l1.length c1, .slice A2 l2.length c2] w fun e w' => e = .returned (.bool r) ∧ Drawn0 w w' := by
 have HR0 := Aside0.mk hr0
 have HC0 := Aside0.mk hc0
 clear hr0 hc0
 have HR1 := Aside0.mk hr1
 have HC1 := Aside0.mk hc1
 clear hr1 hc1
 have HR2 := Aside0.mk hr2
 have HC2 := Aside0.mk hc2
 clear hr2 hc2
 have H : (if (l0.length : Int) ≤ 20 then (if (l1.length : Int) ≤ 20 then (some (decide ((l2.length : Int) ≤ 20))) else (some false)) else (some false)) = some r := h
 clear h
 by_cases c4 : (l0.length : Int) ≤ 20
 ·rw [if_pos c4] at H
  have c4b0 : decide ((l0.length : Int) ≤ 20) = true := decide_eq_true c4
  have c4b1 : decide (l0.length ≤ 20) = true := decide_eq_true (by omega)
  clear c4
  by_cases c5 : (l1.length : Int) ≤ 20
  ·rw [if_pos c5] at H
   have c5b0 : decide ((l1.length : Int) ≤ 20) = true := decide_eq_true c5
   have c5b1 : decide (l1.length ≤ 20) = true := decide_eq_true (by omega)
   clear c5
   obtain rfl := Option.some.inj H
   go_enter Try.func21, Try.ntmps21
   go_wp2
   go_ret
   exact ⟨by first | rfl | (simp; done) | (simp [*]; done), by repeat (first | exact Drawn0.refl _ | apply Drawn0.step)⟩
  ·rw [if_neg c5] at H
   have c5b0 : decide ((l1.length : Int) ≤ 20) = false := decide_eq_false c5
   have c5b1 : decide (l1.length ≤ 20) = false := decide_eq_false (by omega)
   clear c5
   obtain rfl := Option.some.inj H
   go_enter Try.func21, Try.ntmps21
   go_wp2
   go_ret
   exact ⟨by first | rfl | (simp; done) | (simp [*]; done), by repeat (first | exact Drawn0.refl _ | apply Drawn0.step)⟩
 ·rw [if_neg c4] at H
  have c4b0 : decide ((l0.length : Int) ≤ 20) = false := decide_eq_false c4
  have c4b1 : decide (l0.length ≤ 20) = false := decide_eq_false (by omega)
  clear c4
  obtain rfl := Option.some.inj H
  go_enter Try.func21, Try.ntmps21
  go_wp2
  go_ret
  exact ⟨by first | rfl | (simp; done) | (simp [*]; done), by repeat (first | exact Drawn0.refl _ | apply Drawn0.step)⟩
end Go.Proofs.Ytbgchacafglcpaa.P
end
section
namespace Go.Proofs.Ytbgchacafglcpaa.P
open Go.RowKit Go.Proofs.YtbgchacafglcpaaW.PrintWords Go.Proofs.YtbgchacafglcpaaW.PrintLast Go.Proofs.YtbgchacafglcpaaW.PrintMore
attribute [local go_sem] max2_int min2_int max_two min_two max_three min_three max_four min_four
set_option linter.unusedVariables false
set_option linter.unusedSimpArgs false
def cohousingref02_Amount.f (a0 : Int) : Option (Bool) := if a0 ≥ (-1000000000) then (some (decide (a0 ≤ 1000000000))) else (some false)
set_option maxHeartbeats 8000000 in
set_option maxRecDepth 100000 in
theorem cohousingref02_Amount.calls (a0 : Int) (r : Bool) (w : World) (h : cohousingref02_Amount.f a0 = some r) :
  Calls Try.prog 64 #[.int .i64 a0] w fun e w' => e = .returned (.bool r) ∧ Drawn0 w w' := by
 have H : (if a0 ≥ (-1000000000) then (some (decide (a0 ≤ 1000000000))) else (some false)) = some r := h
 clear h
 by_cases c2 : a0 ≥ (-1000000000)
 ·rw [if_pos c2] at H
  have c2b0 : decide ((-1000000000) ≤ a0) = true := decide_eq_true c2
  clear c2
  obtain rfl := Option.some.inj H
  go_enter Try.func64, Try.ntmps64
  go_wp2
  go_ret
  exact ⟨by first | rfl | (simp; done) | (simp [*]; done), by repeat (first | exact Drawn0.refl _ | apply Drawn0.step)⟩
 ·rw [if_neg c2] at H
  have c2b0 : decide ((-1000000000) ≤ a0) = false := decide_eq_false c2
  clear c2
  obtain rfl := Option.some.inj H
  go_enter Try.func64, Try.ntmps64
  go_wp2
  go_ret
  exact ⟨by first | rfl | (simp; done) | (simp [*]; done), by repeat (first | exact Drawn0.refl _ | apply Drawn0.step)⟩
end Go.Proofs.Ytbgchacafglcpaa.P
end
section
namespace Go.Proofs.Ytbgchacafglcpaa.P
open Go.RowKit Go.Proofs.YtbgchacafglcpaaW.PrintWords Go.Proofs.YtbgchacafglcpaaW.PrintLast Go.Proofs.YtbgchacafglcpaaW.PrintMore
attribute [local go_sem] max2_int min2_int max_two min_two max_three min_three max_four min_four
set_option linter.unusedVariables false
set_option linter.unusedSimpArgs false
theorem eqA86 (d : Nat) (w : World) (x0 y0 : Int) (x1 y1 : Int) :
  (Op.equalIn (d + 2) 86 (.agg #[.int .i64 x0, .int .i64 x1]) (.agg #[.int .i64 y0, .int .i64 y1])).run Try.prog w = .ok (x0 == y0 && (x1 == y1)) w := by
 refine eqA_of Try.underlying86 (by kernel_rfl) ?_
 refine eqf_cons (by rfl) (by go_simp; rfl) (by go_simp; rfl) (by go_simp) ?_
 exact eqf_last (by rfl) (by go_simp; rfl) (by go_simp; rfl) (by go_simp)
end Go.Proofs.Ytbgchacafglcpaa.P
end
section
namespace Go.Proofs.Ytbgchacafglcpaa.P
open Go.RowKit Go.Proofs.YtbgchacafglcpaaW.PrintWords Go.Proofs.YtbgchacafglcpaaW.PrintLast Go.Proofs.YtbgchacafglcpaaW.PrintMore
attribute [local go_sem] max2_int min2_int max_two min_two max_three min_three max_four min_four
set_option linter.unusedVariables false
set_option linter.unusedSimpArgs false
def cohousingref01_common.l0 : Nat → Int → Int → Option (Int)
 | 0, _, _ => none
 | k + 1, x0, x1 => if x1 = 0 then (some x0) else (cohousingref01_common.l0 k x1 (Int.tmod x0 x1))
def cohousingref01_common.f (k : Nat) (a0 : Int) (a1 : Int) : Option (Int) := cohousingref01_common.l0 k a0 a1
theorem cohousingref01_common.mono_l : ∀ k, (∀ y0 y1, LeO (cohousingref01_common.l0 k y0 y1) (cohousingref01_common.l0 (k + 1) y0 y1))
 | 0 => fun _ _ r h => by simp [cohousingref01_common.l0] at h
 | k + 1 => by
  have ih0 := cohousingref01_common.mono_l k
  ·intro y0 y1
   unfold cohousingref01_common.l0
   repeat' first
   | (with_reducible exact ih0 _ _)
   | (with_reducible exact LeO.refl _)
   | (with_reducible exact LeO.none _)
   | (with_reducible refine LeO.ite ?_ ?_)
   | (with_reducible refine LeO.bind ?_ (fun _ => ?_))
   | exact ih0 _ _
   | exact LeO.none _
   | refine LeO.ite ?_ ?_
   | refine LeO.bind ?_ (fun _ => ?_)
theorem cohousingref01_common.mono : ∀ a0 a1 k, LeO (cohousingref01_common.f k a0 a1) (cohousingref01_common.f (k + 1) a0 a1) := by
 intro a0 a1 k
 have ih0 := cohousingref01_common.mono_l k
 unfold cohousingref01_common.f
 repeat' first
   | (with_reducible exact ih0 _ _)
   | (with_reducible exact LeO.refl _)
   | (with_reducible exact LeO.none _)
   | (with_reducible refine LeO.ite ?_ ?_)
   | (with_reducible refine LeO.bind ?_ (fun _ => ?_))
   | exact ih0 _ _
   | exact LeO.none _
   | refine LeO.ite ?_ ?_
   | refine LeO.bind ?_ (fun _ => ?_)
set_option maxHeartbeats 8000000 in
set_option maxRecDepth 100000 in
theorem cohousingref01_common.calls (k : Nat) (a0 : Int) (a1 : Int) (r : Int) (w : World) (h : cohousingref01_common.f k a0 a1 = some r) :
  Calls Try.prog 91 #[.int .u64 a0, .int .u64 a1] w fun e w' => e = .returned (.int .u64 r) ∧ Drawn0 w w' := by
 have H : (cohousingref01_common.l0 k a0 a1) = some r := h
 clear h
 have H' := Aside0.mk H
 clear H
 go_enter Try.func91, Try.ntmps91
 go_wp2
 go_loopg [0, 1] k (fun kq v0 v1 w' => ∃ (x0_1 : Int) (x1_1 : Int), v0 = .int .u64 x0_1 ∧ v1 = .int .u64 x1_1 ∧ Aside0 (cohousingref01_common.l0 kq x0_1 x1_1 = some r) ∧ Aside0 (kq ≤ k) ∧ Drawn0 w w')
 case atStart => exact ⟨(a0), (a1), (by first | rfl | (simp; done) | (simp [*]; done)), (by first | rfl | (simp; done) | (simp [*]; done)), H', ⟨Nat.le_refl _⟩, by repeat (first | exact Drawn0.refl _ | apply Drawn0.step)⟩
 case round =>
  clear H'
  try clear p2
  obtain ⟨x0_1, x1_1, rfl, rfl, HA, HK1, ⟨m1, rfl⟩⟩ := hrel
  cases gk with
  | zero => exact absurd HA.out (by simp [cohousingref01_common.l0])
  | succ k1 =>
   have H := HA.out
   clear HA
   simp only [cohousingref01_common.l0] at H
   by_cases c3 : x1_1 = 0
   ·rw [if_pos c3] at H
    have c3b0 : (x1_1 == 0) = true := beq_iff_eq.mpr c3
    have c3b1 : (x1_1 != 0) = false := bne_eq_false_iff_eq.mpr c3
    clear c3
    obtain rfl := Option.some.inj H
    go_wp2
    go_ret
    exact ⟨by first | rfl | (simp; done) | (simp [*]; done), by repeat (first | exact Drawn0.refl _ | apply Drawn0.step)⟩
   ·rw [if_neg c3] at H
    have c3b0 : (x1_1 == 0) = false := beq_eq_false_iff_ne.mpr c3
    have c3b1 : (x1_1 != 0) = true := bne_iff_ne.mpr c3
    have H' := Aside0.mk H
    clear H
    go_wp2
    go_roundg k1
    case measure => have := HK1.out; omega
    case rel => exact ⟨(x1_1), (Int.tmod x0_1 x1_1), (by first | rfl | (simp; done) | (simp [*]; done)), (by first | rfl | (simp; done) | (simp [*]; done)), H', ⟨by have := HK1.out; omega⟩, by repeat (first | exact Drawn0.refl _ | apply Drawn0.step)⟩
end Go.Proofs.Ytbgchacafglcpaa.P
end
section
namespace Go.Proofs.Ytbgchacafglcpaa.P
open Go.RowKit Go.Proofs.YtbgchacafglcpaaW.PrintWords Go.Proofs.YtbgchacafglcpaaW.PrintLast Go.Proofs.YtbgchacafglcpaaW.PrintMore
attribute [local go_sem] max2_int min2_int max_two min_two max_three min_three max_four min_four
set_option linter.unusedVariables false
set_option linter.unusedSimpArgs false
def cohousingref01_size.f (a0 : Int) : Option (Int) := if a0 < 0 then (some (IntKind.u64.wrap ((IntKind.u64.wrap (wrap64 (-(wrap64 (a0 + 1))))) + 1))) else (some (IntKind.u64.wrap (a0)))
set_option maxHeartbeats 8000000 in
set_option maxRecDepth 100000 in
theorem cohousingref01_size.calls (a0 : Int) (r : Int) (w : World) (h : cohousingref01_size.f a0 = some r) :
  Calls Try.prog 92 #[.int .i64 a0] w fun e w' => e = .returned (.int .u64 r) ∧ Drawn0 w w' := by
 have H : (if a0 < 0 then (some (IntKind.u64.wrap ((IntKind.u64.wrap (wrap64 (-(wrap64 (a0 + 1))))) + 1))) else (some (IntKind.u64.wrap (a0)))) = some r := h
 clear h
 by_cases c2 : a0 < 0
 ·rw [if_pos c2] at H
  have c2b0 : decide (a0 < 0) = true := decide_eq_true c2
  clear c2
  obtain rfl := Option.some.inj H
  go_enter Try.func92, Try.ntmps92
  go_wp2
  go_ret
  exact ⟨by first | rfl | (simp; done) | (simp [*]; done), by repeat (first | exact Drawn0.refl _ | apply Drawn0.step)⟩
 ·rw [if_neg c2] at H
  have c2b0 : decide (a0 < 0) = false := decide_eq_false c2
  clear c2
  obtain rfl := Option.some.inj H
  go_enter Try.func92, Try.ntmps92
  go_wp2
  go_ret
  exact ⟨by first | rfl | (simp; done) | (simp [*]; done), by repeat (first | exact Drawn0.refl _ | apply Drawn0.step)⟩
end Go.Proofs.Ytbgchacafglcpaa.P
end
section
namespace Go.Proofs.Ytbgchacafglcpaa.P
open Go.RowKit Go.Proofs.YtbgchacafglcpaaW.PrintWords Go.Proofs.YtbgchacafglcpaaW.PrintLast Go.Proofs.YtbgchacafglcpaaW.PrintMore
attribute [local go_sem] max2_int min2_int max_two min_two max_three min_three max_four min_four
set_option linter.unusedVariables false
set_option linter.unusedSimpArgs false
def cohousingref01_Make.j0 : Nat → Int → Int → Int → Int → Bool → Option (Int × Int × Int)
 | 0, _, _, _, _, _ => none
 | k + 1, x0, x1, x7, x8, x30 => if x30 = true then (some (0, 0, 3)) else (if ((decide (x0 < 0)) != (decide (x1 < 0))) = true then (some (wrap64 (-(wrap64 (x7))), wrap64 (x8), 0)) else (some (wrap64 (x7), wrap64 (x8), 0)))
def cohousingref01_Make.f (k : Nat) (a0 : Int) (a1 : Int) : Option (Int × Int × Int) := if a1 = 0 then (some (0, 0, 7)) else ((cohousingref01_size.f a0).bind fun t195 => ((cohousingref01_size.f a1).bind fun t196 => ((cohousingref01_common.f k t195 t196).bind fun t197 => ((cohousingref01_size.f a0).bind fun t198 => (if t197 = 0 then (none) else ((cohousingref01_size.f a1).bind fun t199 => (if (IntKind.u64.wrap (Int.tdiv t198 t197)) > 1000000000 then (cohousingref01_Make.j0 k a0 a1 (IntKind.u64.wrap (Int.tdiv t198 t197)) (IntKind.u64.wrap (Int.tdiv t199 t197)) true) else (cohousingref01_Make.j0 k a0 a1 (IntKind.u64.wrap (Int.tdiv t198 t197)) (IntKind.u64.wrap (Int.tdiv t199 t197)) (decide ((IntKind.u64.wrap (Int.tdiv t199 t197)) > 1000000000))))))))))
theorem cohousingref01_Make.mono_l : ∀ k, (∀ y0 y1 y2 y3 y4, LeO (cohousingref01_Make.j0 k y0 y1 y2 y3 y4) (cohousingref01_Make.j0 (k + 1) y0 y1 y2 y3 y4))
 | 0 => fun _ _ _ _ _ r h => by simp [cohousingref01_Make.j0] at h
 | k + 1 => by
  have ih0 := cohousingref01_Make.mono_l k
  ·intro y0 y1 y2 y3 y4
   unfold cohousingref01_Make.j0
   repeat' first
   | (with_reducible exact ih0 _ _ _ _ _)
   | (with_reducible exact cohousingref01_common.mono _ _ _)
   | (with_reducible exact LeO.refl _)
   | (with_reducible exact LeO.none _)
   | (with_reducible refine LeO.ite ?_ ?_)
   | (with_reducible refine LeO.bind ?_ (fun _ => ?_))
   | exact ih0 _ _ _ _ _
   | exact cohousingref01_common.mono _ _ _
   | exact LeO.none _
   | refine LeO.ite ?_ ?_
   | refine LeO.bind ?_ (fun _ => ?_)
theorem cohousingref01_Make.mono : ∀ a0 a1 k, LeO (cohousingref01_Make.f k a0 a1) (cohousingref01_Make.f (k + 1) a0 a1) := by
 intro a0 a1 k
 have ih0 := cohousingref01_Make.mono_l k
 unfold cohousingref01_Make.f
 repeat' first
   | (with_reducible exact ih0 _ _ _ _ _)
   | (with_reducible exact cohousingref01_common.mono _ _ _)
   | (with_reducible exact LeO.refl _)
   | (with_reducible exact LeO.none _)
   | (with_reducible refine LeO.ite ?_ ?_)
   | (with_reducible refine LeO.bind ?_ (fun _ => ?_))
   | exact ih0 _ _ _ _ _
   | exact cohousingref01_common.mono _ _ _
   | exact LeO.none _
   | refine LeO.ite ?_ ?_
   | refine LeO.bind ?_ (fun _ => ?_)
set_option maxHeartbeats 8000000 in
set_option maxRecDepth 100000 in
theorem cohousingref01_Make.calls (k : Nat) (a0 : Int) (a1 : Int) (r1 : Int) (r2 : Int) (r3 : Int) (w : World) (h : cohousingref01_Make.f k a0 a1 = some (r1, r2, r3)) :
  Calls Try.prog 82 #[.int .i64 a0, .int .i64 a1] w fun e w' => e = .returned (.tuple #[.agg #[.int .i64 r1, .int .i64 r2], .int .i64 r3]) ∧ Below w.heap.size w w' := by
 have hu86 := Try.underlying86
 have HB := Aside0.mk (Below.refl w.heap.size w)
 have H : (if a1 = 0 then (some (0, 0, 7)) else ((cohousingref01_size.f a0).bind fun t195 => ((cohousingref01_size.f a1).bind fun t196 => ((cohousingref01_common.f k t195 t196).bind fun t197 => ((cohousingref01_size.f a0).bind fun t198 => (if t197 = 0 then (none) else ((cohousingref01_size.f a1).bind fun t199 => (if (IntKind.u64.wrap (Int.tdiv t198 t197)) > 1000000000 then (cohousingref01_Make.j0 k a0 a1 (IntKind.u64.wrap (Int.tdiv t198 t197)) (IntKind.u64.wrap (Int.tdiv t199 t197)) true) else (cohousingref01_Make.j0 k a0 a1 (IntKind.u64.wrap (Int.tdiv t198 t197)) (IntKind.u64.wrap (Int.tdiv t199 t197)) (decide ((IntKind.u64.wrap (Int.tdiv t199 t197)) > 1000000000))))))))))) = some (r1, r2, r3) := h
 clear h
 by_cases c3 : a1 = 0
 ·rw [if_pos c3] at H
  have c3b0 : (a1 == 0) = true := beq_iff_eq.mpr c3
  have c3b1 : (a1 != 0) = false := bne_eq_false_iff_eq.mpr c3
  clear c3
  simp only [Option.some.injEq, Prod.mk.injEq] at H
  obtain ⟨rfl, rfl, rfl⟩ := H
  go_enter Try.func82, Try.ntmps82
  go_wp2_with (first | ((with_reducible refine gate_dst (N := 4) rfl ?_); refine box_event ?hg (N := 4) ?hd (cs := #[.int .i64 0, .int .i64 0]) (t := 86) ?hr ?_; (case hd => rfl); (case hg => rfl); (case hr => first | (go_simp; done) | (go_simp; rfl)); intro gb194 hg w4 hbox hb; have n0_ := Aside0.mk (below_step (by repeat (first | (with_reducible first | exact HB.out | apply below_alloc | apply pw_below_drewN | apply below_drew1) | exact HB.out)) hb); have n1_ := Aside0.mk (hbox); have n2_ := Aside0.mk ((by rw [hg]; exact (below_size (by repeat (first | (with_reducible first | exact HB.out | apply below_alloc | apply pw_below_drewN | apply below_drew1) | exact HB.out))) : w.heap.size ≤ gb194)); have n3_ := Aside0.mk ((by rw [hg]; exact (below_size (by repeat (first | (with_reducible first | exact HB.out | apply below_alloc | apply pw_below_drewN | apply below_drew1) | exact HB.out))) : w.heap.size ≤ gb194)); clear HB; have HB := n0_; have BK194 := n1_; have GW194 := n2_; have GE194 := n3_; clear n0_ n1_ n2_ n3_; clear hb hbox hg; have hcz5_0 : w4.cell? ⟨gb194, 0, none⟩ = some (.int .i64 0) := (blk_cell BK194.out 0).trans rfl; have hcz5_1 : w4.cell? ⟨gb194, 1, none⟩ = some (.int .i64 0) := (blk_cell BK194.out 1).trans rfl; have hfz5_0 := blk_frozen BK194.out 0; have hfz5_1 := blk_frozen BK194.out 1))
  refine bodyPost_ret (results_ct rfl _ _ gb194 86 #[.int .i64 0, .int .i64 0] (0, 0) _ rfl (by (with_reducible repeat (first | refine blk_drewN ?_ _ | refine blk_drew ?_ | refine blk_alloc ?_ _)); refine blk_put (cs := #[.int .i64 0, .int .i64 0]) ?_ 1 _ rfl; (with_reducible repeat (first | refine blk_drewN ?_ _ | refine blk_drew ?_ | refine blk_alloc ?_ _)); refine blk_put (cs := #[.int .i64 0, .int .i64 0]) ?_ 0 _ rfl; (with_reducible repeat (first | refine blk_drewN ?_ _ | refine blk_drew ?_ | refine blk_alloc ?_ _)); exact BK194.out) Try.underlying86 rfl (by kernel_rfl)) rfl ?_
  exact ⟨by first | rfl | (simp [errW_none, errW_some] <;> rfl) | (simp [*, errW_none, errW_some] <;> rfl), by repeat (first | (with_reducible first | exact HB.out | apply below_alloc | apply pw_below_drewN | apply below_drew1 | refine below_set ?_ GE194.out) | exact HB.out)⟩
 ·rw [if_neg c3] at H
  have c3b0 : (a1 == 0) = false := beq_eq_false_iff_ne.mpr c3
  have c3b1 : (a1 != 0) = true := bne_iff_ne.mpr c3
  replace H := Option.bind_eq_some_iff.mp H
  obtain ⟨t195, A60, H⟩ := H
  replace H : ((cohousingref01_size.f a1).bind fun t196 => ((cohousingref01_common.f k t195 t196).bind fun t197 => ((cohousingref01_size.f a0).bind fun t198 => (if t197 = 0 then (none) else ((cohousingref01_size.f a1).bind fun t199 => (if (IntKind.u64.wrap (Int.tdiv t198 t197)) > 1000000000 then (cohousingref01_Make.j0 k a0 a1 (IntKind.u64.wrap (Int.tdiv t198 t197)) (IntKind.u64.wrap (Int.tdiv t199 t197)) true) else (cohousingref01_Make.j0 k a0 a1 (IntKind.u64.wrap (Int.tdiv t198 t197)) (IntKind.u64.wrap (Int.tdiv t199 t197)) (decide ((IntKind.u64.wrap (Int.tdiv t199 t197)) > 1000000000))))))))) = some (r1, r2, r3) := H
  have A6 := Aside0.mk A60
  clear A60
  replace H := Option.bind_eq_some_iff.mp H
  obtain ⟨t196, A70, H⟩ := H
  replace H : ((cohousingref01_common.f k t195 t196).bind fun t197 => ((cohousingref01_size.f a0).bind fun t198 => (if t197 = 0 then (none) else ((cohousingref01_size.f a1).bind fun t199 => (if (IntKind.u64.wrap (Int.tdiv t198 t197)) > 1000000000 then (cohousingref01_Make.j0 k a0 a1 (IntKind.u64.wrap (Int.tdiv t198 t197)) (IntKind.u64.wrap (Int.tdiv t199 t197)) true) else (cohousingref01_Make.j0 k a0 a1 (IntKind.u64.wrap (Int.tdiv t198 t197)) (IntKind.u64.wrap (Int.tdiv t199 t197)) (decide ((IntKind.u64.wrap (Int.tdiv t199 t197)) > 1000000000)))))))) = some (r1, r2, r3) := H
  have A7 := Aside0.mk A70
  clear A70
  replace H := Option.bind_eq_some_iff.mp H
  obtain ⟨t197, A80, H⟩ := H
  replace H : ((cohousingref01_size.f a0).bind fun t198 => (if t197 = 0 then (none) else ((cohousingref01_size.f a1).bind fun t199 => (if (IntKind.u64.wrap (Int.tdiv t198 t197)) > 1000000000 then (cohousingref01_Make.j0 k a0 a1 (IntKind.u64.wrap (Int.tdiv t198 t197)) (IntKind.u64.wrap (Int.tdiv t199 t197)) true) else (cohousingref01_Make.j0 k a0 a1 (IntKind.u64.wrap (Int.tdiv t198 t197)) (IntKind.u64.wrap (Int.tdiv t199 t197)) (decide ((IntKind.u64.wrap (Int.tdiv t199 t197)) > 1000000000))))))) = some (r1, r2, r3) := H
  have A8 := Aside0.mk A80
  clear A80
  replace H := Option.bind_eq_some_iff.mp H
  obtain ⟨t198, A90, H⟩ := H
  replace H : (if t197 = 0 then (none) else ((cohousingref01_size.f a1).bind fun t199 => (if (IntKind.u64.wrap (Int.tdiv t198 t197)) > 1000000000 then (cohousingref01_Make.j0 k a0 a1 (IntKind.u64.wrap (Int.tdiv t198 t197)) (IntKind.u64.wrap (Int.tdiv t199 t197)) true) else (cohousingref01_Make.j0 k a0 a1 (IntKind.u64.wrap (Int.tdiv t198 t197)) (IntKind.u64.wrap (Int.tdiv t199 t197)) (decide ((IntKind.u64.wrap (Int.tdiv t199 t197)) > 1000000000)))))) = some (r1, r2, r3) := H
  have A9 := Aside0.mk A90
  clear A90
  by_cases c10 : t197 = 0
  ·rw [if_pos c10] at H
   exact absurd H (by simp)
  ·rw [if_neg c10] at H
   have c10b0 : (t197 == 0) = false := beq_eq_false_iff_ne.mpr c10
   have c10b1 : (t197 != 0) = true := bne_iff_ne.mpr c10
   replace H := Option.bind_eq_some_iff.mp H
   obtain ⟨t199, A110, H⟩ := H
   replace H : (if (IntKind.u64.wrap (Int.tdiv t198 t197)) > 1000000000 then (cohousingref01_Make.j0 k a0 a1 (IntKind.u64.wrap (Int.tdiv t198 t197)) (IntKind.u64.wrap (Int.tdiv t199 t197)) true) else (cohousingref01_Make.j0 k a0 a1 (IntKind.u64.wrap (Int.tdiv t198 t197)) (IntKind.u64.wrap (Int.tdiv t199 t197)) (decide ((IntKind.u64.wrap (Int.tdiv t199 t197)) > 1000000000)))) = some (r1, r2, r3) := H
   have A11 := Aside0.mk A110
   clear A110
   have HC12 := Aside0.mk H
   clear H
   go_enter Try.func82, Try.ntmps82
   go_upto_region 6 with (first | ((with_reducible refine gate_dst (N := 4) rfl ?_); refine box_event ?hg (N := 4) ?hd (cs := #[.int .i64 0, .int .i64 0]) (t := 86) ?hr ?_; (case hd => rfl); (case hg => rfl); (case hr => first | (go_simp; done) | (go_simp; rfl)); intro gb194 hg w13 hbox hb; have n0_ := Aside0.mk (below_step (by repeat (first | (with_reducible first | exact HB.out | apply below_alloc | apply pw_below_drewN | apply below_drew1) | exact HB.out)) hb); have n1_ := Aside0.mk (hbox); have n2_ := Aside0.mk ((by rw [hg]; exact (below_size (by repeat (first | (with_reducible first | exact HB.out | apply below_alloc | apply pw_below_drewN | apply below_drew1) | exact HB.out))) : w.heap.size ≤ gb194)); have n3_ := Aside0.mk ((by rw [hg]; exact (below_size (by repeat (first | (with_reducible first | exact HB.out | apply below_alloc | apply pw_below_drewN | apply below_drew1) | exact HB.out))) : w.heap.size ≤ gb194)); clear HB; have HB := n0_; have BK194 := n1_; have GW194 := n2_; have GE194 := n3_; clear n0_ n1_ n2_ n3_; clear hb hbox hg) | ((with_reducible refine gate_callee (f := 92) rfl ?_); refine goesL_ (some 13) rfl rfl Try.func92 (by kernel_rfl) rfl #[.int .i64 a0] rfl (by (try simp only [List.map_toArray, List.map_cons, List.map_nil]); first | done | rfl | (simp only [List.length_drop, List.length_take]; rfl)) ?_; (with_reducible refine (cohousingref01_size.calls a0 t195 _ A6.out).mono ?_); rintro e w' ⟨rfl, ⟨nd, rfl⟩⟩; refine ⟨_, rfl, ?_⟩) | ((with_reducible refine gate_callee (f := 92) rfl ?_); refine goesL_ (some 15) rfl rfl Try.func92 (by kernel_rfl) rfl #[.int .i64 a1] rfl (by (try simp only [List.map_toArray, List.map_cons, List.map_nil]); first | done | rfl | (simp only [List.length_drop, List.length_take]; rfl)) ?_; (with_reducible refine (cohousingref01_size.calls a1 t196 _ A7.out).mono ?_); rintro e w' ⟨rfl, ⟨nd, rfl⟩⟩; refine ⟨_, rfl, ?_⟩) | ((with_reducible refine gate_callee (f := 91) rfl ?_); refine goesL_ (some 16) rfl rfl Try.func91 (by kernel_rfl) rfl #[.int .u64 t195, .int .u64 t196] rfl (by (try simp only [List.map_toArray, List.map_cons, List.map_nil]); first | done | rfl | (simp only [List.length_drop, List.length_take]; rfl)) ?_; (with_reducible refine (cohousingref01_common.calls k t195 t196 t197 _ A8.out).mono ?_); rintro e w' ⟨rfl, ⟨nd, rfl⟩⟩; refine ⟨_, rfl, ?_⟩) | ((with_reducible refine gate_callee (f := 92) rfl ?_); refine goesL_ (some 18) rfl rfl Try.func92 (by kernel_rfl) rfl #[.int .i64 a0] rfl (by (try simp only [List.map_toArray, List.map_cons, List.map_nil]); first | done | rfl | (simp only [List.length_drop, List.length_take]; rfl)) ?_; (with_reducible refine (cohousingref01_size.calls a0 t198 _ A9.out).mono ?_); rintro e w' ⟨rfl, ⟨nd, rfl⟩⟩; refine ⟨_, rfl, ?_⟩) | ((with_reducible refine gate_callee (f := 92) rfl ?_); refine goesL_ (some 22) rfl rfl Try.func92 (by kernel_rfl) rfl #[.int .i64 a1] rfl (by (try simp only [List.map_toArray, List.map_cons, List.map_nil]); first | done | rfl | (simp only [List.length_drop, List.length_take]; rfl)) ?_; (with_reducible refine (cohousingref01_size.calls a1 t199 _ A11.out).mono ?_); rintro e w' ⟨rfl, ⟨nd, rfl⟩⟩; refine ⟨_, rfl, ?_⟩))
   (try simp only [Act.put, sI_, s0_, sS_])
   go_cut [30] (fun v30 wc => ∃ (kq : Nat) (x30_11 : Bool), v30 = .bool x30_11 ∧ Aside0 (cohousingref01_Make.j0 kq a0 a1 (IntKind.u64.wrap (Int.tdiv t198 t197)) (IntKind.u64.wrap (Int.tdiv t199 t197)) x30_11 = some (r1, r2, r3)) ∧ Aside0 (kq ≤ k) ∧ Aside0 (wc.heap[gb194]? = some (.cells #[.int .i64 0, .int .i64 0] 86 (0, 0))) ∧ Aside0 (Below w.heap.size w wc))
   case first =>
    have H := HC12.out
    clear HC12
    by_cases c14 : (IntKind.u64.wrap (Int.tdiv t198 t197)) > 1000000000
    ·rw [if_pos c14] at H
     have c14b0 : decide (1000000000 < (IntKind.u64.wrap (Int.tdiv t198 t197))) = true := decide_eq_true c14
     clear c14
     (first | rw [c14b0] | (simp only [i64_w, i32_w]; rw [c14b0]) | skip)
     have H' := Aside0.mk H
     clear H
     go_wp2
     go_meet
     case rel => exact ⟨_, (true), (by first | rfl | (simp; done) | (simp [*]; done)), H', ⟨by first | omega | exact Nat.le_refl _⟩, ⟨by (with_reducible repeat (first | refine blk_drewN ?_ _ | refine blk_drew ?_ | refine blk_alloc ?_ _)); exact BK194.out⟩, ⟨by repeat (first | (with_reducible first | exact HB.out | apply below_alloc | apply pw_below_drewN | apply below_drew1 | refine below_set ?_ GE194.out) | exact HB.out)⟩⟩
    ·rw [if_neg c14] at H
     have c14b0 : decide (1000000000 < (IntKind.u64.wrap (Int.tdiv t198 t197))) = false := decide_eq_false c14
     clear c14
     (first | rw [c14b0] | (simp only [i64_w, i32_w]; rw [c14b0]) | skip)
     have H' := Aside0.mk H
     clear H
     go_wp2
     go_meet
     case rel => exact ⟨_, (decide ((IntKind.u64.wrap (Int.tdiv t199 t197)) > 1000000000)), (by first | rfl | (simp; done) | (simp [*]; done)), H', ⟨by first | omega | exact Nat.le_refl _⟩, ⟨by (with_reducible repeat (first | refine blk_drewN ?_ _ | refine blk_drew ?_ | refine blk_alloc ?_ _)); exact BK194.out⟩, ⟨by repeat (first | (with_reducible first | exact HB.out | apply below_alloc | apply pw_below_drewN | apply below_drew1 | refine below_set ?_ GE194.out) | exact HB.out)⟩⟩
   case rest =>
    clear HC12
    try clear c1
    try clear p2
    try clear c3
    try clear c3b0
    try clear c3b1
    try clear c8
    try clear c9
    try clear c10
    try clear c10b0
    try clear c10b1
    try clear c14
    try clear c14b0
    try clear hcz5_0
    try clear hcz5_1
    try clear hfz5_0
    try clear hfz5_1
    obtain ⟨kq, x30_11, rfl, HA, HJ11, BK194, HB⟩ := hcut
    cases kq with
    | zero => exact absurd HA.out (by simp [cohousingref01_Make.j0])
    | succ kj11 =>
     have H := HA.out
     clear HA
     simp only [cohousingref01_Make.j0] at H
     by_cases c15 : x30_11 = true
     ·subst c15
      have H1 : (some (0, 0, 3)) = some (r1, r2, r3) := by rw [if_pos rfl] at H; exact H
      clear H
      have H := H1
      clear H1
      simp only [Option.some.injEq, Prod.mk.injEq] at H
      obtain ⟨rfl, rfl, rfl⟩ := H
      have hcz16_0 : wc.cell? ⟨gb194, 0, none⟩ = some (.int .i64 0) := (blk_cell BK194.out 0).trans rfl
      have hcz16_1 : wc.cell? ⟨gb194, 1, none⟩ = some (.int .i64 0) := (blk_cell BK194.out 1).trans rfl
      have hfz16_0 := blk_frozen BK194.out 0
      have hfz16_1 := blk_frozen BK194.out 1
      go_wp2
      refine bodyPost_ret (results_ct rfl _ _ gb194 86 #[.int .i64 0, .int .i64 0] (0, 0) _ rfl (by (with_reducible repeat (first | refine blk_drewN ?_ _ | refine blk_drew ?_ | refine blk_alloc ?_ _)); refine blk_put (cs := #[.int .i64 0, .int .i64 0]) ?_ 1 _ rfl; (with_reducible repeat (first | refine blk_drewN ?_ _ | refine blk_drew ?_ | refine blk_alloc ?_ _)); refine blk_put (cs := #[.int .i64 0, .int .i64 0]) ?_ 0 _ rfl; (with_reducible repeat (first | refine blk_drewN ?_ _ | refine blk_drew ?_ | refine blk_alloc ?_ _)); exact BK194.out) Try.underlying86 rfl (by kernel_rfl)) rfl ?_
      exact ⟨by first | rfl | (simp [errW_none, errW_some] <;> rfl) | (simp [*, errW_none, errW_some] <;> rfl), by repeat (first | (with_reducible first | exact HB.out | apply below_alloc | apply pw_below_drewN | apply below_drew1 | refine below_set ?_ GE194.out) | exact HB.out)⟩
     ·replace c15 := Bool.eq_false_iff.mpr c15
      subst c15
      have H1 : (if ((decide (a0 < 0)) != (decide (a1 < 0))) = true then (some (wrap64 (-(wrap64 ((IntKind.u64.wrap (Int.tdiv t198 t197))))), wrap64 ((IntKind.u64.wrap (Int.tdiv t199 t197))), 0)) else (some (wrap64 ((IntKind.u64.wrap (Int.tdiv t198 t197))), wrap64 ((IntKind.u64.wrap (Int.tdiv t199 t197))), 0))) = some (r1, r2, r3) := by rw [if_neg (show ¬ (false = true) by decide)] at H; exact H
      clear H
      have H := H1
      clear H1
      by_cases c17 : ((decide (a0 < 0)) != (decide (a1 < 0))) = true
      ·rw [if_pos c17] at H
       have c17b0 : ((decide (a0 < 0)) != (decide (a1 < 0))) = true := c17
       (try (have c17b1 : decide ((decide (a0 < 0)) = (decide (a1 < 0))) = false := by simpa using c17))
       (try (have c17b2 : ((decide (a0 < 0)) == (decide (a1 < 0))) = false := by simpa using c17))
       (try (have c17b3 : ¬ ((decide (a0 < 0)) = (decide (a1 < 0))) := by simpa using c17))
       clear c17
       simp only [Option.some.injEq, Prod.mk.injEq] at H
       obtain ⟨rfl, rfl, rfl⟩ := H
       have hcz18_0 : wc.cell? ⟨gb194, 0, none⟩ = some (.int .i64 0) := (blk_cell BK194.out 0).trans rfl
       have hcz18_1 : wc.cell? ⟨gb194, 1, none⟩ = some (.int .i64 0) := (blk_cell BK194.out 1).trans rfl
       have hfz18_0 := blk_frozen BK194.out 0
       have hfz18_1 := blk_frozen BK194.out 1
       go_wp2
       refine bodyPost_ret (results_ct rfl _ _ gb194 86 #[.int .i64 (wrap64 (-(wrap64 ((IntKind.u64.wrap (Int.tdiv t198 t197)))))), .int .i64 (wrap64 ((IntKind.u64.wrap (Int.tdiv t199 t197))))] (0, 0) _ rfl (by (with_reducible repeat (first | refine blk_drewN ?_ _ | refine blk_drew ?_ | refine blk_alloc ?_ _)); refine blk_put (cs := #[.int .i64 (wrap64 (-(wrap64 ((IntKind.u64.wrap (Int.tdiv t198 t197)))))), .int .i64 0]) ?_ 1 _ rfl; (with_reducible repeat (first | refine blk_drewN ?_ _ | refine blk_drew ?_ | refine blk_alloc ?_ _)); refine blk_put (cs := #[.int .i64 0, .int .i64 0]) ?_ 0 _ rfl; (with_reducible repeat (first | refine blk_drewN ?_ _ | refine blk_drew ?_ | refine blk_alloc ?_ _)); exact BK194.out) Try.underlying86 rfl (by kernel_rfl)) rfl ?_
       exact ⟨by first | rfl | (simp [errW_none, errW_some] <;> rfl) | (simp [*, errW_none, errW_some] <;> rfl), by repeat (first | (with_reducible first | exact HB.out | apply below_alloc | apply pw_below_drewN | apply below_drew1 | refine below_set ?_ GE194.out) | exact HB.out)⟩
      ·rw [if_neg c17] at H
       have c17b0 : ((decide (a0 < 0)) != (decide (a1 < 0))) = false := by simpa using c17
       (try (have c17b1 : decide ((decide (a0 < 0)) = (decide (a1 < 0))) = true := by simpa using c17))
       (try (have c17b2 : ((decide (a0 < 0)) == (decide (a1 < 0))) = true := by simpa using c17))
       clear c17
       simp only [Option.some.injEq, Prod.mk.injEq] at H
       obtain ⟨rfl, rfl, rfl⟩ := H
       have hcz19_0 : wc.cell? ⟨gb194, 0, none⟩ = some (.int .i64 0) := (blk_cell BK194.out 0).trans rfl
       have hcz19_1 : wc.cell? ⟨gb194, 1, none⟩ = some (.int .i64 0) := (blk_cell BK194.out 1).trans rfl
       have hfz19_0 := blk_frozen BK194.out 0
       have hfz19_1 := blk_frozen BK194.out 1
       go_wp2
       refine bodyPost_ret (results_ct rfl _ _ gb194 86 #[.int .i64 (wrap64 ((IntKind.u64.wrap (Int.tdiv t198 t197)))), .int .i64 (wrap64 ((IntKind.u64.wrap (Int.tdiv t199 t197))))] (0, 0) _ rfl (by (with_reducible repeat (first | refine blk_drewN ?_ _ | refine blk_drew ?_ | refine blk_alloc ?_ _)); refine blk_put (cs := #[.int .i64 (wrap64 ((IntKind.u64.wrap (Int.tdiv t198 t197)))), .int .i64 0]) ?_ 1 _ rfl; (with_reducible repeat (first | refine blk_drewN ?_ _ | refine blk_drew ?_ | refine blk_alloc ?_ _)); refine blk_put (cs := #[.int .i64 0, .int .i64 0]) ?_ 0 _ rfl; (with_reducible repeat (first | refine blk_drewN ?_ _ | refine blk_drew ?_ | refine blk_alloc ?_ _)); exact BK194.out) Try.underlying86 rfl (by kernel_rfl)) rfl ?_
       exact ⟨by first | rfl | (simp [errW_none, errW_some] <;> rfl) | (simp [*, errW_none, errW_some] <;> rfl), by repeat (first | (with_reducible first | exact HB.out | apply below_alloc | apply pw_below_drewN | apply below_drew1 | refine below_set ?_ GE194.out) | exact HB.out)⟩
end Go.Proofs.Ytbgchacafglcpaa.P
end
section
namespace Go.Proofs.Ytbgchacafglcpaa.P
open Go.RowKit Go.Proofs.YtbgchacafglcpaaW.PrintWords Go.Proofs.YtbgchacafglcpaaW.PrintLast Go.Proofs.YtbgchacafglcpaaW.PrintMore
attribute [local go_sem] max2_int min2_int max_two min_two max_three min_three max_four min_four
set_option linter.unusedVariables false
set_option linter.unusedSimpArgs false
attribute [local go_sem high] eqA86
def cohousingref01_Valid.f (k : Nat) (a0_0 : Int) (a0_1 : Int) : Option (Bool) := if a0_1 < 1 then (some false) else ((cohousingref01_Make.f k a0_0 a0_1).bind fun bt201 => (if bt201.2.2 = 0 then (some (bt201.1 == a0_0 && (bt201.2.1 == a0_1))) else (some false)))
theorem cohousingref01_Valid.mono : ∀ a0 a1 k, LeO (cohousingref01_Valid.f k a0 a1) (cohousingref01_Valid.f (k + 1) a0 a1) := by
 intro a0 a1 k
 unfold cohousingref01_Valid.f
 repeat' first
   | (with_reducible exact cohousingref01_Make.mono _ _ _)
   | (with_reducible exact LeO.refl _)
   | (with_reducible exact LeO.none _)
   | (with_reducible refine LeO.ite ?_ ?_)
   | (with_reducible refine LeO.bind ?_ (fun _ => ?_))
   | exact cohousingref01_Make.mono _ _ _
   | exact LeO.none _
   | refine LeO.ite ?_ ?_
   | refine LeO.bind ?_ (fun _ => ?_)
set_option maxHeartbeats 8000000 in
set_option maxRecDepth 100000 in
theorem cohousingref01_Valid.calls (k : Nat) (a0_0 : Int) (a0_1 : Int) (r : Bool) (w : World) (h : cohousingref01_Valid.f k a0_0 a0_1 = some r) :
  Calls Try.prog 65 #[.agg #[.int .i64 a0_0, .int .i64 a0_1]] w fun e w' => e = .returned (.bool r) ∧ Below w.heap.size w w' := by
 have hu86 := Try.underlying86
 have HB := Aside0.mk (Below.refl w.heap.size w)
 have H : (if a0_1 < 1 then (some false) else ((cohousingref01_Make.f k a0_0 a0_1).bind fun bt201 => (if bt201.2.2 = 0 then (some (bt201.1 == a0_0 && (bt201.2.1 == a0_1))) else (some false)))) = some r := h
 clear h
 by_cases c2 : a0_1 < 1
 ·rw [if_pos c2] at H
  have c2b0 : decide (a0_1 < 1) = true := decide_eq_true c2
  clear c2
  obtain rfl := Option.some.inj H
  go_enter Try.func65, Try.ntmps65
  go_wp2_with (first | ((with_reducible refine gate_dst (N := 1) rfl ?_); refine box_event ?hg (N := 1) ?hd (cs := #[.int .i64 a0_0, .int .i64 a0_1]) (t := 86) ?hr ?_; (case hd => rfl); (case hg => rfl); (case hr => first | (go_simp; done) | (go_simp; rfl)); intro gb200 hg w3 hbox hb; have n0_ := Aside0.mk (below_step (by repeat (first | (with_reducible first | exact HB.out | apply below_alloc | apply pw_below_drewN | apply below_drew1) | exact HB.out)) hb); have n1_ := Aside0.mk (hbox); have n2_ := Aside0.mk ((by rw [hg]; exact (below_size (by repeat (first | (with_reducible first | exact HB.out | apply below_alloc | apply pw_below_drewN | apply below_drew1) | exact HB.out))) : w.heap.size ≤ gb200)); have n3_ := Aside0.mk ((by rw [hg]; exact (below_size (by repeat (first | (with_reducible first | exact HB.out | apply below_alloc | apply pw_below_drewN | apply below_drew1) | exact HB.out))) : w.heap.size ≤ gb200)); clear HB; have HB := n0_; have BK200 := n1_; have GW200 := n2_; have GE200 := n3_; clear n0_ n1_ n2_ n3_; clear hb hbox hg; have hcz4_0 : w3.cell? ⟨gb200, 0, none⟩ = some (.int .i64 a0_0) := (blk_cell BK200.out 0).trans rfl; have hcz4_1 : w3.cell? ⟨gb200, 1, none⟩ = some (.int .i64 a0_1) := (blk_cell BK200.out 1).trans rfl; have hfz4_0 := blk_frozen BK200.out 0; have hfz4_1 := blk_frozen BK200.out 1))
  go_ret
  exact ⟨by first | rfl | (simp [errW_none, errW_some] <;> rfl) | (simp [*, errW_none, errW_some] <;> rfl), by repeat (first | (with_reducible first | exact HB.out | apply below_alloc | apply pw_below_drewN | apply below_drew1 | refine below_set ?_ GE200.out) | exact HB.out)⟩
 ·rw [if_neg c2] at H
  have c2b0 : decide (a0_1 < 1) = false := decide_eq_false c2
  clear c2
  replace H := Option.bind_eq_some_iff.mp H
  obtain ⟨⟨t201, t202, t203⟩, A50, H⟩ := H
  replace H : (if t203 = 0 then (some (t201 == a0_0 && (t202 == a0_1))) else (some false)) = some r := H
  have A5 := Aside0.mk A50
  clear A50
  by_cases c6 : t203 = 0
  ·rw [if_pos c6] at H
   have c6b0 : (t203 == 0) = true := beq_iff_eq.mpr c6
   have c6b1 : (t203 != 0) = false := bne_eq_false_iff_eq.mpr c6
   clear c6
   obtain rfl := Option.some.inj H
   go_enter Try.func65, Try.ntmps65
   go_wp2_with (first | ((with_reducible refine gate_dst (N := 1) rfl ?_); refine box_event ?hg (N := 1) ?hd (cs := #[.int .i64 a0_0, .int .i64 a0_1]) (t := 86) ?hr ?_; (case hd => rfl); (case hg => rfl); (case hr => first | (go_simp; done) | (go_simp; rfl)); intro gb200 hg w7 hbox hb; have n0_ := Aside0.mk (below_step (by repeat (first | (with_reducible first | exact HB.out | apply below_alloc | apply pw_below_drewN | apply below_drew1) | exact HB.out)) hb); have n1_ := Aside0.mk (hbox); have n2_ := Aside0.mk ((by rw [hg]; exact (below_size (by repeat (first | (with_reducible first | exact HB.out | apply below_alloc | apply pw_below_drewN | apply below_drew1) | exact HB.out))) : w.heap.size ≤ gb200)); have n3_ := Aside0.mk ((by rw [hg]; exact (below_size (by repeat (first | (with_reducible first | exact HB.out | apply below_alloc | apply pw_below_drewN | apply below_drew1) | exact HB.out))) : w.heap.size ≤ gb200)); clear HB; have HB := n0_; have BK200 := n1_; have GW200 := n2_; have GE200 := n3_; clear n0_ n1_ n2_ n3_; clear hb hbox hg; have hcz8_0 : w7.cell? ⟨gb200, 0, none⟩ = some (.int .i64 a0_0) := (blk_cell BK200.out 0).trans rfl; have hcz8_1 : w7.cell? ⟨gb200, 1, none⟩ = some (.int .i64 a0_1) := (blk_cell BK200.out 1).trans rfl; have hfz8_0 := blk_frozen BK200.out 0; have hfz8_1 := blk_frozen BK200.out 1) | ((with_reducible refine gate_callee (f := 82) rfl ?_); refine goesL_ (some 13) rfl rfl Try.func82 (by kernel_rfl) rfl #[.int .i64 a0_0, .int .i64 a0_1] rfl (by (try simp only [List.map_toArray, List.map_cons, List.map_nil]); first | done | rfl | (simp only [List.length_drop, List.length_take]; rfl)) ?_; (with_reducible refine (cohousingref01_Make.calls k a0_0 a0_1 t201 t202 t203 _ A5.out).mono ?_); rintro e w9 ⟨rfl, hb⟩; refine ⟨_, rfl, ?_⟩; have n0_ := Aside0.mk (blk_below (g := gb200) (o := .cells #[.int .i64 a0_0, .int .i64 a0_1] 86 (0, 0)) (by (with_reducible repeat (first | refine blk_drewN ?_ _ | refine blk_drew ?_ | refine blk_alloc ?_ _)); exact BK200.out) hb); have n1_ := Aside0.mk (below_step (by repeat (first | (with_reducible first | exact HB.out | apply below_alloc | apply pw_below_drewN | apply below_drew1 | refine below_set ?_ GE200.out) | exact HB.out)) hb); clear BK200; clear HB; have BK200 := n0_; have HB := n1_; clear n0_ n1_; (try clear hb); (try clear hb2); (try clear hk); (try clear hi)) | ((with_reducible refine gate_dst (N := 3) rfl ?_); refine box_event ?hg (N := 3) ?hd (cs := #[.int .i64 0, .int .i64 0]) (t := 86) ?hr ?_; (case hd => rfl); (case hg => rfl); (case hr => first | (go_simp; done) | (go_simp; rfl)); intro gb204 hg w10 hbox hb; have n0_ := Aside0.mk (blk_below (g := gb200) (o := .cells #[.int .i64 a0_0, .int .i64 a0_1] 86 (0, 0)) (by (with_reducible repeat (first | refine blk_drewN ?_ _ | refine blk_drew ?_ | refine blk_alloc ?_ _)); exact BK200.out) hb); have n1_ := Aside0.mk (below_step (by repeat (first | (with_reducible first | exact HB.out | apply below_alloc | apply pw_below_drewN | apply below_drew1 | refine below_set ?_ GE200.out) | exact HB.out)) hb); have n2_ := Aside0.mk (hbox); have n3_ := Aside0.mk ((by rw [hg]; exact (below_size (by repeat (first | (with_reducible first | exact HB.out | apply below_alloc | apply pw_below_drewN | apply below_drew1 | refine below_set ?_ GE200.out) | exact HB.out))) : w.heap.size ≤ gb204)); have n4_ := Aside0.mk ((by rw [hg]; exact (below_size (by repeat (first | (with_reducible first | exact HB.out | apply below_alloc | apply pw_below_drewN | apply below_drew1 | refine below_set ?_ GE200.out) | exact HB.out))) : w.heap.size ≤ gb204)); have n5_ := Aside0.mk ((by rw [hg]; exact Nat.ne_of_lt (blk_lt (g := gb200) (o := .cells #[.int .i64 a0_0, .int .i64 a0_1] 86 (0, 0)) (by (with_reducible repeat (first | refine blk_drewN ?_ _ | refine blk_drew ?_ | refine blk_alloc ?_ _)); exact BK200.out)) : gb200 ≠ gb204)); have n6_ := Aside0.mk ((by rw [hg]; exact Nat.ne_of_gt (blk_lt (g := gb200) (o := .cells #[.int .i64 a0_0, .int .i64 a0_1] 86 (0, 0)) (by (with_reducible repeat (first | refine blk_drewN ?_ _ | refine blk_drew ?_ | refine blk_alloc ?_ _)); exact BK200.out)) : gb204 ≠ gb200)); clear BK200; clear HB; have BK200 := n0_; have HB := n1_; have BK204 := n2_; have GW204 := n3_; have GE204 := n4_; have NB200_204 := n5_; have NB204_200 := n6_; clear n0_ n1_ n2_ n3_ n4_ n5_ n6_; clear hb hbox hg; have hnb11 := NB204_200.out; have hnc11 := NB200_204.out; have hcz12_0 : w10.cell? ⟨gb204, 0, none⟩ = some (.int .i64 0) := (blk_cell BK204.out 0).trans rfl; have hcz12_1 : w10.cell? ⟨gb204, 1, none⟩ = some (.int .i64 0) := (blk_cell BK204.out 1).trans rfl; have hfz12_0 := blk_frozen BK204.out 0; have hfz12_1 := blk_frozen BK204.out 1; have hcz13_0 : w10.cell? ⟨gb200, 0, none⟩ = some (.int .i64 a0_0) := (blk_cell BK200.out 0).trans rfl; have hcz13_1 : w10.cell? ⟨gb200, 1, none⟩ = some (.int .i64 a0_1) := (blk_cell BK200.out 1).trans rfl; have hfz13_0 := blk_frozen BK200.out 0; have hfz13_1 := blk_frozen BK200.out 1))
   go_ret
   exact ⟨by first | rfl | (simp [errW_none, errW_some] <;> rfl) | (simp [*, errW_none, errW_some] <;> rfl), by repeat (first | (with_reducible first | exact HB.out | apply below_alloc | apply pw_below_drewN | apply below_drew1 | refine below_set ?_ GE200.out | refine below_set ?_ GE204.out) | exact HB.out)⟩
  ·rw [if_neg c6] at H
   have c6b0 : (t203 == 0) = false := beq_eq_false_iff_ne.mpr c6
   have c6b1 : (t203 != 0) = true := bne_iff_ne.mpr c6
   obtain rfl := Option.some.inj H
   go_enter Try.func65, Try.ntmps65
   go_wp2_with (first | ((with_reducible refine gate_dst (N := 1) rfl ?_); refine box_event ?hg (N := 1) ?hd (cs := #[.int .i64 a0_0, .int .i64 a0_1]) (t := 86) ?hr ?_; (case hd => rfl); (case hg => rfl); (case hr => first | (go_simp; done) | (go_simp; rfl)); intro gb200 hg w14 hbox hb; have n0_ := Aside0.mk (below_step (by repeat (first | (with_reducible first | exact HB.out | apply below_alloc | apply pw_below_drewN | apply below_drew1) | exact HB.out)) hb); have n1_ := Aside0.mk (hbox); have n2_ := Aside0.mk ((by rw [hg]; exact (below_size (by repeat (first | (with_reducible first | exact HB.out | apply below_alloc | apply pw_below_drewN | apply below_drew1) | exact HB.out))) : w.heap.size ≤ gb200)); have n3_ := Aside0.mk ((by rw [hg]; exact (below_size (by repeat (first | (with_reducible first | exact HB.out | apply below_alloc | apply pw_below_drewN | apply below_drew1) | exact HB.out))) : w.heap.size ≤ gb200)); clear HB; have HB := n0_; have BK200 := n1_; have GW200 := n2_; have GE200 := n3_; clear n0_ n1_ n2_ n3_; clear hb hbox hg; have hcz15_0 : w14.cell? ⟨gb200, 0, none⟩ = some (.int .i64 a0_0) := (blk_cell BK200.out 0).trans rfl; have hcz15_1 : w14.cell? ⟨gb200, 1, none⟩ = some (.int .i64 a0_1) := (blk_cell BK200.out 1).trans rfl; have hfz15_0 := blk_frozen BK200.out 0; have hfz15_1 := blk_frozen BK200.out 1) | ((with_reducible refine gate_callee (f := 82) rfl ?_); refine goesL_ (some 13) rfl rfl Try.func82 (by kernel_rfl) rfl #[.int .i64 a0_0, .int .i64 a0_1] rfl (by (try simp only [List.map_toArray, List.map_cons, List.map_nil]); first | done | rfl | (simp only [List.length_drop, List.length_take]; rfl)) ?_; (with_reducible refine (cohousingref01_Make.calls k a0_0 a0_1 t201 t202 t203 _ A5.out).mono ?_); rintro e w16 ⟨rfl, hb⟩; refine ⟨_, rfl, ?_⟩; have n0_ := Aside0.mk (blk_below (g := gb200) (o := .cells #[.int .i64 a0_0, .int .i64 a0_1] 86 (0, 0)) (by (with_reducible repeat (first | refine blk_drewN ?_ _ | refine blk_drew ?_ | refine blk_alloc ?_ _)); exact BK200.out) hb); have n1_ := Aside0.mk (below_step (by repeat (first | (with_reducible first | exact HB.out | apply below_alloc | apply pw_below_drewN | apply below_drew1 | refine below_set ?_ GE200.out) | exact HB.out)) hb); clear BK200; clear HB; have BK200 := n0_; have HB := n1_; clear n0_ n1_; (try clear hb); (try clear hb2); (try clear hk); (try clear hi)) | ((with_reducible refine gate_dst (N := 3) rfl ?_); refine box_event ?hg (N := 3) ?hd (cs := #[.int .i64 0, .int .i64 0]) (t := 86) ?hr ?_; (case hd => rfl); (case hg => rfl); (case hr => first | (go_simp; done) | (go_simp; rfl)); intro gb204 hg w17 hbox hb; have n0_ := Aside0.mk (blk_below (g := gb200) (o := .cells #[.int .i64 a0_0, .int .i64 a0_1] 86 (0, 0)) (by (with_reducible repeat (first | refine blk_drewN ?_ _ | refine blk_drew ?_ | refine blk_alloc ?_ _)); exact BK200.out) hb); have n1_ := Aside0.mk (below_step (by repeat (first | (with_reducible first | exact HB.out | apply below_alloc | apply pw_below_drewN | apply below_drew1 | refine below_set ?_ GE200.out) | exact HB.out)) hb); have n2_ := Aside0.mk (hbox); have n3_ := Aside0.mk ((by rw [hg]; exact (below_size (by repeat (first | (with_reducible first | exact HB.out | apply below_alloc | apply pw_below_drewN | apply below_drew1 | refine below_set ?_ GE200.out) | exact HB.out))) : w.heap.size ≤ gb204)); have n4_ := Aside0.mk ((by rw [hg]; exact (below_size (by repeat (first | (with_reducible first | exact HB.out | apply below_alloc | apply pw_below_drewN | apply below_drew1 | refine below_set ?_ GE200.out) | exact HB.out))) : w.heap.size ≤ gb204)); have n5_ := Aside0.mk ((by rw [hg]; exact Nat.ne_of_lt (blk_lt (g := gb200) (o := .cells #[.int .i64 a0_0, .int .i64 a0_1] 86 (0, 0)) (by (with_reducible repeat (first | refine blk_drewN ?_ _ | refine blk_drew ?_ | refine blk_alloc ?_ _)); exact BK200.out)) : gb200 ≠ gb204)); have n6_ := Aside0.mk ((by rw [hg]; exact Nat.ne_of_gt (blk_lt (g := gb200) (o := .cells #[.int .i64 a0_0, .int .i64 a0_1] 86 (0, 0)) (by (with_reducible repeat (first | refine blk_drewN ?_ _ | refine blk_drew ?_ | refine blk_alloc ?_ _)); exact BK200.out)) : gb204 ≠ gb200)); clear BK200; clear HB; have BK200 := n0_; have HB := n1_; have BK204 := n2_; have GW204 := n3_; have GE204 := n4_; have NB200_204 := n5_; have NB204_200 := n6_; clear n0_ n1_ n2_ n3_ n4_ n5_ n6_; clear hb hbox hg; have hnb18 := NB204_200.out; have hnc18 := NB200_204.out; have hcz19_0 : w17.cell? ⟨gb204, 0, none⟩ = some (.int .i64 0) := (blk_cell BK204.out 0).trans rfl; have hcz19_1 : w17.cell? ⟨gb204, 1, none⟩ = some (.int .i64 0) := (blk_cell BK204.out 1).trans rfl; have hfz19_0 := blk_frozen BK204.out 0; have hfz19_1 := blk_frozen BK204.out 1))
   go_ret
   exact ⟨by first | rfl | (simp [errW_none, errW_some] <;> rfl) | (simp [*, errW_none, errW_some] <;> rfl), by repeat (first | (with_reducible first | exact HB.out | apply below_alloc | apply pw_below_drewN | apply below_drew1 | refine below_set ?_ GE200.out | refine below_set ?_ GE204.out) | exact HB.out)⟩
end Go.Proofs.Ytbgchacafglcpaa.P
end
section
namespace Go.Proofs.Ytbgchacafglcpaa.P
open Go.RowKit Go.Proofs.YtbgchacafglcpaaW.PrintWords Go.Proofs.YtbgchacafglcpaaW.PrintLast Go.Proofs.YtbgchacafglcpaaW.PrintMore
attribute [local go_sem] max2_int min2_int max_two min_two max_three min_three max_four min_four
set_option linter.unusedVariables false
set_option linter.unusedSimpArgs false
mutual
def cohousingref02_Scale.j0 : Nat → Int → Bool → Int → Int → Option (Int × Int)
 | 0, _, _, _, _ => none
 | k + 1, x0, x21, x206000, x206001 => if x21 = true then (some (0, 1)) else (if x206001 = 0 then (none) else (if (Int.tmod (wrap64 (x0 * x206000)) x206001) < 0 then (cohousingref02_Scale.j1 k (wrap64 (Int.tdiv (wrap64 (x0 * x206000)) x206001)) (Int.tmod (wrap64 (x0 * x206000)) x206001) (decide ((wrap64 ((-2) * (Int.tmod (wrap64 (x0 * x206000)) x206001))) ≥ x206001)) x206000 x206001) else (cohousingref02_Scale.j1 k (wrap64 (Int.tdiv (wrap64 (x0 * x206000)) x206001)) (Int.tmod (wrap64 (x0 * x206000)) x206001) false x206000 x206001)))
def cohousingref02_Scale.j1 : Nat → Int → Int → Bool → Int → Int → Option (Int × Int)
 | 0, _, _, _, _, _ => none
 | k + 1, x9, x10, x42, x206000, x206001 => if x42 = true then (cohousingref02_Scale.j2 k (wrap64 (x9 - 1)) x10 x206000 x206001) else (cohousingref02_Scale.j2 k x9 x10 x206000 x206001)
def cohousingref02_Scale.j2 : Nat → Int → Int → Int → Int → Option (Int × Int)
 | 0, _, _, _, _ => none
 | k + 1, x9, x10, x206000, x206001 => if x10 > 0 then (cohousingref02_Scale.j3 k x9 (decide ((wrap64 (2 * x10)) ≥ x206001))) else (cohousingref02_Scale.j3 k x9 false)
def cohousingref02_Scale.j3 : Nat → Int → Bool → Option (Int × Int)
 | 0, _, _ => none
 | k + 1, x9, x53 => if x53 = true then ((cohousingref02_Amount.f (wrap64 (x9 + 1))).bind fun t208 => (if t208 = true then (some (wrap64 (x9 + 1), 0)) else (some (0, 3)))) else ((cohousingref02_Amount.f x9).bind fun t209 => (if t209 = true then (some (x9, 0)) else (some (0, 3))))
end
def cohousingref02_Scale.f (k : Nat) (a0 : Int) (a1_0 : Int) (a1_1 : Int) : Option (Int × Int) := (cohousingref02_Amount.f a0).bind fun t206 => ((cohousingref01_Valid.f k a1_0 a1_1).bind fun t207 => (if t206 = true then (cohousingref02_Scale.j0 k a0 (!t207) a1_0 a1_1) else (cohousingref02_Scale.j0 k a0 true a1_0 a1_1)))
theorem cohousingref02_Scale.mono_l : ∀ k, (∀ y0 y1 y2 y3, LeO (cohousingref02_Scale.j0 k y0 y1 y2 y3) (cohousingref02_Scale.j0 (k + 1) y0 y1 y2 y3)) ∧ (∀ y0 y1 y2 y3 y4, LeO (cohousingref02_Scale.j1 k y0 y1 y2 y3 y4) (cohousingref02_Scale.j1 (k + 1) y0 y1 y2 y3 y4)) ∧ (∀ y0 y1 y2 y3, LeO (cohousingref02_Scale.j2 k y0 y1 y2 y3) (cohousingref02_Scale.j2 (k + 1) y0 y1 y2 y3)) ∧ (∀ y0 y1, LeO (cohousingref02_Scale.j3 k y0 y1) (cohousingref02_Scale.j3 (k + 1) y0 y1))
 | 0 => ⟨fun _ _ _ _ r h => by simp [cohousingref02_Scale.j0] at h, fun _ _ _ _ _ r h => by simp [cohousingref02_Scale.j1] at h, fun _ _ _ _ r h => by simp [cohousingref02_Scale.j2] at h, fun _ _ r h => by simp [cohousingref02_Scale.j3] at h⟩
 | k + 1 => by
  obtain ⟨ih0, ih1, ih2, ih3⟩ := cohousingref02_Scale.mono_l k
  refine ⟨?_, ?_, ?_, ?_⟩
  ·intro y0 y1 y2 y3
   unfold cohousingref02_Scale.j0
   repeat' first
   | (with_reducible exact ih0 _ _ _ _)
   | (with_reducible exact ih1 _ _ _ _ _)
   | (with_reducible exact ih2 _ _ _ _)
   | (with_reducible exact ih3 _ _)
   | (with_reducible exact cohousingref01_Valid.mono _ _ _)
   | (with_reducible exact LeO.refl _)
   | (with_reducible exact LeO.none _)
   | (with_reducible refine LeO.ite ?_ ?_)
   | (with_reducible refine LeO.bind ?_ (fun _ => ?_))
   | exact ih0 _ _ _ _
   | exact ih1 _ _ _ _ _
   | exact ih2 _ _ _ _
   | exact ih3 _ _
   | exact cohousingref01_Valid.mono _ _ _
   | exact LeO.none _
   | refine LeO.ite ?_ ?_
   | refine LeO.bind ?_ (fun _ => ?_)
  ·intro y0 y1 y2 y3 y4
   unfold cohousingref02_Scale.j1
   repeat' first
   | (with_reducible exact ih0 _ _ _ _)
   | (with_reducible exact ih1 _ _ _ _ _)
   | (with_reducible exact ih2 _ _ _ _)
   | (with_reducible exact ih3 _ _)
   | (with_reducible exact cohousingref01_Valid.mono _ _ _)
   | (with_reducible exact LeO.refl _)
   | (with_reducible exact LeO.none _)
   | (with_reducible refine LeO.ite ?_ ?_)
   | (with_reducible refine LeO.bind ?_ (fun _ => ?_))
   | exact ih0 _ _ _ _
   | exact ih1 _ _ _ _ _
   | exact ih2 _ _ _ _
   | exact ih3 _ _
   | exact cohousingref01_Valid.mono _ _ _
   | exact LeO.none _
   | refine LeO.ite ?_ ?_
   | refine LeO.bind ?_ (fun _ => ?_)
  ·intro y0 y1 y2 y3
   unfold cohousingref02_Scale.j2
   repeat' first
   | (with_reducible exact ih0 _ _ _ _)
   | (with_reducible exact ih1 _ _ _ _ _)
   | (with_reducible exact ih2 _ _ _ _)
   | (with_reducible exact ih3 _ _)
   | (with_reducible exact cohousingref01_Valid.mono _ _ _)
   | (with_reducible exact LeO.refl _)
   | (with_reducible exact LeO.none _)
   | (with_reducible refine LeO.ite ?_ ?_)
   | (with_reducible refine LeO.bind ?_ (fun _ => ?_))
   | exact ih0 _ _ _ _
   | exact ih1 _ _ _ _ _
   | exact ih2 _ _ _ _
   | exact ih3 _ _
   | exact cohousingref01_Valid.mono _ _ _
   | exact LeO.none _
   | refine LeO.ite ?_ ?_
   | refine LeO.bind ?_ (fun _ => ?_)
  ·intro y0 y1
   unfold cohousingref02_Scale.j3
   repeat' first
   | (with_reducible exact ih0 _ _ _ _)
   | (with_reducible exact ih1 _ _ _ _ _)
   | (with_reducible exact ih2 _ _ _ _)
   | (with_reducible exact ih3 _ _)
   | (with_reducible exact cohousingref01_Valid.mono _ _ _)
   | (with_reducible exact LeO.refl _)
   | (with_reducible exact LeO.none _)
   | (with_reducible refine LeO.ite ?_ ?_)
   | (with_reducible refine LeO.bind ?_ (fun _ => ?_))
   | exact ih0 _ _ _ _
   | exact ih1 _ _ _ _ _
   | exact ih2 _ _ _ _
   | exact ih3 _ _
   | exact cohousingref01_Valid.mono _ _ _
   | exact LeO.none _
   | refine LeO.ite ?_ ?_
   | refine LeO.bind ?_ (fun _ => ?_)
theorem cohousingref02_Scale.mono : ∀ a0 a1 a2 k, LeO (cohousingref02_Scale.f k a0 a1 a2) (cohousingref02_Scale.f (k + 1) a0 a1 a2) := by
 intro a0 a1 a2 k
 obtain ⟨ih0, ih1, ih2, ih3⟩ := cohousingref02_Scale.mono_l k
 unfold cohousingref02_Scale.f
 repeat' first
   | (with_reducible exact ih0 _ _ _ _)
   | (with_reducible exact ih1 _ _ _ _ _)
   | (with_reducible exact ih2 _ _ _ _)
   | (with_reducible exact ih3 _ _)
   | (with_reducible exact cohousingref01_Valid.mono _ _ _)
   | (with_reducible exact LeO.refl _)
   | (with_reducible exact LeO.none _)
   | (with_reducible refine LeO.ite ?_ ?_)
   | (with_reducible refine LeO.bind ?_ (fun _ => ?_))
   | exact ih0 _ _ _ _
   | exact ih1 _ _ _ _ _
   | exact ih2 _ _ _ _
   | exact ih3 _ _
   | exact cohousingref01_Valid.mono _ _ _
   | exact LeO.none _
   | refine LeO.ite ?_ ?_
   | refine LeO.bind ?_ (fun _ => ?_)
set_option maxHeartbeats 8000000 in
set_option maxRecDepth 100000 in
theorem cohousingref02_Scale.calls (k : Nat) (a0 : Int) (a1_0 : Int) (a1_1 : Int) (r1 : Int) (r2 : Int) (w : World) (h : cohousingref02_Scale.f k a0 a1_0 a1_1 = some (r1, r2)) :
  Calls Try.prog 41 #[.int .i64 a0, .agg #[.int .i64 a1_0, .int .i64 a1_1]] w fun e w' => e = .returned (.tuple #[.int .i64 r1, .int .i64 r2]) ∧ Below w.heap.size w w' := by
 have hu86 := Try.underlying86
 have HB := Aside0.mk (Below.refl w.heap.size w)
 have H : ((cohousingref02_Amount.f a0).bind fun t206 => ((cohousingref01_Valid.f k a1_0 a1_1).bind fun t207 => (if t206 = true then (cohousingref02_Scale.j0 k a0 (!t207) a1_0 a1_1) else (cohousingref02_Scale.j0 k a0 true a1_0 a1_1)))) = some (r1, r2) := h
 clear h
 replace H := Option.bind_eq_some_iff.mp H
 obtain ⟨t206, A30, H⟩ := H
 replace H : ((cohousingref01_Valid.f k a1_0 a1_1).bind fun t207 => (if t206 = true then (cohousingref02_Scale.j0 k a0 (!t207) a1_0 a1_1) else (cohousingref02_Scale.j0 k a0 true a1_0 a1_1))) = some (r1, r2) := H
 have A3 := Aside0.mk A30
 clear A30
 replace H := Option.bind_eq_some_iff.mp H
 obtain ⟨t207, A40, H⟩ := H
 replace H : (if t206 = true then (cohousingref02_Scale.j0 k a0 (!t207) a1_0 a1_1) else (cohousingref02_Scale.j0 k a0 true a1_0 a1_1)) = some (r1, r2) := H
 have A4 := Aside0.mk A40
 clear A40
 have HC5 := Aside0.mk H
 clear H
 go_enter Try.func41, Try.ntmps41
 go_upto_region 3 with (first | ((with_reducible refine gate_dst (N := 3) rfl ?_); refine box_event ?hg (N := 3) ?hd (cs := #[.int .i64 a1_0, .int .i64 a1_1]) (t := 86) ?hr ?_; (case hd => rfl); (case hg => rfl); (case hr => first | (go_simp; done) | (go_simp; rfl)); intro gb205 hg w6 hbox hb; have n0_ := Aside0.mk (below_step (by repeat (first | (with_reducible first | exact HB.out | apply below_alloc | apply pw_below_drewN | apply below_drew1) | exact HB.out)) hb); have n1_ := Aside0.mk (hbox); have n2_ := Aside0.mk ((by rw [hg]; exact (below_size (by repeat (first | (with_reducible first | exact HB.out | apply below_alloc | apply pw_below_drewN | apply below_drew1) | exact HB.out))) : w.heap.size ≤ gb205)); have n3_ := Aside0.mk ((by rw [hg]; exact (below_size (by repeat (first | (with_reducible first | exact HB.out | apply below_alloc | apply pw_below_drewN | apply below_drew1) | exact HB.out))) : w.heap.size ≤ gb205)); clear HB; have HB := n0_; have BK205 := n1_; have GW205 := n2_; have GE205 := n3_; clear n0_ n1_ n2_ n3_; clear hb hbox hg) | ((with_reducible refine gate_callee (f := 64) rfl ?_); refine goesL_ (some 13) rfl rfl Try.func64 (by kernel_rfl) rfl #[.int .i64 a0] rfl (by (try simp only [List.map_toArray, List.map_cons, List.map_nil]); first | done | rfl | (simp only [List.length_drop, List.length_take]; rfl)) ?_; (with_reducible refine (cohousingref02_Amount.calls a0 t206 _ A3.out).mono ?_); rintro e w' ⟨rfl, ⟨nd, rfl⟩⟩; refine ⟨_, rfl, ?_⟩; have hcz7_0 : w6.cell? ⟨gb205, 0, none⟩ = some (.int .i64 a1_0) := (blk_cell BK205.out 0).trans rfl; have hcz7_1 : w6.cell? ⟨gb205, 1, none⟩ = some (.int .i64 a1_1) := (blk_cell BK205.out 1).trans rfl; have hfz7_0 := blk_frozen BK205.out 0; have hfz7_1 := blk_frozen BK205.out 1) | ((with_reducible refine gate_callee (f := 65) rfl ?_); refine goesL_ (some 15) rfl rfl Try.func65 (by kernel_rfl) rfl #[.agg #[.int .i64 a1_0, .int .i64 a1_1]] rfl (by (try simp only [List.map_toArray, List.map_cons, List.map_nil]); first | done | rfl | (simp only [List.length_drop, List.length_take]; rfl)) ?_; (with_reducible refine (cohousingref01_Valid.calls k a1_0 a1_1 t207 _ A4.out).mono ?_); rintro e w8 ⟨rfl, hb⟩; refine ⟨_, rfl, ?_⟩; have n0_ := Aside0.mk (blk_below (g := gb205) (o := .cells #[.int .i64 a1_0, .int .i64 a1_1] 86 (0, 0)) (by (with_reducible repeat (first | refine blk_drewN ?_ _ | refine blk_drew ?_ | refine blk_alloc ?_ _)); exact BK205.out) hb); have n1_ := Aside0.mk (below_step (by repeat (first | (with_reducible first | exact HB.out | apply below_alloc | apply pw_below_drewN | apply below_drew1 | refine below_set ?_ GE205.out) | exact HB.out)) hb); clear BK205; clear HB; have BK205 := n0_; have HB := n1_; clear n0_ n1_; (try clear hb); (try clear hb2); (try clear hk); (try clear hi)))
 (try simp only [Act.put, sI_, s0_, sS_])
 go_cut [21] (fun v21 wc => ∃ (kq : Nat) (x21_4 : Bool), v21 = .bool x21_4 ∧ Aside0 (cohousingref02_Scale.j0 kq a0 x21_4 a1_0 a1_1 = some (r1, r2)) ∧ Aside0 (kq ≤ k) ∧ Aside0 (wc.heap[gb205]? = some (.cells #[.int .i64 a1_0, .int .i64 a1_1] 86 (0, 0))) ∧ Aside0 (Below w.heap.size w wc))
 case first =>
  have H := HC5.out
  clear HC5
  by_cases c9 : t206 = true
  ·subst c9
   have H1 : (cohousingref02_Scale.j0 k a0 (!t207) a1_0 a1_1) = some (r1, r2) := by rw [if_pos rfl] at H; exact H
   clear H
   have H := H1
   clear H1
   have H' := Aside0.mk H
   clear H
   go_wp2
   go_meet
   case rel => exact ⟨_, (!t207), (by first | rfl | (simp; done) | (simp [*]; done)), H', ⟨by first | omega | exact Nat.le_refl _⟩, ⟨by (with_reducible repeat (first | refine blk_drewN ?_ _ | refine blk_drew ?_ | refine blk_alloc ?_ _)); exact BK205.out⟩, ⟨by repeat (first | (with_reducible first | exact HB.out | apply below_alloc | apply pw_below_drewN | apply below_drew1 | refine below_set ?_ GE205.out) | exact HB.out)⟩⟩
  ·replace c9 := Bool.eq_false_iff.mpr c9
   subst c9
   have H1 : (cohousingref02_Scale.j0 k a0 true a1_0 a1_1) = some (r1, r2) := by rw [if_neg (show ¬ (false = true) by decide)] at H; exact H
   clear H
   have H := H1
   clear H1
   have H' := Aside0.mk H
   clear H
   go_wp2
   go_meet
   case rel => exact ⟨_, (true), (by first | rfl | (simp; done) | (simp [*]; done)), H', ⟨by first | omega | exact Nat.le_refl _⟩, ⟨by (with_reducible repeat (first | refine blk_drewN ?_ _ | refine blk_drew ?_ | refine blk_alloc ?_ _)); exact BK205.out⟩, ⟨by repeat (first | (with_reducible first | exact HB.out | apply below_alloc | apply pw_below_drewN | apply below_drew1 | refine below_set ?_ GE205.out) | exact HB.out)⟩⟩
 case rest =>
  clear HC5
  try clear p2
  try clear c4
  try clear c6
  try clear c9
  try clear hcz7_0
  try clear hcz7_1
  try clear hfz7_0
  try clear hfz7_1
  obtain ⟨kq, x21_4, rfl, HA, HJ4, BK205, HB⟩ := hcut
  cases kq with
  | zero => exact absurd HA.out (by simp [cohousingref02_Scale.j0])
  | succ kj4 =>
   have H := HA.out
   clear HA
   simp only [cohousingref02_Scale.j0] at H
   by_cases c10 : x21_4 = true
   ·subst c10
    have H1 : (some (0, 1)) = some (r1, r2) := by rw [if_pos rfl] at H; exact H
    clear H
    have H := H1
    clear H1
    simp only [Option.some.injEq, Prod.mk.injEq] at H
    obtain ⟨rfl, rfl⟩ := H
    go_wp2
    go_ret2
    exact ⟨by first | rfl | (simp [errW_none, errW_some] <;> rfl) | (simp [*, errW_none, errW_some] <;> rfl), by repeat (first | (with_reducible first | exact HB.out | apply below_alloc | apply pw_below_drewN | apply below_drew1 | refine below_set ?_ GE205.out) | exact HB.out)⟩
   ·replace c10 := Bool.eq_false_iff.mpr c10
    subst c10
    have H1 : (if a1_1 = 0 then (none) else (if (Int.tmod (wrap64 (a0 * a1_0)) a1_1) < 0 then (cohousingref02_Scale.j1 kj4 (wrap64 (Int.tdiv (wrap64 (a0 * a1_0)) a1_1)) (Int.tmod (wrap64 (a0 * a1_0)) a1_1) (decide ((wrap64 ((-2) * (Int.tmod (wrap64 (a0 * a1_0)) a1_1))) ≥ a1_1)) a1_0 a1_1) else (cohousingref02_Scale.j1 kj4 (wrap64 (Int.tdiv (wrap64 (a0 * a1_0)) a1_1)) (Int.tmod (wrap64 (a0 * a1_0)) a1_1) false a1_0 a1_1))) = some (r1, r2) := by rw [if_neg (show ¬ (false = true) by decide)] at H; exact H
    clear H
    have H := H1
    clear H1
    by_cases c11 : a1_1 = 0
    ·rw [if_pos c11] at H
     exact absurd H (by simp)
    ·rw [if_neg c11] at H
     have c11b0 : (a1_1 == 0) = false := beq_eq_false_iff_ne.mpr c11
     have c11b1 : (a1_1 != 0) = true := bne_iff_ne.mpr c11
     have HC12 := Aside0.mk H
     clear H
     have hcz13_0 : wc.cell? ⟨gb205, 0, none⟩ = some (.int .i64 a1_0) := (blk_cell BK205.out 0).trans rfl
     have hcz13_1 : wc.cell? ⟨gb205, 1, none⟩ = some (.int .i64 a1_1) := (blk_cell BK205.out 1).trans rfl
     have hfz13_0 := blk_frozen BK205.out 0
     have hfz13_1 := blk_frozen BK205.out 1
     go_upto_region 8 with (fail)
     go_cut [42] (fun v42 wc => ∃ (kq : Nat) (x42_11 : Bool), v42 = .bool x42_11 ∧ Aside0 (cohousingref02_Scale.j1 kq (wrap64 (Int.tdiv (wrap64 (a0 * a1_0)) a1_1)) (Int.tmod (wrap64 (a0 * a1_0)) a1_1) x42_11 a1_0 a1_1 = some (r1, r2)) ∧ Aside0 (kq ≤ kj4) ∧ Aside0 (wc.heap[gb205]? = some (.cells #[.int .i64 a1_0, .int .i64 a1_1] 86 (0, 0))) ∧ Aside0 (Below w.heap.size w wc))
     case first =>
      have H := HC12.out
      clear HC12
      by_cases c14 : (Int.tmod (wrap64 (a0 * a1_0)) a1_1) < 0
      ·rw [if_pos c14] at H
       have c14b0 : decide ((Int.tmod (wrap64 (a0 * a1_0)) a1_1) < 0) = true := decide_eq_true c14
       clear c14
       (first | rw [c14b0] | (simp only [i64_w, i32_w]; rw [c14b0]) | skip)
       have H' := Aside0.mk H
       clear H
       have hcz15_0 : wc.cell? ⟨gb205, 0, none⟩ = some (.int .i64 a1_0) := (blk_cell BK205.out 0).trans rfl
       have hcz15_1 : wc.cell? ⟨gb205, 1, none⟩ = some (.int .i64 a1_1) := (blk_cell BK205.out 1).trans rfl
       have hfz15_0 := blk_frozen BK205.out 0
       have hfz15_1 := blk_frozen BK205.out 1
       go_wp2
       go_meet
       case rel => exact ⟨_, (decide ((wrap64 ((-2) * (Int.tmod (wrap64 (a0 * a1_0)) a1_1))) ≥ a1_1)), (by first | rfl | (simp; done) | (simp [*]; done)), H', ⟨by have := HJ4.out; first | omega | exact Nat.le_refl _⟩, ⟨by (with_reducible repeat (first | refine blk_drewN ?_ _ | refine blk_drew ?_ | refine blk_alloc ?_ _)); exact BK205.out⟩, ⟨by repeat (first | (with_reducible first | exact HB.out | apply below_alloc | apply pw_below_drewN | apply below_drew1 | refine below_set ?_ GE205.out) | exact HB.out)⟩⟩
      ·rw [if_neg c14] at H
       have c14b0 : decide ((Int.tmod (wrap64 (a0 * a1_0)) a1_1) < 0) = false := decide_eq_false c14
       clear c14
       (first | rw [c14b0] | (simp only [i64_w, i32_w]; rw [c14b0]) | skip)
       have H' := Aside0.mk H
       clear H
       go_wp2
       go_meet
       case rel => exact ⟨_, (false), (by first | rfl | (simp; done) | (simp [*]; done)), H', ⟨by have := HJ4.out; first | omega | exact Nat.le_refl _⟩, ⟨by (with_reducible repeat (first | refine blk_drewN ?_ _ | refine blk_drew ?_ | refine blk_alloc ?_ _)); exact BK205.out⟩, ⟨by repeat (first | (with_reducible first | exact HB.out | apply below_alloc | apply pw_below_drewN | apply below_drew1 | refine below_set ?_ GE205.out) | exact HB.out)⟩⟩
     case rest =>
      clear HC12
      try clear c1
      try clear p2
      try clear c4
      try clear c6
      try clear p6
      try clear c9
      try clear c10
      try clear c11
      try clear c11b0
      try clear c11b1
      try clear c14
      try clear c14b0
      try clear hcz13_0
      try clear hcz13_1
      try clear hcz15_0
      try clear hcz15_1
      try clear hcz7_0
      try clear hcz7_1
      try clear hfz13_0
      try clear hfz13_1
      try clear hfz15_0
      try clear hfz15_1
      try clear hfz7_0
      try clear hfz7_1
      try clear p2
      obtain ⟨kq, x42_11, rfl, HA, HJ11, BK205, HB⟩ := hcut
      cases kq with
      | zero => exact absurd HA.out (by simp [cohousingref02_Scale.j1])
      | succ kj11 =>
       have H := HA.out
       clear HA
       simp only [cohousingref02_Scale.j1] at H
       have HC16 := Aside0.mk H
       clear H
       go_upto_if 42 with (fail)
       go_cut [9] (fun v9 wc => ∃ (kq : Nat) (x9_15 : Int), v9 = .int .i64 x9_15 ∧ Aside0 (cohousingref02_Scale.j2 kq x9_15 (Int.tmod (wrap64 (a0 * a1_0)) a1_1) a1_0 a1_1 = some (r1, r2)) ∧ Aside0 (kq ≤ kj11) ∧ Aside0 (wc.heap[gb205]? = some (.cells #[.int .i64 a1_0, .int .i64 a1_1] 86 (0, 0))) ∧ Aside0 (Below w.heap.size w wc))
       case first =>
        have H := HC16.out
        clear HC16
        by_cases c17 : x42_11 = true
        ·subst c17
         have H1 : (cohousingref02_Scale.j2 kj11 (wrap64 ((wrap64 (Int.tdiv (wrap64 (a0 * a1_0)) a1_1)) - 1)) (Int.tmod (wrap64 (a0 * a1_0)) a1_1) a1_0 a1_1) = some (r1, r2) := by rw [if_pos rfl] at H; exact H
         clear H
         have H := H1
         clear H1
         have H' := Aside0.mk H
         clear H
         go_wp2
         go_meet
         case rel => exact ⟨_, (wrap64 ((wrap64 (Int.tdiv (wrap64 (a0 * a1_0)) a1_1)) - 1)), (by first | rfl | (simp; done) | (simp [*]; done)), H', ⟨by have := HJ4.out; have := HJ11.out; first | omega | exact Nat.le_refl _⟩, ⟨by (with_reducible repeat (first | refine blk_drewN ?_ _ | refine blk_drew ?_ | refine blk_alloc ?_ _)); exact BK205.out⟩, ⟨by repeat (first | (with_reducible first | exact HB.out | apply below_alloc | apply pw_below_drewN | apply below_drew1 | refine below_set ?_ GE205.out) | exact HB.out)⟩⟩
        ·replace c17 := Bool.eq_false_iff.mpr c17
         subst c17
         have H1 : (cohousingref02_Scale.j2 kj11 (wrap64 (Int.tdiv (wrap64 (a0 * a1_0)) a1_1)) (Int.tmod (wrap64 (a0 * a1_0)) a1_1) a1_0 a1_1) = some (r1, r2) := by rw [if_neg (show ¬ (false = true) by decide)] at H; exact H
         clear H
         have H := H1
         clear H1
         have H' := Aside0.mk H
         clear H
         go_wp2
         go_meet
         case rel => exact ⟨_, ((wrap64 (Int.tdiv (wrap64 (a0 * a1_0)) a1_1))), (by first | rfl | (simp; done) | (simp [*]; done)), H', ⟨by have := HJ4.out; have := HJ11.out; first | omega | exact Nat.le_refl _⟩, ⟨by (with_reducible repeat (first | refine blk_drewN ?_ _ | refine blk_drew ?_ | refine blk_alloc ?_ _)); exact BK205.out⟩, ⟨by repeat (first | (with_reducible first | exact HB.out | apply below_alloc | apply pw_below_drewN | apply below_drew1 | refine below_set ?_ GE205.out) | exact HB.out)⟩⟩
       case rest =>
        clear HC16
        try clear c1
        try clear p2
        try clear c4
        try clear c6
        try clear p6
        try clear c9
        try clear c10
        try clear c11
        try clear c11b0
        try clear c11b1
        try clear c14
        try clear c14b0
        try clear c17
        try clear hcz13_0
        try clear hcz13_1
        try clear hcz15_0
        try clear hcz15_1
        try clear hcz7_0
        try clear hcz7_1
        try clear hfz13_0
        try clear hfz13_1
        try clear hfz15_0
        try clear hfz15_1
        try clear hfz7_0
        try clear hfz7_1
        try clear p2
        try clear p6
        obtain ⟨kq, x9_15, rfl, HA, HJ15, BK205, HB⟩ := hcut
        cases kq with
        | zero => exact absurd HA.out (by simp [cohousingref02_Scale.j2])
        | succ kj15 =>
         have H := HA.out
         clear HA
         simp only [cohousingref02_Scale.j2] at H
         have HC18 := Aside0.mk H
         clear H
         go_upto_region 10 with (fail)
         go_cut [53] (fun v53 wc => ∃ (kq : Nat) (x53_17 : Bool), v53 = .bool x53_17 ∧ Aside0 (cohousingref02_Scale.j3 kq x9_15 x53_17 = some (r1, r2)) ∧ Aside0 (kq ≤ kj15) ∧ Aside0 (wc.heap[gb205]? = some (.cells #[.int .i64 a1_0, .int .i64 a1_1] 86 (0, 0))) ∧ Aside0 (Below w.heap.size w wc))
         case first =>
          have H := HC18.out
          clear HC18
          by_cases c19 : (Int.tmod (wrap64 (a0 * a1_0)) a1_1) > 0
          ·rw [if_pos c19] at H
           have c19b0 : decide (0 < (Int.tmod (wrap64 (a0 * a1_0)) a1_1)) = true := decide_eq_true c19
           clear c19
           (first | rw [c19b0] | (simp only [i64_w, i32_w]; rw [c19b0]) | skip)
           have H' := Aside0.mk H
           clear H
           have hcz20_0 : wc.cell? ⟨gb205, 0, none⟩ = some (.int .i64 a1_0) := (blk_cell BK205.out 0).trans rfl
           have hcz20_1 : wc.cell? ⟨gb205, 1, none⟩ = some (.int .i64 a1_1) := (blk_cell BK205.out 1).trans rfl
           have hfz20_0 := blk_frozen BK205.out 0
           have hfz20_1 := blk_frozen BK205.out 1
           go_wp2
           go_meet
           case rel => exact ⟨_, (decide ((wrap64 (2 * (Int.tmod (wrap64 (a0 * a1_0)) a1_1))) ≥ a1_1)), (by first | rfl | (simp; done) | (simp [*]; done)), H', ⟨by have := HJ4.out; have := HJ11.out; have := HJ15.out; first | omega | exact Nat.le_refl _⟩, ⟨by (with_reducible repeat (first | refine blk_drewN ?_ _ | refine blk_drew ?_ | refine blk_alloc ?_ _)); exact BK205.out⟩, ⟨by repeat (first | (with_reducible first | exact HB.out | apply below_alloc | apply pw_below_drewN | apply below_drew1 | refine below_set ?_ GE205.out) | exact HB.out)⟩⟩
          ·rw [if_neg c19] at H
           have c19b0 : decide (0 < (Int.tmod (wrap64 (a0 * a1_0)) a1_1)) = false := decide_eq_false c19
           clear c19
           (first | rw [c19b0] | (simp only [i64_w, i32_w]; rw [c19b0]) | skip)
           have H' := Aside0.mk H
           clear H
           go_wp2
           go_meet
           case rel => exact ⟨_, (false), (by first | rfl | (simp; done) | (simp [*]; done)), H', ⟨by have := HJ4.out; have := HJ11.out; have := HJ15.out; first | omega | exact Nat.le_refl _⟩, ⟨by (with_reducible repeat (first | refine blk_drewN ?_ _ | refine blk_drew ?_ | refine blk_alloc ?_ _)); exact BK205.out⟩, ⟨by repeat (first | (with_reducible first | exact HB.out | apply below_alloc | apply pw_below_drewN | apply below_drew1 | refine below_set ?_ GE205.out) | exact HB.out)⟩⟩
         case rest =>
          clear HC18
          try clear c1
          try clear p2
          try clear c4
          try clear c6
          try clear p6
          try clear c9
          try clear c10
          try clear c11
          try clear c11b0
          try clear c11b1
          try clear c14
          try clear c14b0
          try clear c17
          try clear c19
          try clear c19b0
          try clear hcz13_0
          try clear hcz13_1
          try clear hcz15_0
          try clear hcz15_1
          try clear hcz20_0
          try clear hcz20_1
          try clear hcz7_0
          try clear hcz7_1
          try clear hfz13_0
          try clear hfz13_1
          try clear hfz15_0
          try clear hfz15_1
          try clear hfz20_0
          try clear hfz20_1
          try clear hfz7_0
          try clear hfz7_1
          try clear p2
          try clear p6
          obtain ⟨kq, x53_17, rfl, HA, HJ17, BK205, HB⟩ := hcut
          cases kq with
          | zero => exact absurd HA.out (by simp [cohousingref02_Scale.j3])
          | succ kj17 =>
           have H := HA.out
           clear HA
           simp only [cohousingref02_Scale.j3] at H
           by_cases c21 : x53_17 = true
           ·subst c21
            have H1 : ((cohousingref02_Amount.f (wrap64 (x9_15 + 1))).bind fun t208 => (if t208 = true then (some (wrap64 (x9_15 + 1), 0)) else (some (0, 3)))) = some (r1, r2) := by rw [if_pos rfl] at H; exact H
            clear H
            have H := H1
            clear H1
            replace H := Option.bind_eq_some_iff.mp H
            obtain ⟨t208, A220, H⟩ := H
            replace H : (if t208 = true then (some (wrap64 (x9_15 + 1), 0)) else (some (0, 3))) = some (r1, r2) := H
            have A22 := Aside0.mk A220
            clear A220
            by_cases c23 : t208 = true
            ·subst c23
             have H1 : (some (wrap64 (x9_15 + 1), 0)) = some (r1, r2) := by rw [if_pos rfl] at H; exact H
             clear H
             have H := H1
             clear H1
             simp only [Option.some.injEq, Prod.mk.injEq] at H
             obtain ⟨rfl, rfl⟩ := H
             go_wp2_with (first | ((with_reducible refine gate_callee (f := 64) rfl ?_); refine goesL_ (some 57) rfl rfl Try.func64 (by kernel_rfl) rfl #[.int .i64 (wrap64 (x9_15 + 1))] rfl (by (try simp only [List.map_toArray, List.map_cons, List.map_nil]); first | done | rfl | (simp only [List.length_drop, List.length_take]; rfl)) ?_; (with_reducible refine (cohousingref02_Amount.calls (wrap64 (x9_15 + 1)) true _ A22.out).mono ?_); rintro e w' ⟨rfl, ⟨nd, rfl⟩⟩; refine ⟨_, rfl, ?_⟩))
             go_ret2
             exact ⟨by first | rfl | (simp [errW_none, errW_some] <;> rfl) | (simp [*, errW_none, errW_some] <;> rfl), by repeat (first | (with_reducible first | exact HB.out | apply below_alloc | apply pw_below_drewN | apply below_drew1 | refine below_set ?_ GE205.out) | exact HB.out)⟩
            ·replace c23 := Bool.eq_false_iff.mpr c23
             subst c23
             have H1 : (some (0, 3)) = some (r1, r2) := by rw [if_neg (show ¬ (false = true) by decide)] at H; exact H
             clear H
             have H := H1
             clear H1
             simp only [Option.some.injEq, Prod.mk.injEq] at H
             obtain ⟨rfl, rfl⟩ := H
             go_wp2_with (first | ((with_reducible refine gate_callee (f := 64) rfl ?_); refine goesL_ (some 57) rfl rfl Try.func64 (by kernel_rfl) rfl #[.int .i64 (wrap64 (x9_15 + 1))] rfl (by (try simp only [List.map_toArray, List.map_cons, List.map_nil]); first | done | rfl | (simp only [List.length_drop, List.length_take]; rfl)) ?_; (with_reducible refine (cohousingref02_Amount.calls (wrap64 (x9_15 + 1)) false _ A22.out).mono ?_); rintro e w' ⟨rfl, ⟨nd, rfl⟩⟩; refine ⟨_, rfl, ?_⟩))
             go_ret2
             exact ⟨by first | rfl | (simp [errW_none, errW_some] <;> rfl) | (simp [*, errW_none, errW_some] <;> rfl), by repeat (first | (with_reducible first | exact HB.out | apply below_alloc | apply pw_below_drewN | apply below_drew1 | refine below_set ?_ GE205.out) | exact HB.out)⟩
           ·replace c21 := Bool.eq_false_iff.mpr c21
            subst c21
            have H1 : ((cohousingref02_Amount.f x9_15).bind fun t209 => (if t209 = true then (some (x9_15, 0)) else (some (0, 3)))) = some (r1, r2) := by rw [if_neg (show ¬ (false = true) by decide)] at H; exact H
            clear H
            have H := H1
            clear H1
            replace H := Option.bind_eq_some_iff.mp H
            obtain ⟨t209, A240, H⟩ := H
            replace H : (if t209 = true then (some (x9_15, 0)) else (some (0, 3))) = some (r1, r2) := H
            have A24 := Aside0.mk A240
            clear A240
            by_cases c25 : t209 = true
            ·subst c25
             have H1 : (some (x9_15, 0)) = some (r1, r2) := by rw [if_pos rfl] at H; exact H
             clear H
             have H := H1
             clear H1
             simp only [Option.some.injEq, Prod.mk.injEq] at H
             obtain ⟨rfl, rfl⟩ := H
             go_wp2_with (first | ((with_reducible refine gate_callee (f := 64) rfl ?_); refine goesL_ (some 57) rfl rfl Try.func64 (by kernel_rfl) rfl #[.int .i64 x9_15] rfl (by (try simp only [List.map_toArray, List.map_cons, List.map_nil]); first | done | rfl | (simp only [List.length_drop, List.length_take]; rfl)) ?_; (with_reducible refine (cohousingref02_Amount.calls x9_15 true _ A24.out).mono ?_); rintro e w' ⟨rfl, ⟨nd, rfl⟩⟩; refine ⟨_, rfl, ?_⟩))
             go_ret2
             exact ⟨by first | rfl | (simp [errW_none, errW_some] <;> rfl) | (simp [*, errW_none, errW_some] <;> rfl), by repeat (first | (with_reducible first | exact HB.out | apply below_alloc | apply pw_below_drewN | apply below_drew1 | refine below_set ?_ GE205.out) | exact HB.out)⟩
            ·replace c25 := Bool.eq_false_iff.mpr c25
             subst c25
             have H1 : (some (0, 3)) = some (r1, r2) := by rw [if_neg (show ¬ (false = true) by decide)] at H; exact H
             clear H
             have H := H1
             clear H1
             simp only [Option.some.injEq, Prod.mk.injEq] at H
             obtain ⟨rfl, rfl⟩ := H
             go_wp2_with (first | ((with_reducible refine gate_callee (f := 64) rfl ?_); refine goesL_ (some 57) rfl rfl Try.func64 (by kernel_rfl) rfl #[.int .i64 x9_15] rfl (by (try simp only [List.map_toArray, List.map_cons, List.map_nil]); first | done | rfl | (simp only [List.length_drop, List.length_take]; rfl)) ?_; (with_reducible refine (cohousingref02_Amount.calls x9_15 false _ A24.out).mono ?_); rintro e w' ⟨rfl, ⟨nd, rfl⟩⟩; refine ⟨_, rfl, ?_⟩))
             go_ret2
             exact ⟨by first | rfl | (simp [errW_none, errW_some] <;> rfl) | (simp [*, errW_none, errW_some] <;> rfl), by repeat (first | (with_reducible first | exact HB.out | apply below_alloc | apply pw_below_drewN | apply below_drew1 | refine below_set ?_ GE205.out) | exact HB.out)⟩
end Go.Proofs.Ytbgchacafglcpaa.P
end
section
namespace Go.Proofs.Ytbgchacafglcpaa.P
open Go.RowKit Go.Proofs.YtbgchacafglcpaaW.PrintWords Go.Proofs.YtbgchacafglcpaaW.PrintLast Go.Proofs.YtbgchacafglcpaaW.PrintMore
attribute [local go_sem] max2_int min2_int max_two min_two max_three min_three max_four min_four
set_option linter.unusedVariables false
set_option linter.unusedSimpArgs false
def cohousingref05_gcd.l0 : Nat → Int → Int → Option (Int)
 | 0, _, _ => none
 | k + 1, x0, x1 => if x1 > 0 then (if x1 = 0 then (none) else (cohousingref05_gcd.l0 k x1 (Int.tmod x0 x1))) else (some x0)
def cohousingref05_gcd.f (k : Nat) (a0 : Int) (a1 : Int) : Option (Int) := cohousingref05_gcd.l0 k a0 a1
theorem cohousingref05_gcd.mono_l : ∀ k, (∀ y0 y1, LeO (cohousingref05_gcd.l0 k y0 y1) (cohousingref05_gcd.l0 (k + 1) y0 y1))
 | 0 => fun _ _ r h => by simp [cohousingref05_gcd.l0] at h
 | k + 1 => by
  have ih0 := cohousingref05_gcd.mono_l k
  ·intro y0 y1
   unfold cohousingref05_gcd.l0
   repeat' first
   | (with_reducible exact ih0 _ _)
   | (with_reducible exact LeO.refl _)
   | (with_reducible exact LeO.none _)
   | (with_reducible refine LeO.ite ?_ ?_)
   | (with_reducible refine LeO.bind ?_ (fun _ => ?_))
   | exact ih0 _ _
   | exact LeO.none _
   | refine LeO.ite ?_ ?_
   | refine LeO.bind ?_ (fun _ => ?_)
theorem cohousingref05_gcd.mono : ∀ a0 a1 k, LeO (cohousingref05_gcd.f k a0 a1) (cohousingref05_gcd.f (k + 1) a0 a1) := by
 intro a0 a1 k
 have ih0 := cohousingref05_gcd.mono_l k
 unfold cohousingref05_gcd.f
 repeat' first
   | (with_reducible exact ih0 _ _)
   | (with_reducible exact LeO.refl _)
   | (with_reducible exact LeO.none _)
   | (with_reducible refine LeO.ite ?_ ?_)
   | (with_reducible refine LeO.bind ?_ (fun _ => ?_))
   | exact ih0 _ _
   | exact LeO.none _
   | refine LeO.ite ?_ ?_
   | refine LeO.bind ?_ (fun _ => ?_)
set_option maxHeartbeats 8000000 in
set_option maxRecDepth 100000 in
theorem cohousingref05_gcd.calls (k : Nat) (a0 : Int) (a1 : Int) (r : Int) (w : World) (h : cohousingref05_gcd.f k a0 a1 = some r) :
  Calls Try.prog 66 #[.int .i64 a0, .int .i64 a1] w fun e w' => e = .returned (.int .i64 r) ∧ Drawn0 w w' := by
 have H : (cohousingref05_gcd.l0 k a0 a1) = some r := h
 clear h
 have H' := Aside0.mk H
 clear H
 go_enter Try.func66, Try.ntmps66
 go_wp2
 go_loopg [0, 1] k (fun kq v0 v1 w' => ∃ (x0_1 : Int) (x1_1 : Int), v0 = .int .i64 x0_1 ∧ v1 = .int .i64 x1_1 ∧ Aside0 (cohousingref05_gcd.l0 kq x0_1 x1_1 = some r) ∧ Aside0 (kq ≤ k) ∧ Drawn0 w w')
 case atStart => exact ⟨(a0), (a1), (by first | rfl | (simp; done) | (simp [*]; done)), (by first | rfl | (simp; done) | (simp [*]; done)), H', ⟨Nat.le_refl _⟩, by repeat (first | exact Drawn0.refl _ | apply Drawn0.step)⟩
 case round =>
  clear H'
  try clear p2
  obtain ⟨x0_1, x1_1, rfl, rfl, HA, HK1, ⟨m1, rfl⟩⟩ := hrel
  cases gk with
  | zero => exact absurd HA.out (by simp [cohousingref05_gcd.l0])
  | succ k1 =>
   have H := HA.out
   clear HA
   simp only [cohousingref05_gcd.l0] at H
   by_cases c3 : x1_1 > 0
   ·rw [if_pos c3] at H
    have c3b0 : decide (0 < x1_1) = true := decide_eq_true c3
    clear c3
    by_cases c4 : x1_1 = 0
    ·rw [if_pos c4] at H
     exact absurd H (by simp)
    ·rw [if_neg c4] at H
     have c4b0 : (x1_1 == 0) = false := beq_eq_false_iff_ne.mpr c4
     have c4b1 : (x1_1 != 0) = true := bne_iff_ne.mpr c4
     have H' := Aside0.mk H
     clear H
     go_wp2
     go_roundg k1
     case measure => have := HK1.out; omega
     case rel => exact ⟨(x1_1), (Int.tmod x0_1 x1_1), (by first | rfl | (simp; done) | (simp [*]; done)), (by first | rfl | (simp; done) | (simp [*]; done)), H', ⟨by have := HK1.out; omega⟩, by repeat (first | exact Drawn0.refl _ | apply Drawn0.step)⟩
   ·rw [if_neg c3] at H
    have c3b0 : decide (0 < x1_1) = false := decide_eq_false c3
    clear c3
    obtain rfl := Option.some.inj H
    go_wp2
    go_ret
    exact ⟨by first | rfl | (simp; done) | (simp [*]; done), by repeat (first | exact Drawn0.refl _ | apply Drawn0.step)⟩
end Go.Proofs.Ytbgchacafglcpaa.P
end
section
namespace Go.Proofs.Ytbgchacafglcpaa.P
open Go.RowKit Go.Proofs.YtbgchacafglcpaaW.PrintWords Go.Proofs.YtbgchacafglcpaaW.PrintLast Go.Proofs.YtbgchacafglcpaaW.PrintMore
attribute [local go_sem] max2_int min2_int max_two min_two max_three min_three max_four min_four
set_option linter.unusedVariables false
set_option linter.unusedSimpArgs false
def cohousingref05_Reduce.f (k : Nat) (a0 : Int) (a1 : Int) : Option (Int × Int) := if a0 < 0 then ((cohousingref05_gcd.f k (wrap64 (-a0)) a1).bind fun t211 => (if t211 = 0 then (none) else (some (wrap64 (Int.tdiv a0 t211), wrap64 (Int.tdiv a1 t211))))) else ((cohousingref05_gcd.f k a0 a1).bind fun t212 => (if t212 = 0 then (none) else (some (wrap64 (Int.tdiv a0 t212), wrap64 (Int.tdiv a1 t212)))))
theorem cohousingref05_Reduce.mono : ∀ a0 a1 k, LeO (cohousingref05_Reduce.f k a0 a1) (cohousingref05_Reduce.f (k + 1) a0 a1) := by
 intro a0 a1 k
 unfold cohousingref05_Reduce.f
 repeat' first
   | (with_reducible exact cohousingref05_gcd.mono _ _ _)
   | (with_reducible exact LeO.refl _)
   | (with_reducible exact LeO.none _)
   | (with_reducible refine LeO.ite ?_ ?_)
   | (with_reducible refine LeO.bind ?_ (fun _ => ?_))
   | exact cohousingref05_gcd.mono _ _ _
   | exact LeO.none _
   | refine LeO.ite ?_ ?_
   | refine LeO.bind ?_ (fun _ => ?_)
def cohousingref05_Reduce.T5 : Bool × List (List Nat × List Nat) := (true, [([], []), ([], []), ([0, 1], [0, 1]), ([], []), ([], []), ([3, 4], [3, 4]), ([2, 5], [2, 5]), ([6, 0, 1, 2, 3, 4, 5, 6], [6])])
def cohousingref05_Reduce.B5 : List Nat := [0, 0, 3, 0, 0, 24, 63, 127]
theorem cohousingref05_Reduce.tab5 : rtab .any (opsOf Try.f42 5) = cohousingref05_Reduce.T5 := by kernel_rfl
theorem cohousingref05_Reduce.bits5 : waitsOk cohousingref05_Reduce.T5.2 cohousingref05_Reduce.B5 = true := by kernel_rfl
set_option maxHeartbeats 8000000 in
set_option maxRecDepth 100000 in
theorem cohousingref05_Reduce.calls (k : Nat) (a0 : Int) (a1 : Int) (r1 : Int) (r2 : Int) (w : World) (h : cohousingref05_Reduce.f k a0 a1 = some (r1, r2)) :
  Calls Try.prog 42 #[.int .i64 a0, .int .i64 a1] w fun e w' => e = .returned (.agg #[.int .i64 r1, .int .i64 r2]) ∧ Below w.heap.size w w' := by
 have hu86 := Try.underlying86
 have HB := Aside0.mk (Below.refl w.heap.size w)
 have H : (if a0 < 0 then ((cohousingref05_gcd.f k (wrap64 (-a0)) a1).bind fun t211 => (if t211 = 0 then (none) else (some (wrap64 (Int.tdiv a0 t211), wrap64 (Int.tdiv a1 t211))))) else ((cohousingref05_gcd.f k a0 a1).bind fun t212 => (if t212 = 0 then (none) else (some (wrap64 (Int.tdiv a0 t212), wrap64 (Int.tdiv a1 t212)))))) = some (r1, r2) := h
 clear h
 by_cases c3 : a0 < 0
 ·rw [if_pos c3] at H
  have c3b0 : decide (a0 < 0) = true := decide_eq_true c3
  clear c3
  replace H := Option.bind_eq_some_iff.mp H
  obtain ⟨t211, A40, H⟩ := H
  replace H : (if t211 = 0 then (none) else (some (wrap64 (Int.tdiv a0 t211), wrap64 (Int.tdiv a1 t211)))) = some (r1, r2) := H
  have A4 := Aside0.mk A40
  clear A40
  by_cases c5 : t211 = 0
  ·rw [if_pos c5] at H
   exact absurd H (by simp)
  ·rw [if_neg c5] at H
   have c5b0 : (t211 == 0) = false := beq_eq_false_iff_ne.mpr c5
   have c5b1 : (t211 != 0) = true := bne_iff_ne.mpr c5
   simp only [Option.some.injEq, Prod.mk.injEq] at H
   obtain ⟨rfl, rfl⟩ := H
   go_enter Try.func42, Try.ntmps42
   try go_wp2_with (first | ((with_reducible refine gate_dst (N := 4) rfl ?_); refine box_event ?hg (N := 4) ?hd (cs := #[.int .i64 0, .int .i64 0]) (t := 86) ?hr ?_; (case hd => rfl); (case hg => rfl); (case hr => first | (go_simp; done) | (go_simp; rfl)); intro gb210 hg w6 hbox hb; have n0_ := Aside0.mk (below_step (by repeat (first | (with_reducible first | exact HB.out | apply below_alloc | apply pw_below_drewN | apply below_drew1) | exact HB.out)) hb); have n1_ := Aside0.mk (hbox); have n2_ := Aside0.mk ((by rw [hg]; exact (below_size (by repeat (first | (with_reducible first | exact HB.out | apply below_alloc | apply pw_below_drewN | apply below_drew1) | exact HB.out))) : w.heap.size ≤ gb210)); have n3_ := Aside0.mk ((by rw [hg]; exact (below_size (by repeat (first | (with_reducible first | exact HB.out | apply below_alloc | apply pw_below_drewN | apply below_drew1) | exact HB.out))) : w.heap.size ≤ gb210)); clear HB; have HB := n0_; have BK210 := n1_; have GW210 := n2_; have GE210 := n3_; clear n0_ n1_ n2_ n3_; clear hb hbox hg) | ((with_reducible refine gate_callee (f := 66) rfl ?_); refine goesL_ (some 14) rfl rfl Try.func66 (by kernel_rfl) rfl #[.int .i64 (wrap64 (-a0)), .int .i64 a1] rfl (by (try simp only [List.map_toArray, List.map_cons, List.map_nil]); first | done | rfl | (simp only [List.length_drop, List.length_take]; rfl)) ?_; (with_reducible refine (cohousingref05_gcd.calls k (wrap64 (-a0)) a1 t211 _ A4.out).mono ?_); rintro e w' ⟨rfl, ⟨nd, rfl⟩⟩; refine ⟨_, rfl, ?_⟩; (try (rw [drewN_self w6]; generalize hq_ : World.drewN w6 _ = w6; have n0_ : Aside0 (w6.heap[gb210]? = some (.cells #[.int .i64 0, .int .i64 0] 86 (0, 0))) := ⟨by rw [← hq_]; exact (by (with_reducible repeat (first | refine blk_drewN ?_ _ | refine blk_drew ?_ | refine blk_alloc ?_ _)); exact BK210.out)⟩; have n1_ : Aside0 (Below w.heap.size w w6) := ⟨by rw [← hq_]; exact (by repeat (first | (with_reducible first | exact HB.out | apply below_alloc | apply pw_below_drewN | apply below_drew1 | refine below_set ?_ GE210.out) | exact HB.out))⟩; clear BK210 HB hq_; have BK210 := n0_; have HB := n1_; clear n0_ n1_))))
   have n0_ := Aside0.mk (blk_drew BK210.out)
   have n1_ := Aside0.mk (below_drew1 HB.out)
   clear BK210
   clear HB
   have BK210 := n0_
   have HB := n1_
   clear n0_ n1_
   refine start_ (n := 8) (S := fun w' => True) (ds := []) #[n_, n_, n_, n_, n_, n_, n_, n_] (by kernel_rfl) rfl rfl trivial (fun hHeld => ?_); refine with_tabW cohousingref05_Reduce.tab5 cohousingref05_Reduce.bits5 (fun HT_ HW_ => ?_)
   generalize w6.drew = w7 at BK210 HB hHeld ⊢
   refine pure_ (i := 0) (N := some 15) (v := ?_) (a' := ?_) #[y_, n_, n_, n_, n_, n_, n_, n_] rfl rfl (any_of HT_.out (by kernel_rfl)) (fun _ _ _ h => h) (Or.inl ⟨by rfl, ?_⟩) ?_ ?_
   rotate_left
   ·intro w'
    go_simp
    with_reducible rfl
   rotate_left
   ·simp only [Act.put, sI_, s0_, sS_, i64_w, i32_w]
    rfl
   refine pure_ (i := 1) (N := some 16) (v := ?_) (a' := ?_) #[y_, y_, n_, n_, n_, n_, n_, n_] rfl rfl (any_of HT_.out (by kernel_rfl)) (fun _ _ _ h => h) (Or.inl ⟨by rfl, ?_⟩) ?_ ?_
   rotate_left
   ·intro w'
    go_simp
    with_reducible rfl
   rotate_left
   ·simp only [Act.put, sI_, s0_, sS_, i64_w, i32_w]
    rfl
   refine pure_ (i := 2) (N := some 17) (v := ?_) (a' := ?_) #[y_, y_, y_, n_, n_, n_, n_, n_] rfl rfl (any_of HT_.out (by kernel_rfl)) (fun _ _ _ h => h) (Or.inl ⟨by rfl, ?_⟩) ?_ ?_
   rotate_left
   ·intro w'
    go_simp
    with_reducible rfl
   rotate_left
   ·simp only [Act.put, sI_, s0_, sS_, i64_w, i32_w]
    rfl
   refine pure_ (i := 3) (N := some 18) (v := ?_) (a' := ?_) #[y_, y_, y_, y_, n_, n_, n_, n_] rfl rfl (any_of HT_.out (by kernel_rfl)) (fun _ _ _ h => h) (Or.inl ⟨by rfl, ?_⟩) ?_ ?_
   rotate_left
   ·intro w'
    go_simp
    with_reducible rfl
   rotate_left
   ·simp only [Act.put, sI_, s0_, sS_, i64_w, i32_w]
    rfl
   refine pure_ (i := 4) (N := some 19) (v := ?_) (a' := ?_) #[y_, y_, y_, y_, y_, n_, n_, n_] rfl rfl (any_of HT_.out (by kernel_rfl)) (fun _ _ _ h => h) (Or.inl ⟨by rfl, ?_⟩) ?_ ?_
   rotate_left
   ·intro w'
    go_simp
    with_reducible rfl
   rotate_left
   ·simp only [Act.put, sI_, s0_, sS_, i64_w, i32_w]
    rfl
   refine pure_ (i := 5) (N := some 20) (v := ?_) (a' := ?_) #[y_, y_, y_, y_, y_, y_, n_, n_] rfl rfl (any_of HT_.out (by kernel_rfl)) (fun _ _ _ h => h) (Or.inl ⟨by rfl, ?_⟩) ?_ ?_
   rotate_left
   ·intro w'
    go_simp
    with_reducible rfl
   rotate_left
   ·simp only [Act.put, sI_, s0_, sS_, i64_w, i32_w]
    rfl
   refine pure_ (i := 6) (N := some 21) (v := ?_) (a' := ?_) #[y_, y_, y_, y_, y_, y_, y_, n_] rfl rfl (any_of HT_.out (by kernel_rfl)) (fun _ _ _ h => h) (Or.inl ⟨by rfl, ?_⟩) ?_ ?_
   rotate_left
   ·intro w'
    go_simp
    with_reducible rfl
   rotate_left
   ·simp only [Act.put, sI_, s0_, sS_, i64_w, i32_w]
    rfl
   refine one_ (i := 7) (N := none) #[y_, y_, y_, y_, y_, y_, y_, y_] rfl rfl (one_of HT_.out (by kernel_rfl)) (by decide) (fun K hK => ?_)
   have hs8 : w7.cell? ⟨gb210, 0, none⟩ = some (.int .i64 0) := (blk_cell BK210.out 0).trans rfl
   have hfs8 := blk_frozen BK210.out 0
   have hs9 : w7.cell? ⟨gb210, 1, none⟩ = some (.int .i64 0) := (blk_cell BK210.out 1).trans rfl
   have hfs9 := blk_frozen BK210.out 1
   refine skip_ (w1 := ?_) (by rfl) rfl ?_ ?_
   rotate_left
   ·go_simp
    rfl
   refine hK.out _ _ trivial (fun hHeld => ?_)
   clear hK K
   refine done_ (done_of HT_.out (by kernel_rfl)) ?_
   try go_wp2
   refine bodyPost_ret (results_cell_row rfl _ _ gb210 86 #[.int .i64 (wrap64 (Int.tdiv a0 t211)), .int .i64 (wrap64 (Int.tdiv a1 t211))] (0, 0) _ rfl (by (with_reducible repeat (first | refine blk_drewN ?_ _ | refine blk_drew ?_ | refine blk_alloc ?_ _)); refine blk_put (cs := #[.int .i64 (wrap64 (Int.tdiv a0 t211)), .int .i64 0]) ?_ 1 _ rfl; (with_reducible repeat (first | refine blk_drewN ?_ _ | refine blk_drew ?_ | refine blk_alloc ?_ _)); refine blk_put (cs := #[.int .i64 0, .int .i64 0]) ?_ 0 _ rfl; (with_reducible repeat (first | refine blk_drewN ?_ _ | refine blk_drew ?_ | refine blk_alloc ?_ _)); exact BK210.out) Try.underlying86 rfl (by kernel_rfl)) rfl ?_
   exact ⟨by first | rfl | (simp [errW_none, errW_some] <;> rfl) | (simp [*, errW_none, errW_some] <;> rfl), by repeat (first | (with_reducible first | exact HB.out | apply below_alloc | apply pw_below_drewN | apply below_drew1 | refine below_set ?_ GE210.out) | exact HB.out)⟩
 ·rw [if_neg c3] at H
  have c3b0 : decide (a0 < 0) = false := decide_eq_false c3
  clear c3
  replace H := Option.bind_eq_some_iff.mp H
  obtain ⟨t212, A100, H⟩ := H
  replace H : (if t212 = 0 then (none) else (some (wrap64 (Int.tdiv a0 t212), wrap64 (Int.tdiv a1 t212)))) = some (r1, r2) := H
  have A10 := Aside0.mk A100
  clear A100
  by_cases c11 : t212 = 0
  ·rw [if_pos c11] at H
   exact absurd H (by simp)
  ·rw [if_neg c11] at H
   have c11b0 : (t212 == 0) = false := beq_eq_false_iff_ne.mpr c11
   have c11b1 : (t212 != 0) = true := bne_iff_ne.mpr c11
   simp only [Option.some.injEq, Prod.mk.injEq] at H
   obtain ⟨rfl, rfl⟩ := H
   go_enter Try.func42, Try.ntmps42
   try go_wp2_with (first | ((with_reducible refine gate_dst (N := 4) rfl ?_); refine box_event ?hg (N := 4) ?hd (cs := #[.int .i64 0, .int .i64 0]) (t := 86) ?hr ?_; (case hd => rfl); (case hg => rfl); (case hr => first | (go_simp; done) | (go_simp; rfl)); intro gb210 hg w12 hbox hb; have n0_ := Aside0.mk (below_step (by repeat (first | (with_reducible first | exact HB.out | apply below_alloc | apply pw_below_drewN | apply below_drew1) | exact HB.out)) hb); have n1_ := Aside0.mk (hbox); have n2_ := Aside0.mk ((by rw [hg]; exact (below_size (by repeat (first | (with_reducible first | exact HB.out | apply below_alloc | apply pw_below_drewN | apply below_drew1) | exact HB.out))) : w.heap.size ≤ gb210)); have n3_ := Aside0.mk ((by rw [hg]; exact (below_size (by repeat (first | (with_reducible first | exact HB.out | apply below_alloc | apply pw_below_drewN | apply below_drew1) | exact HB.out))) : w.heap.size ≤ gb210)); clear HB; have HB := n0_; have BK210 := n1_; have GW210 := n2_; have GE210 := n3_; clear n0_ n1_ n2_ n3_; clear hb hbox hg) | ((with_reducible refine gate_callee (f := 66) rfl ?_); refine goesL_ (some 14) rfl rfl Try.func66 (by kernel_rfl) rfl #[.int .i64 a0, .int .i64 a1] rfl (by (try simp only [List.map_toArray, List.map_cons, List.map_nil]); first | done | rfl | (simp only [List.length_drop, List.length_take]; rfl)) ?_; (with_reducible refine (cohousingref05_gcd.calls k a0 a1 t212 _ A10.out).mono ?_); rintro e w' ⟨rfl, ⟨nd, rfl⟩⟩; refine ⟨_, rfl, ?_⟩; (try (rw [drewN_self w12]; generalize hq_ : World.drewN w12 _ = w12; have n0_ : Aside0 (w12.heap[gb210]? = some (.cells #[.int .i64 0, .int .i64 0] 86 (0, 0))) := ⟨by rw [← hq_]; exact (by (with_reducible repeat (first | refine blk_drewN ?_ _ | refine blk_drew ?_ | refine blk_alloc ?_ _)); exact BK210.out)⟩; have n1_ : Aside0 (Below w.heap.size w w12) := ⟨by rw [← hq_]; exact (by repeat (first | (with_reducible first | exact HB.out | apply below_alloc | apply pw_below_drewN | apply below_drew1 | refine below_set ?_ GE210.out) | exact HB.out))⟩; clear BK210 HB hq_; have BK210 := n0_; have HB := n1_; clear n0_ n1_))))
   have n0_ := Aside0.mk (blk_drew BK210.out)
   have n1_ := Aside0.mk (below_drew1 HB.out)
   clear BK210
   clear HB
   have BK210 := n0_
   have HB := n1_
   clear n0_ n1_
   refine start_ (n := 8) (S := fun w' => True) (ds := []) #[n_, n_, n_, n_, n_, n_, n_, n_] (by kernel_rfl) rfl rfl trivial (fun hHeld => ?_); refine with_tabW cohousingref05_Reduce.tab5 cohousingref05_Reduce.bits5 (fun HT_ HW_ => ?_)
   generalize w12.drew = w13 at BK210 HB hHeld ⊢
   refine pure_ (i := 0) (N := some 15) (v := ?_) (a' := ?_) #[y_, n_, n_, n_, n_, n_, n_, n_] rfl rfl (any_of HT_.out (by kernel_rfl)) (fun _ _ _ h => h) (Or.inl ⟨by rfl, ?_⟩) ?_ ?_
   rotate_left
   ·intro w'
    go_simp
    with_reducible rfl
   rotate_left
   ·simp only [Act.put, sI_, s0_, sS_, i64_w, i32_w]
    rfl
   refine pure_ (i := 1) (N := some 16) (v := ?_) (a' := ?_) #[y_, y_, n_, n_, n_, n_, n_, n_] rfl rfl (any_of HT_.out (by kernel_rfl)) (fun _ _ _ h => h) (Or.inl ⟨by rfl, ?_⟩) ?_ ?_
   rotate_left
   ·intro w'
    go_simp
    with_reducible rfl
   rotate_left
   ·simp only [Act.put, sI_, s0_, sS_, i64_w, i32_w]
    rfl
   refine pure_ (i := 2) (N := some 17) (v := ?_) (a' := ?_) #[y_, y_, y_, n_, n_, n_, n_, n_] rfl rfl (any_of HT_.out (by kernel_rfl)) (fun _ _ _ h => h) (Or.inl ⟨by rfl, ?_⟩) ?_ ?_
   rotate_left
   ·intro w'
    go_simp
    with_reducible rfl
   rotate_left
   ·simp only [Act.put, sI_, s0_, sS_, i64_w, i32_w]
    rfl
   refine pure_ (i := 3) (N := some 18) (v := ?_) (a' := ?_) #[y_, y_, y_, y_, n_, n_, n_, n_] rfl rfl (any_of HT_.out (by kernel_rfl)) (fun _ _ _ h => h) (Or.inl ⟨by rfl, ?_⟩) ?_ ?_
   rotate_left
   ·intro w'
    go_simp
    with_reducible rfl
   rotate_left
   ·simp only [Act.put, sI_, s0_, sS_, i64_w, i32_w]
    rfl
   refine pure_ (i := 4) (N := some 19) (v := ?_) (a' := ?_) #[y_, y_, y_, y_, y_, n_, n_, n_] rfl rfl (any_of HT_.out (by kernel_rfl)) (fun _ _ _ h => h) (Or.inl ⟨by rfl, ?_⟩) ?_ ?_
   rotate_left
   ·intro w'
    go_simp
    with_reducible rfl
   rotate_left
   ·simp only [Act.put, sI_, s0_, sS_, i64_w, i32_w]
    rfl
   refine pure_ (i := 5) (N := some 20) (v := ?_) (a' := ?_) #[y_, y_, y_, y_, y_, y_, n_, n_] rfl rfl (any_of HT_.out (by kernel_rfl)) (fun _ _ _ h => h) (Or.inl ⟨by rfl, ?_⟩) ?_ ?_
   rotate_left
   ·intro w'
    go_simp
    with_reducible rfl
   rotate_left
   ·simp only [Act.put, sI_, s0_, sS_, i64_w, i32_w]
    rfl
   refine pure_ (i := 6) (N := some 21) (v := ?_) (a' := ?_) #[y_, y_, y_, y_, y_, y_, y_, n_] rfl rfl (any_of HT_.out (by kernel_rfl)) (fun _ _ _ h => h) (Or.inl ⟨by rfl, ?_⟩) ?_ ?_
   rotate_left
   ·intro w'
    go_simp
    with_reducible rfl
   rotate_left
   ·simp only [Act.put, sI_, s0_, sS_, i64_w, i32_w]
    rfl
   refine one_ (i := 7) (N := none) #[y_, y_, y_, y_, y_, y_, y_, y_] rfl rfl (one_of HT_.out (by kernel_rfl)) (by decide) (fun K hK => ?_)
   have hs14 : w13.cell? ⟨gb210, 0, none⟩ = some (.int .i64 0) := (blk_cell BK210.out 0).trans rfl
   have hfs14 := blk_frozen BK210.out 0
   have hs15 : w13.cell? ⟨gb210, 1, none⟩ = some (.int .i64 0) := (blk_cell BK210.out 1).trans rfl
   have hfs15 := blk_frozen BK210.out 1
   refine skip_ (w1 := ?_) (by rfl) rfl ?_ ?_
   rotate_left
   ·go_simp
    rfl
   refine hK.out _ _ trivial (fun hHeld => ?_)
   clear hK K
   refine done_ (done_of HT_.out (by kernel_rfl)) ?_
   try go_wp2
   refine bodyPost_ret (results_cell_row rfl _ _ gb210 86 #[.int .i64 (wrap64 (Int.tdiv a0 t212)), .int .i64 (wrap64 (Int.tdiv a1 t212))] (0, 0) _ rfl (by (with_reducible repeat (first | refine blk_drewN ?_ _ | refine blk_drew ?_ | refine blk_alloc ?_ _)); refine blk_put (cs := #[.int .i64 (wrap64 (Int.tdiv a0 t212)), .int .i64 0]) ?_ 1 _ rfl; (with_reducible repeat (first | refine blk_drewN ?_ _ | refine blk_drew ?_ | refine blk_alloc ?_ _)); refine blk_put (cs := #[.int .i64 0, .int .i64 0]) ?_ 0 _ rfl; (with_reducible repeat (first | refine blk_drewN ?_ _ | refine blk_drew ?_ | refine blk_alloc ?_ _)); exact BK210.out) Try.underlying86 rfl (by kernel_rfl)) rfl ?_
   exact ⟨by first | rfl | (simp [errW_none, errW_some] <;> rfl) | (simp [*, errW_none, errW_some] <;> rfl), by repeat (first | (with_reducible first | exact HB.out | apply below_alloc | apply pw_below_drewN | apply below_drew1 | refine below_set ?_ GE210.out) | exact HB.out)⟩
end Go.Proofs.Ytbgchacafglcpaa.P
end
section
namespace Go.Proofs.Ytbgchacafglcpaa.P
open Go.RowKit Go.Proofs.YtbgchacafglcpaaW.PrintWords Go.Proofs.YtbgchacafglcpaaW.PrintLast Go.Proofs.YtbgchacafglcpaaW.PrintMore
attribute [local go_sem] max2_int min2_int max_two min_two max_three min_three max_four min_four
set_option linter.unusedVariables false
set_option linter.unusedSimpArgs false
def cohousingref29_Right.f (k : Nat) (a0 : Int) (a1 : Int) (a2 : Int) : Option (Int) := (cohousingref05_Reduce.f k a2 a1).bind fun bt213 => ((cohousingref02_Scale.f k a0 bt213.1 bt213.2).bind fun bt215 => (some bt215.1))
theorem cohousingref29_Right.mono : ∀ a0 a1 a2 k, LeO (cohousingref29_Right.f k a0 a1 a2) (cohousingref29_Right.f (k + 1) a0 a1 a2) := by
 intro a0 a1 a2 k
 unfold cohousingref29_Right.f
 repeat' first
   | (with_reducible exact cohousingref02_Scale.mono _ _ _ _)
   | (with_reducible exact cohousingref05_Reduce.mono _ _ _)
   | (with_reducible exact LeO.refl _)
   | (with_reducible exact LeO.none _)
   | (with_reducible refine LeO.ite ?_ ?_)
   | (with_reducible refine LeO.bind ?_ (fun _ => ?_))
   | exact cohousingref02_Scale.mono _ _ _ _
   | exact cohousingref05_Reduce.mono _ _ _
   | exact LeO.none _
   | refine LeO.ite ?_ ?_
   | refine LeO.bind ?_ (fun _ => ?_)
set_option maxHeartbeats 8000000 in
set_option maxRecDepth 100000 in
theorem cohousingref29_Right.calls (k : Nat) (a0 : Int) (a1 : Int) (a2 : Int) (r : Int) (w : World) (h : cohousingref29_Right.f k a0 a1 a2 = some r) :
  Calls Try.prog 19 #[.int .i64 a0, .int .i64 a1, .int .i64 a2] w fun e w' => e = .returned (.int .i64 r) ∧ Below w.heap.size w w' := by
 have HB := Aside0.mk (Below.refl w.heap.size w)
 have H : ((cohousingref05_Reduce.f k a2 a1).bind fun bt213 => ((cohousingref02_Scale.f k a0 bt213.1 bt213.2).bind fun bt215 => (some bt215.1))) = some r := h
 clear h
 replace H := Option.bind_eq_some_iff.mp H
 obtain ⟨⟨t213, t214⟩, A40, H⟩ := H
 replace H : ((cohousingref02_Scale.f k a0 t213 t214).bind fun bt215 => (some bt215.1)) = some r := H
 have A4 := Aside0.mk A40
 clear A40
 replace H := Option.bind_eq_some_iff.mp H
 obtain ⟨⟨t215, t216⟩, A50, H⟩ := H
 replace H : (some t215) = some r := H
 have A5 := Aside0.mk A50
 clear A50
 obtain rfl := Option.some.inj H
 go_enter Try.func19, Try.ntmps19
 go_wp2_with (first | ((with_reducible refine gate_callee (f := 42) rfl ?_); refine goesL_ (some 13) rfl rfl Try.func42 (by kernel_rfl) rfl #[.int .i64 a2, .int .i64 a1] rfl (by (try simp only [List.map_toArray, List.map_cons, List.map_nil]); first | done | rfl | (simp only [List.length_drop, List.length_take]; rfl)) ?_; (with_reducible refine (cohousingref05_Reduce.calls k a2 a1 t213 t214 _ A4.out).mono ?_); rintro e w6 ⟨rfl, hb⟩; refine ⟨_, rfl, ?_⟩; have n0_ := Aside0.mk (below_step (by repeat (first | (with_reducible first | exact HB.out | apply below_alloc | apply pw_below_drewN | apply below_drew1) | exact HB.out)) hb); clear HB; have HB := n0_; clear n0_; (try clear hb); (try clear hb2); (try clear hk); (try clear hi)) | ((with_reducible refine gate_callee (f := 41) rfl ?_); refine goesL_ (some 14) rfl rfl Try.func41 (by kernel_rfl) rfl #[.int .i64 a0, .agg #[.int .i64 t213, .int .i64 t214]] rfl (by (try simp only [List.map_toArray, List.map_cons, List.map_nil]); first | done | rfl | (simp only [List.length_drop, List.length_take]; rfl)) ?_; (with_reducible refine (cohousingref02_Scale.calls k a0 t213 t214 t215 t216 _ A5.out).mono ?_); rintro e w7 ⟨rfl, hb⟩; refine ⟨_, rfl, ?_⟩; have n0_ := Aside0.mk (below_step (by repeat (first | (with_reducible first | exact HB.out | apply below_alloc | apply pw_below_drewN | apply below_drew1) | exact HB.out)) hb); clear HB; have HB := n0_; clear n0_; (try clear hb); (try clear hb2); (try clear hk); (try clear hi)))
 go_ret
 exact ⟨by first | rfl | (simp [errW_none, errW_some] <;> rfl) | (simp [*, errW_none, errW_some] <;> rfl), by repeat (first | (with_reducible first | exact HB.out | apply below_alloc | apply pw_below_drewN | apply below_drew1) | exact HB.out)⟩
end Go.Proofs.Ytbgchacafglcpaa.P
end
section
namespace Go.Proofs.Ytbgchacafglcpaa.P
open Go.RowKit Go.Proofs.YtbgchacafglcpaaW.PrintWords Go.Proofs.YtbgchacafglcpaaW.PrintLast Go.Proofs.YtbgchacafglcpaaW.PrintMore
attribute [local go_sem] max2_int min2_int max_two min_two max_three min_three max_four min_four
set_option linter.unusedVariables false
set_option linter.unusedSimpArgs false
def cohousingref28_Leaf.f (k : Nat) (l0 : List (S63)) (a1 : Int) : Option (Bool) := (cohousingref28_below.f k l0 a1).bind fun t257 => (some ((t257.length : Int) == 0))
theorem cohousingref28_Leaf.mono : ∀ a0 a1 k, LeO (cohousingref28_Leaf.f k a0 a1) (cohousingref28_Leaf.f (k + 1) a0 a1) := by
 intro a0 a1 k
 unfold cohousingref28_Leaf.f
 repeat' first
   | (with_reducible exact cohousingref28_below.mono _ _ _)
   | (with_reducible exact LeO.refl _)
   | (with_reducible exact LeO.none _)
   | (with_reducible refine LeO.ite ?_ ?_)
   | (with_reducible refine LeO.bind ?_ (fun _ => ?_))
   | exact cohousingref28_below.mono _ _ _
   | exact LeO.none _
   | refine LeO.ite ?_ ?_
   | refine LeO.bind ?_ (fun _ => ?_)
set_option maxHeartbeats 8000000 in
set_option maxRecDepth 100000 in
theorem cohousingref28_Leaf.calls (k : Nat) (A0 : Option Addr) (c0 : Nat) (l0 : List (S63)) (a1 : Int) (r : Bool) (w : World) (hr0 : Kd.C k63 w A0 l0.length l0) (hc0 : l0.length ≤ c0) (h : cohousingref28_Leaf.f k l0 a1 = some r) :
  Calls Try.prog 40 #[.slice A0 l0.length c0, .int .i64 a1] w fun e w' => e = .returned (.bool r) ∧ Below w.heap.size w w' := by
 have HR0 := Aside0.mk hr0
 have HC0 := Aside0.mk hc0
 clear hr0 hc0
 have HB := Aside0.mk (Below.refl w.heap.size w)
 have H : ((cohousingref28_below.f k l0 a1).bind fun t257 => (some ((t257.length : Int) == 0))) = some r := h
 clear h
 replace H := Option.bind_eq_some_iff.mp H
 obtain ⟨t257, A30, H⟩ := H
 replace H : (some ((t257.length : Int) == 0)) = some r := H
 have A3 := Aside0.mk A30
 clear A30
 obtain rfl := Option.some.inj H
 go_enter Try.func40, Try.ntmps40
 go_wp2_with (first | ((with_reducible refine gate_callee (f := 63) rfl ?_); refine goesL_ (some 7) rfl rfl Try.func63 (by kernel_rfl) rfl #[.slice A0 l0.length c0, .int .i64 a1] rfl (by (try simp only [List.map_toArray, List.map_cons, List.map_nil]); first | done | rfl | (simp only [List.length_drop, List.length_take]; rfl)) ?_; (with_reducible refine (cohousingref28_below.calls k _ _ l0 a1 t257 _ ?side1 ?side2 A3.out).mono ?_); (case side1 => repeat (first | exact HR0.out | (with_reducible refine Kd.C_alloc ?_ _) | (with_reducible refine Kd.C_drewN ?_ _) | (with_reducible refine Kd.C_drew ?_))); (case side2 => exact HC0.out); rintro e w4 ⟨v258, rfl, ho0, hb⟩; refine ⟨_, rfl, ?_⟩; have n0_ := Aside0.mk (Kd.R_lower ho0 (below_size (by repeat (first | (with_reducible first | exact HB.out | apply below_alloc | apply pw_below_drewN | apply below_drew1) | exact HB.out)))); have n1_ := Aside0.mk (below_step (by repeat (first | (with_reducible first | exact HB.out | apply below_alloc | apply pw_below_drewN | apply below_drew1) | exact HB.out)) hb); clear HB; have HO259 := n0_; have HB := n1_; clear n0_ n1_; (try clear hb); (try clear hb2); (try clear hk); (try clear hi); (try clear ho0); obtain ⟨Ao5, co5, eo5⟩ := Kd.R_slice HO259.out; subst eo5))
 go_ret
 exact ⟨by first | rfl | (simp [errW_none, errW_some] <;> rfl) | (simp [*, errW_none, errW_some] <;> rfl), by repeat (first | (with_reducible first | exact HB.out | apply below_alloc | apply pw_below_drewN | apply below_drew1) | exact HB.out)⟩
end Go.Proofs.Ytbgchacafglcpaa.P
end
section
namespace Go.Proofs.Ytbgchacafglcpaa.P
open Go.RowKit Go.Proofs.YtbgchacafglcpaaW.PrintWords Go.Proofs.YtbgchacafglcpaaW.PrintLast Go.Proofs.YtbgchacafglcpaaW.PrintMore
attribute [local go_sem] max2_int min2_int max_two min_two max_three min_three max_four min_four
set_option linter.unusedVariables false
set_option linter.unusedSimpArgs false
def cohousingref29_Leaves.l0 : Nat → List (S63) → List Int → Int → Option (List Int)
 | 0, _, _, _ => none
 | k + 1, x0, x3, x4 => if x4 < (x0.length : Int) then ((cohousingref28_Leaf.f k x0 x4).bind fun t260 => (if t260 = true then (if x3.length < 17592186044416 then (cohousingref29_Leaves.l0 k x0 (x3 ++ [x4]) (wrap64 (x4 + 1))) else (none)) else (cohousingref29_Leaves.l0 k x0 x3 (wrap64 (x4 + 1))))) else (some x3)
def cohousingref29_Leaves.f (k : Nat) (l0 : List (S63)) : Option (List Int) := cohousingref29_Leaves.l0 k l0 ([] : List Int) 0
theorem cohousingref29_Leaves.mono_l : ∀ k, (∀ y0 y1 y2, LeO (cohousingref29_Leaves.l0 k y0 y1 y2) (cohousingref29_Leaves.l0 (k + 1) y0 y1 y2))
 | 0 => fun _ _ _ r h => by simp [cohousingref29_Leaves.l0] at h
 | k + 1 => by
  have ih0 := cohousingref29_Leaves.mono_l k
  ·intro y0 y1 y2
   unfold cohousingref29_Leaves.l0
   repeat' first
   | (with_reducible exact ih0 _ _ _)
   | (with_reducible exact cohousingref28_Leaf.mono _ _ _)
   | (with_reducible exact LeO.refl _)
   | (with_reducible exact LeO.none _)
   | (with_reducible refine LeO.ite ?_ ?_)
   | (with_reducible refine LeO.bind ?_ (fun _ => ?_))
   | exact ih0 _ _ _
   | exact cohousingref28_Leaf.mono _ _ _
   | exact LeO.none _
   | refine LeO.ite ?_ ?_
   | refine LeO.bind ?_ (fun _ => ?_)
theorem cohousingref29_Leaves.mono : ∀ a0 k, LeO (cohousingref29_Leaves.f k a0) (cohousingref29_Leaves.f (k + 1) a0) := by
 intro a0 k
 have ih0 := cohousingref29_Leaves.mono_l k
 unfold cohousingref29_Leaves.f
 repeat' first
   | (with_reducible exact ih0 _ _ _)
   | (with_reducible exact cohousingref28_Leaf.mono _ _ _)
   | (with_reducible exact LeO.refl _)
   | (with_reducible exact LeO.none _)
   | (with_reducible refine LeO.ite ?_ ?_)
   | (with_reducible refine LeO.bind ?_ (fun _ => ?_))
   | exact ih0 _ _ _
   | exact cohousingref28_Leaf.mono _ _ _
   | exact LeO.none _
   | refine LeO.ite ?_ ?_
   | refine LeO.bind ?_ (fun _ => ?_)
set_option maxHeartbeats 8000000 in
set_option maxRecDepth 100000 in
theorem cohousingref29_Leaves.calls (k : Nat) (A0 : Option Addr) (c0 : Nat) (l0 : List (S63)) (r : List Int) (w : World) (hr0 : Kd.C k63 w A0 l0.length l0) (hc0 : l0.length ≤ c0) (h : cohousingref29_Leaves.f k l0 = some r) :
  Calls Try.prog 17 #[.slice A0 l0.length c0] w fun e w' => ∃ v0_ : Value, e = .returned (v0_) ∧ Kd.R (Kd.int .i64) 3 w' w.heap.size (fun _ => True) v0_ r ∧ Below w.heap.size w w' := by
 have HR0 := Aside0.mk hr0
 have HC0 := Aside0.mk hc0
 clear hr0 hc0
 have HB := Aside0.mk (Below.refl w.heap.size w)
 have H : (cohousingref29_Leaves.l0 k l0 ([] : List Int) 0) = some r := h
 clear h
 have H' := Aside0.mk H
 clear H
 go_enter Try.func17, Try.ntmps17
 go_wp2
 go_loopg [3, 4] k (fun kq v3 v4 w' => ∃ (x3_1 : List Int) (x4_1 : Int), v4 = .int .i64 x4_1 ∧ Aside0 (cohousingref29_Leaves.l0 kq l0 x3_1 x4_1 = some r) ∧ Aside0 (kq ≤ k) ∧ Aside0 (Kd.R (Kd.int .i64) 3 w' w.heap.size (fun _ => True) v3 x3_1) ∧ Aside0 (Below w.heap.size w w'))
 case atStart => exact ⟨(([] : List Int)), (0), (by first | rfl | (simp; done) | (simp [*]; done)), H', ⟨Nat.le_refl _⟩, ⟨by first | exact Kd.R_nil _ _ _ _ _ | exact Kd.N_nil _ _ _ _ _ | exact Kd.V_nil _ _ _ _ _ | exact Kd.Q_nil _ _ _ _ _ | exact Kd.S_nil _ _ _ _ _⟩, ⟨by repeat (first | (with_reducible first | exact HB.out | apply below_alloc | apply pw_below_drewN | apply below_drew1) | exact HB.out)⟩⟩
 case round =>
  clear H'
  try clear c1
  obtain ⟨x3_1, x4_1, rfl, HA, HK1, HO_3, HB⟩ := hrel
  cases gk with
  | zero => exact absurd HA.out (by simp [cohousingref29_Leaves.l0])
  | succ k1 =>
   have H := HA.out
   clear HA
   simp only [cohousingref29_Leaves.l0] at H
   by_cases c2 : x4_1 < (l0.length : Int)
   ·rw [if_pos c2] at H
    have c2b0 : decide (x4_1 < (l0.length : Int)) = true := decide_eq_true c2
    clear c2
    replace H := Option.bind_eq_some_iff.mp H
    obtain ⟨t260, A30, H⟩ := H
    replace H : (if t260 = true then (if x3_1.length < 17592186044416 then (cohousingref29_Leaves.l0 k1 l0 (x3_1 ++ [x4_1]) (wrap64 (x4_1 + 1))) else (none)) else (cohousingref29_Leaves.l0 k1 l0 x3_1 (wrap64 (x4_1 + 1)))) = some r := H
    have A3 := Aside0.mk A30
    clear A30
    by_cases c4 : t260 = true
    ·subst c4
     have H1 : (if x3_1.length < 17592186044416 then (cohousingref29_Leaves.l0 k1 l0 (x3_1 ++ [x4_1]) (wrap64 (x4_1 + 1))) else (none)) = some r := by rw [if_pos rfl] at H; exact H
     clear H
     have H := H1
     clear H1
     by_cases c5 : x3_1.length < 17592186044416
     ·rw [if_pos c5] at H
      have LMc5 := Aside0.mk c5
      clear c5
      obtain ⟨y261, hy261⟩ : ∃ y_ : List Int, y_ = (x3_1 ++ [x4_1]) := ⟨_, rfl⟩
      replace H : (cohousingref29_Leaves.l0 k1 l0 y261 (wrap64 (x4_1 + 1))) = some r := by first | (rw [hy261]; with_reducible exact H) | (have H2_ := (Option.bind_some _ _).symm.trans H; rw [hy261]; with_reducible exact H2_) | (have H2_ := (Option.bind_some _ _).symm.trans H; with_reducible exact H2_) | with_reducible exact H | (rw [hy261]; exact H) | exact H
      have Ny261 := Aside0.mk hy261
      clear hy261
      have H' := Aside0.mk H
      clear H
      go_wp2_with (first | ((with_reducible refine gate_callee (f := 40) rfl ?_); refine goesL_ (some 14) rfl rfl Try.func40 (by kernel_rfl) rfl #[.slice A0 l0.length c0, .int .i64 x4_1] rfl (by (try simp only [List.map_toArray, List.map_cons, List.map_nil]); first | done | rfl | (simp only [List.length_drop, List.length_take]; rfl)) ?_; (with_reducible refine (cohousingref28_Leaf.calls k1 _ _ l0 x4_1 true _ ?side1 ?side2 A3.out).mono ?_); (case side1 => repeat (first | exact (Kd.C_below HR0.out HB.out) | (with_reducible refine Kd.C_alloc ?_ _) | (with_reducible refine Kd.C_drewN ?_ _) | (with_reducible refine Kd.C_drew ?_))); (case side2 => exact HC0.out); rintro e w6 ⟨rfl, hb⟩; refine ⟨_, rfl, ?_⟩; have n0_ := Aside0.mk (Kd.R_below (by (with_reducible repeat (first | apply Kd.R_alloc | apply Kd.R_drewN | apply Kd.R_drew)); exact HO_3.out) hb); have n1_ := Aside0.mk (below_step (by repeat (first | (with_reducible first | exact HB.out | apply below_alloc | apply pw_below_drewN | apply below_drew1) | exact HB.out)) hb); clear HO_3; clear HB; have HO_3 := n0_; have HB := n1_; clear n0_ n1_; (try clear hb); (try clear hb2); (try clear hk); (try clear hi)) | ((with_reducible refine gate_builtin (b := .append) (xs := #[.tmp 16, .tmp 18]) rfl ?_); at_builtin; refine Kd.R_append (Kd.int .i64) (w0 := w) w.heap.size rfl (.tmp 16) (.tmp 18) 24 3 (.int .i64 0) 8 rfl Try.underlying24 info3 rfl (by decide) (by omega) u3 x3_1 x4_1 [.int .i64 x4_1] (fun _ => True) (fun _ => False) rfl rfl ?aP (fun _ hk => hk.elim) ?aF ?aO ?aB ?aS ?aL ?_; (case aP => exact rfl); (case aB => exact (by repeat (first | (with_reducible first | exact HB.out | apply below_alloc | apply pw_below_drewN | apply below_drew1) | exact HB.out))); (case aF => exact (fun _ _ => trivial)); (case aO => exact (by (with_reducible repeat (first | apply Kd.R_alloc | apply Kd.R_drewN | apply Kd.R_drew)); exact HO_3.out)); (case aS => exact (below_size (by repeat (first | (with_reducible first | exact HB.out | apply below_alloc | apply pw_below_drewN | apply below_drew1) | exact HB.out)))); (case aL => have := LMc5.out; omega); intro v262 w7 ho hb hg hat; rw [← Ny261.out] at ho; have n0_ := Aside0.mk (hb); have n1_ := Aside0.mk (ho); clear HB; clear HO_3; have HB := n0_; have HO263 := n1_; clear n0_ n1_; clear ho hb hg hat))
      go_roundg k1
      case measure => have := HK1.out; omega
      case rel => exact ⟨(y261), (wrap64 (x4_1 + 1)), (by first | rfl | (simp; done) | (simp [*]; done)), H', ⟨by have := HK1.out; omega⟩, ⟨by (with_reducible repeat (first | apply Kd.R_alloc | apply Kd.R_drewN | apply Kd.R_drew)); exact HO263.out⟩, ⟨by repeat (first | (with_reducible first | exact HB.out | apply below_alloc | apply pw_below_drewN | apply below_drew1) | exact HB.out)⟩⟩
     ·rw [if_neg c5] at H
      exact absurd H (by simp)
    ·replace c4 := Bool.eq_false_iff.mpr c4
     subst c4
     have H1 : (cohousingref29_Leaves.l0 k1 l0 x3_1 (wrap64 (x4_1 + 1))) = some r := by rw [if_neg (show ¬ (false = true) by decide)] at H; exact H
     clear H
     have H := H1
     clear H1
     have H' := Aside0.mk H
     clear H
     go_wp2_with (first | ((with_reducible refine gate_callee (f := 40) rfl ?_); refine goesL_ (some 14) rfl rfl Try.func40 (by kernel_rfl) rfl #[.slice A0 l0.length c0, .int .i64 x4_1] rfl (by (try simp only [List.map_toArray, List.map_cons, List.map_nil]); first | done | rfl | (simp only [List.length_drop, List.length_take]; rfl)) ?_; (with_reducible refine (cohousingref28_Leaf.calls k1 _ _ l0 x4_1 false _ ?side1 ?side2 A3.out).mono ?_); (case side1 => repeat (first | exact (Kd.C_below HR0.out HB.out) | (with_reducible refine Kd.C_alloc ?_ _) | (with_reducible refine Kd.C_drewN ?_ _) | (with_reducible refine Kd.C_drew ?_))); (case side2 => exact HC0.out); rintro e w8 ⟨rfl, hb⟩; refine ⟨_, rfl, ?_⟩; have n0_ := Aside0.mk (Kd.R_below (by (with_reducible repeat (first | apply Kd.R_alloc | apply Kd.R_drewN | apply Kd.R_drew)); exact HO_3.out) hb); have n1_ := Aside0.mk (below_step (by repeat (first | (with_reducible first | exact HB.out | apply below_alloc | apply pw_below_drewN | apply below_drew1) | exact HB.out)) hb); clear HO_3; clear HB; have HO_3 := n0_; have HB := n1_; clear n0_ n1_; (try clear hb); (try clear hb2); (try clear hk); (try clear hi)))
     go_roundg k1
     case measure => have := HK1.out; omega
     case rel => exact ⟨(x3_1), (wrap64 (x4_1 + 1)), (by first | rfl | (simp; done) | (simp [*]; done)), H', ⟨by have := HK1.out; omega⟩, ⟨by (with_reducible repeat (first | apply Kd.R_alloc | apply Kd.R_drewN | apply Kd.R_drew)); exact HO_3.out⟩, ⟨by repeat (first | (with_reducible first | exact HB.out | apply below_alloc | apply pw_below_drewN | apply below_drew1) | exact HB.out)⟩⟩
   ·rw [if_neg c2] at H
    have c2b0 : decide (x4_1 < (l0.length : Int)) = false := decide_eq_false c2
    clear c2
    obtain rfl := Option.some.inj H
    go_wp2
    go_ret
    exact ⟨_, by first | rfl | (simp [errW_none, errW_some] <;> rfl) | (simp [*, errW_none, errW_some] <;> rfl), by (with_reducible repeat (first | apply Kd.R_alloc | apply Kd.R_drewN | apply Kd.R_drew)); exact HO_3.out, by repeat (first | (with_reducible first | exact HB.out | apply below_alloc | apply pw_below_drewN | apply below_drew1) | exact HB.out)⟩
end Go.Proofs.Ytbgchacafglcpaa.P
end
section
namespace Go.Proofs.Ytbgchacafglcpaa.P
open Go.RowKit Go.Proofs.YtbgchacafglcpaaW.PrintWords Go.Proofs.YtbgchacafglcpaaW.PrintLast Go.Proofs.YtbgchacafglcpaaW.PrintMore
attribute [local go_sem] max2_int min2_int max_two min_two max_three min_three max_four min_four
set_option linter.unusedVariables false
set_option linter.unusedSimpArgs false
def cohousingref29_Root.l0 : Nat → List (S63) → Int → Int → Option (Int)
 | 0, _, _, _ => none
 | k + 1, x0, x3, x4 => if x4 < (x0.length : Int) then (if 0 ≤ x4 then (if ((rd_T63 x0 x4).f1) = 0 then (if x3 ≥ 0 then (some (-1)) else (cohousingref29_Root.l0 k x0 x4 (wrap64 (x4 + 1)))) else (cohousingref29_Root.l0 k x0 x3 (wrap64 (x4 + 1)))) else (none)) else (some x3)
def cohousingref29_Root.f (k : Nat) (l0 : List (S63)) : Option (Int) := cohousingref29_Root.l0 k l0 (-1) 0
theorem cohousingref29_Root.mono_l : ∀ k, (∀ y0 y1 y2, LeO (cohousingref29_Root.l0 k y0 y1 y2) (cohousingref29_Root.l0 (k + 1) y0 y1 y2))
 | 0 => fun _ _ _ r h => by simp [cohousingref29_Root.l0] at h
 | k + 1 => by
  have ih0 := cohousingref29_Root.mono_l k
  ·intro y0 y1 y2
   unfold cohousingref29_Root.l0
   repeat' first
   | (with_reducible exact ih0 _ _ _)
   | (with_reducible exact LeO.refl _)
   | (with_reducible exact LeO.none _)
   | (with_reducible refine LeO.ite ?_ ?_)
   | (with_reducible refine LeO.bind ?_ (fun _ => ?_))
   | exact ih0 _ _ _
   | exact LeO.none _
   | refine LeO.ite ?_ ?_
   | refine LeO.bind ?_ (fun _ => ?_)
theorem cohousingref29_Root.mono : ∀ a0 k, LeO (cohousingref29_Root.f k a0) (cohousingref29_Root.f (k + 1) a0) := by
 intro a0 k
 have ih0 := cohousingref29_Root.mono_l k
 unfold cohousingref29_Root.f
 repeat' first
   | (with_reducible exact ih0 _ _ _)
   | (with_reducible exact LeO.refl _)
   | (with_reducible exact LeO.none _)
   | (with_reducible refine LeO.ite ?_ ?_)
   | (with_reducible refine LeO.bind ?_ (fun _ => ?_))
   | exact ih0 _ _ _
   | exact LeO.none _
   | refine LeO.ite ?_ ?_
   | refine LeO.bind ?_ (fun _ => ?_)
set_option maxHeartbeats 8000000 in
set_option maxRecDepth 100000 in
theorem cohousingref29_Root.calls (k : Nat) (A0 : Option Addr) (c0 : Nat) (l0 : List (S63)) (r : Int) (w : World) (hr0 : Kd.C k63 w A0 l0.length l0) (hc0 : l0.length ≤ c0) (h : cohousingref29_Root.f k l0 = some r) :
  Calls Try.prog 18 #[.slice A0 l0.length c0] w fun e w' => e = .returned (.int .i64 r) ∧ Drawn0 w w' := by
 have HR0 := Aside0.mk hr0
 have HC0 := Aside0.mk hc0
 clear hr0 hc0
 have H : (cohousingref29_Root.l0 k l0 (-1) 0) = some r := h
 clear h
 have H' := Aside0.mk H
 clear H
 go_enter Try.func18, Try.ntmps18
 go_wp2
 go_loopg [3, 4] k (fun kq v3 v4 w' => ∃ (x3_1 : Int) (x4_1 : Int), v3 = .int .i64 x3_1 ∧ v4 = .int .i64 x4_1 ∧ Aside0 (cohousingref29_Root.l0 kq l0 x3_1 x4_1 = some r) ∧ Aside0 (kq ≤ k) ∧ Drawn0 w w')
 case atStart => exact ⟨((-1)), (0), (by first | rfl | (simp; done) | (simp [*]; done)), (by first | rfl | (simp; done) | (simp [*]; done)), H', ⟨Nat.le_refl _⟩, by repeat (first | exact Drawn0.refl _ | apply Drawn0.step)⟩
 case round =>
  clear H'
  try clear c1
  obtain ⟨x3_1, x4_1, rfl, rfl, HA, HK1, ⟨m1, rfl⟩⟩ := hrel
  cases gk with
  | zero => exact absurd HA.out (by simp [cohousingref29_Root.l0])
  | succ k1 =>
   have H := HA.out
   clear HA
   simp only [cohousingref29_Root.l0] at H
   by_cases c2 : x4_1 < (l0.length : Int)
   ·rw [if_pos c2] at H
    have c2b0 : decide (x4_1 < (l0.length : Int)) = true := decide_eq_true c2
    clear c2
    by_cases c3 : 0 ≤ x4_1
    ·rw [if_pos c3] at H
     have c3b0 : decide (0 ≤ x4_1) = true := decide_eq_true c3
     clear c3
     by_cases c4 : ((rd_T63 l0 x4_1).f1) = 0
     ·rw [if_pos c4] at H
      have c4b0 : (((rd_T63 l0 x4_1).f1) == 0) = true := beq_iff_eq.mpr c4
      have c4b1 : (((rd_T63 l0 x4_1).f1) != 0) = false := bne_eq_false_iff_eq.mpr c4
      clear c4
      by_cases c5 : x3_1 ≥ 0
      ·rw [if_pos c5] at H
       have c5b0 : decide (0 ≤ x3_1) = true := decide_eq_true c5
       clear c5
       obtain rfl := Option.some.inj H
       have p264 : 0 ≤ (x4_1 : Int) := of_decide_eq_true (by first | (with_reducible assumption) | assumption)
       have q264 : x4_1 < (l0.length : Int) := of_decide_eq_true (by first | (with_reducible assumption) | assumption)
       obtain ⟨ad264, e264, hx264_0, hx264_1, hx264_2⟩ := at_T63 HR0.out x4_1 p264 q264
       cases e264
       replace p264 := eq_true p264
       replace q264 := eq_true q264
       go_wp2
       go_ret
       exact ⟨by first | rfl | (simp; done) | (simp [*]; done), by repeat (first | exact Drawn0.refl _ | apply Drawn0.step)⟩
      ·rw [if_neg c5] at H
       have c5b0 : decide (0 ≤ x3_1) = false := decide_eq_false c5
       clear c5
       have H' := Aside0.mk H
       clear H
       have p264 : 0 ≤ (x4_1 : Int) := of_decide_eq_true (by first | (with_reducible assumption) | assumption)
       have q264 : x4_1 < (l0.length : Int) := of_decide_eq_true (by first | (with_reducible assumption) | assumption)
       obtain ⟨ad264, e264, hx264_0, hx264_1, hx264_2⟩ := at_T63 HR0.out x4_1 p264 q264
       cases e264
       replace p264 := eq_true p264
       replace q264 := eq_true q264
       go_wp2
       go_roundg k1
       case measure => have := HK1.out; omega
       case rel => exact ⟨(x4_1), (wrap64 (x4_1 + 1)), (by first | rfl | (simp; done) | (simp [*]; done)), (by first | rfl | (simp; done) | (simp [*]; done)), H', ⟨by have := HK1.out; omega⟩, by repeat (first | exact Drawn0.refl _ | apply Drawn0.step)⟩
     ·rw [if_neg c4] at H
      have c4b0 : (((rd_T63 l0 x4_1).f1) == 0) = false := beq_eq_false_iff_ne.mpr c4
      have c4b1 : (((rd_T63 l0 x4_1).f1) != 0) = true := bne_iff_ne.mpr c4
      have H' := Aside0.mk H
      clear H
      have p264 : 0 ≤ (x4_1 : Int) := of_decide_eq_true (by first | (with_reducible assumption) | assumption)
      have q264 : x4_1 < (l0.length : Int) := of_decide_eq_true (by first | (with_reducible assumption) | assumption)
      obtain ⟨ad264, e264, hx264_0, hx264_1, hx264_2⟩ := at_T63 HR0.out x4_1 p264 q264
      cases e264
      replace p264 := eq_true p264
      replace q264 := eq_true q264
      go_wp2
      go_roundg k1
      case measure => have := HK1.out; omega
      case rel => exact ⟨(x3_1), (wrap64 (x4_1 + 1)), (by first | rfl | (simp; done) | (simp [*]; done)), (by first | rfl | (simp; done) | (simp [*]; done)), H', ⟨by have := HK1.out; omega⟩, by repeat (first | exact Drawn0.refl _ | apply Drawn0.step)⟩
    ·rw [if_neg c3] at H
     exact absurd H (by simp)
   ·rw [if_neg c2] at H
    have c2b0 : decide (x4_1 < (l0.length : Int)) = false := decide_eq_false c2
    clear c2
    obtain rfl := Option.some.inj H
    go_wp2
    go_ret
    exact ⟨by first | rfl | (simp; done) | (simp [*]; done), by repeat (first | exact Drawn0.refl _ | apply Drawn0.step)⟩
end Go.Proofs.Ytbgchacafglcpaa.P
end
section
namespace Go.Proofs.Ytbgchacafglcpaa.P
open Go.RowKit Go.Proofs.YtbgchacafglcpaaW.PrintWords Go.Proofs.YtbgchacafglcpaaW.PrintLast Go.Proofs.YtbgchacafglcpaaW.PrintMore
attribute [local go_sem] max2_int min2_int max_two min_two max_three min_three max_four min_four
set_option linter.unusedVariables false
set_option linter.unusedSimpArgs false
open Go.Proofs.YtbgchacafglcpaaH
def mkI (v : Int) : S74 := ⟨v, v⟩
def okIn (l1 : List S38) (x : List Int) (i : Nat) : Bool := !decide (rd x i < (rd_T38 l1 i).f0) && !decide ((rd_T38 l1 i).f1 < rd x i)
def lostI (kids : List (List Int)) (x : List Int) (i : Nat) : Int := wrap64 (rd x i - totalF S74.f0 (belowI kids (x.map mkI) i))
def okEq (l0 : List S63) (kids : List (List Int)) (x : List Int) (i : Nat) : Bool := decide ((belowI kids (x.map mkI) i).length = 0) || (!decide (lostI kids x i < 0) && !decide ((rd_T63 l0 i).f2 < lostI kids x i))
def consR (l0 : List S63) (l1 : List S38) (x : List Int) : Bool × Int :=
 match netOk l0 with
 | none => (false, 1)
 | some kids => if belongsB l0.length l1 = true then (if x.length = l0.length then ((List.range l0.length).all (okIn l1 x) && (List.range l0.length).all (okEq l0 kids x), 0) else (false, 1)) else (false, 1)
def flow_Consistent.f (l0 : List S63) (l1 : List S38) (x : List Int) : Option (Bool × Int) := if l0.length ≤ 5864062014805 ∧ l1.length ≤ 140737488355328 ∧ x.length ≤ 17592186044416 then some (consR l0 l1 x) else none
theorem all_false {p : Nat → Bool} {n i : Nat} (hi : i < n) (h : p i = false) : (List.range n).all p = false := by
 rw [List.all_eq_false]
 exact ⟨i, List.mem_range.2 hi, by rw [h]; decide⟩
theorem all_true {p : Nat → Bool} {n : Nat} (h : ∀ i, i < n → p i = true) : (List.range n).all p = true := by
 rw [List.all_eq_true]
 intro i hi
 exact h i (List.mem_range.1 hi)
set_option maxHeartbeats 8000000 in
set_option maxRecDepth 100000 in
theorem flow_Consistent.calls (A0 : Option Addr) (c0 : Nat) (l0 : List (S63)) (A1 : Option Addr) (c1 : Nat) (l1 : List (S38)) (A2_ : Option Addr) (c2_ : Nat) (l2 : List Int) (r1 : Bool) (r2 : Int) (w : World) (hr0 : Kd.C k63 w A0 l0.length l0) (hc0 : l0.length ≤ c0) (hr1 : Kd.C k38 w A1 l1.length l1) (hc1 : l1.length ≤ c1) (hr2 : Kd.C (Kd.int .i64) w A2_ l2.length l2) (hc2 : l2.length ≤ c2_) (h : flow_Consistent.f l0 l1 l2 = some (r1, r2)) :
  Calls Try.prog 16 #[.slice A0 l0.length c0, .slice A1 l1.length c1, .slice A2_ l2.length c2_] w fun e w' => e = .returned (.tuple #[.bool r1, .int .i64 r2]) ∧ Below w.heap.size w w' := by
 have hu67 := Try.underlying67
 have hu74 := Try.underlying74
 have hu38 := Try.underlying38
 have hu63 := Try.underlying63
 unfold flow_Consistent.f at h
 by_cases hsz : l0.length ≤ 5864062014805 ∧ l1.length ≤ 140737488355328 ∧ l2.length ≤ 17592186044416
 case neg =>
  rw [if_neg hsz] at h
  cases h
 rw [if_pos hsz] at h
 injection h with h
 have HSZ := Aside0.mk hsz.1
 have HSZ1 := Aside0.mk hsz.2.1
 have HSZ2 := Aside0.mk hsz.2.2
 have HR0 := Aside0.mk hr0
 have HC0 := Aside0.mk hc0
 have HR1 := Aside0.mk hr1
 have HC1 := Aside0.mk hc1
 have HR2 := Aside0.mk hr2
 have HC2 := Aside0.mk hc2
 clear hsz hr0 hc0 hr1 hc1 hr2 hc2
 have HB := Aside0.mk (Below.refl w.heap.size w)
 cases ho : openK l0 with
 | none =>
  have HO := Aside0.mk ho
  have e : consR l0 l1 l2 = (false, 1) := by unfold consR netOk; rw [ho]; split <;> simp_all
  rw [e] at h
  injection h with e1 e2
  subst e1
  subst e2
  clear ho e
  go_enter Try.func16, Try.ntmps16
  go_wp2_with (first | (go_at_call 31; (with_reducible refine (open_none A0 c0 l0 _ HR0.out HC0.out HSZ.out HO.out).mono ?_); rintro e w1 ⟨rfl, hb⟩; have n0_ := Aside0.mk (below_step HB.out hb); clear HB hb; have HB := n0_; clear n0_) | ((with_reducible refine gate_dst (N := 8) rfl ?_); refine box_event ?hg (N := 8) ?hd (cs := #[.slice none 0 0, .slice none 0 0]) (t := 67) ?hr ?_; (case hd => rfl); (case hg => rfl); (case hr => first | (go_simp; done) | (go_simp; rfl)); intro gn hgn w3 hbn hb3; have hcn0 : w3.cell? ⟨gn, 0, none⟩ = some (.slice none 0 0) := (blk_cell hbn 0).trans rfl; have hcn1 : w3.cell? ⟨gn, 1, none⟩ = some (.slice none 0 0) := (blk_cell hbn 1).trans rfl; have hfn0 := blk_frozen hbn 0; have hfn1 := blk_frozen hbn 1; have BN := Aside0.mk hbn; have n0_ := Aside0.mk (below_step HB.out hb3); have GN := Aside0.mk (show w.heap.size ≤ gn by rw [hgn]; exact below_size HB.out); have GE := Aside0.mk hgn; (try have HK := Aside0.mk (Kd.S_below HK.out hb3)); clear HB hbn hb3 hgn; have HB := n0_; clear n0_) | ((with_reducible refine gate_store (t := 67) (p := 8) (v := .tmp 20) rfl ?_); refine store_event rfl (t := 67) (p := 8) (v := .tmp 20) rfl rfl (by first | (go_simp; done) | (go_simp; rfl)) ?_; intro w4 hw4; have BN4 := Aside0.mk (show w4.heap[gn]? = some (.cells #[.slice none 0 0, .slice none 0 0] 67 (0, 0)) by rw [hw4]; exact blk_put (blk_put BN.out 0 _ rfl) 1 _ rfl); have n0_ := Aside0.mk (show Below w.heap.size w w4 by rw [hw4]; exact below_set (below_set HB.out GN.out) GN.out); clear hw4 BN HB hcn0 hcn1 hfn0 hfn1; have HB := n0_; clear n0_; have hcn0 : w4.cell? ⟨gn, 0, none⟩ = some (.slice none 0 0) := (blk_cell BN4.out 0).trans rfl; have hcn1 : w4.cell? ⟨gn, 1, none⟩ = some (.slice none 0 0) := (blk_cell BN4.out 1).trans rfl))
  go_ret2
  exact ⟨rfl, HB.out⟩
 | some kids =>
  have HO := Aside0.mk ho
  by_cases hl : l0.length ≤ 200
  case neg =>
   have e : consR l0 l1 l2 = (false, 1) := by unfold consR netOk; rw [if_neg hl]
   rw [e] at h
   injection h with e1 e2
   subst e1
   subst e2
   have d1 : decide (l0.length ≤ 200) = false := decide_eq_false hl
   clear ho hl e
   go_enter Try.func16, Try.ntmps16
   go_wp2_with (first | (go_at_call 31; (with_reducible refine (open_some A0 c0 l0 _ HR0.out HC0.out HSZ.out HO.out).mono ?_); rintro e w1 ⟨A2, c2, rfl, hS, hb⟩; have n0_ := Aside0.mk (below_step HB.out hb); have HK := Aside0.mk hS; clear HB hb hS; have HB := n0_; clear n0_) | ((with_reducible refine gate_dst (N := 8) rfl ?_); refine box_event ?hg (N := 8) ?hd (cs := #[.slice none 0 0, .slice none 0 0]) (t := 67) ?hr ?_; (case hd => rfl); (case hg => rfl); (case hr => first | (go_simp; done) | (go_simp; rfl)); intro gn hgn w3 hbn hb3; have hcn0 : w3.cell? ⟨gn, 0, none⟩ = some (.slice none 0 0) := (blk_cell hbn 0).trans rfl; have hcn1 : w3.cell? ⟨gn, 1, none⟩ = some (.slice none 0 0) := (blk_cell hbn 1).trans rfl; have hfn0 := blk_frozen hbn 0; have hfn1 := blk_frozen hbn 1; have BN := Aside0.mk hbn; have n0_ := Aside0.mk (below_step HB.out hb3); have GN := Aside0.mk (show w.heap.size ≤ gn by rw [hgn]; exact below_size HB.out); have GE := Aside0.mk hgn; (try have HK := Aside0.mk (Kd.S_below HK.out hb3)); clear HB hbn hb3 hgn; have HB := n0_; clear n0_) | ((with_reducible refine gate_store (t := 67) (p := 8) (v := .tmp 20) rfl ?_); refine store_event rfl (t := 67) (p := 8) (v := .tmp 20) rfl rfl (by first | (go_simp; done) | (go_simp; rfl)) ?_; intro w4 hw4; have BN4 := Aside0.mk (show w4.heap[gn]? = some (.cells #[.slice A0 l0.length c0, .slice A2 l0.length c2] 67 (0, 0)) by rw [hw4]; exact blk_put (blk_put BN.out 0 _ rfl) 1 _ rfl); have n0_ := Aside0.mk (show Below w.heap.size w w4 by rw [hw4]; exact below_set (below_set HB.out GN.out) GN.out); have HK := Aside0.mk (show Kd.S (Kd.slice 3 (Kd.int .i64)) 24 w4 w.heap.size (fun _ => True) (.slice A2 l0.length c2) kids by rw [hw4]; have ht := Kd.S_far (p := ⟨gn, 0, none⟩) (Kd.S_types HK.out BN.out (by decide)) (fun _ hk => hk.2) (.slice A0 l0.length c0); exact Kd.S_mono (Kd.S_far (p := ⟨gn, 1, none⟩) ht (fun _ hk => hk.2) (.slice A2 l0.length c2)) (fun _ hk => hk.1)); clear hw4 BN HB hcn0 hcn1 hfn0 hfn1; have HB := n0_; clear n0_; have hcn0 : w4.cell? ⟨gn, 0, none⟩ = some (.slice A0 l0.length c0) := (blk_cell BN4.out 0).trans rfl; have hcn1 : w4.cell? ⟨gn, 1, none⟩ = some (.slice A2 l0.length c2) := (blk_cell BN4.out 1).trans rfl))
   go_ret2
   exact ⟨rfl, HB.out⟩
  have d1 : decide (l0.length ≤ 200) = true := decide_eq_true hl
  cases hbel : belongsB l0.length l1 with
  | false =>
   have HBEL := Aside0.mk hbel
   have e : consR l0 l1 l2 = (false, 1) := by unfold consR netOk; rw [if_pos hl, ho]; simp [hbel]
   rw [e] at h
   injection h with e1 e2
   subst e1
   subst e2
   clear ho hl hbel e
   go_enter Try.func16, Try.ntmps16
   go_wp2_with (first | (go_at_call 31; (with_reducible refine (open_some A0 c0 l0 _ HR0.out HC0.out HSZ.out HO.out).mono ?_); rintro e w1 ⟨A2, c2, rfl, hS, hb⟩; have n0_ := Aside0.mk (below_step HB.out hb); have HK := Aside0.mk hS; clear HB hb hS; have HB := n0_; clear n0_) | ((with_reducible refine gate_dst (N := 8) rfl ?_); refine box_event ?hg (N := 8) ?hd (cs := #[.slice none 0 0, .slice none 0 0]) (t := 67) ?hr ?_; (case hd => rfl); (case hg => rfl); (case hr => first | (go_simp; done) | (go_simp; rfl)); intro gn hgn w3 hbn hb3; have hcn0 : w3.cell? ⟨gn, 0, none⟩ = some (.slice none 0 0) := (blk_cell hbn 0).trans rfl; have hcn1 : w3.cell? ⟨gn, 1, none⟩ = some (.slice none 0 0) := (blk_cell hbn 1).trans rfl; have hfn0 := blk_frozen hbn 0; have hfn1 := blk_frozen hbn 1; have BN := Aside0.mk hbn; have n0_ := Aside0.mk (below_step HB.out hb3); have GN := Aside0.mk (show w.heap.size ≤ gn by rw [hgn]; exact below_size HB.out); have GE := Aside0.mk hgn; (try have HK := Aside0.mk (Kd.S_below HK.out hb3)); clear HB hbn hb3 hgn; have HB := n0_; clear n0_) | ((with_reducible refine gate_store (t := 67) (p := 8) (v := .tmp 20) rfl ?_); refine store_event rfl (t := 67) (p := 8) (v := .tmp 20) rfl rfl (by first | (go_simp; done) | (go_simp; rfl)) ?_; intro w4 hw4; have BN4 := Aside0.mk (show w4.heap[gn]? = some (.cells #[.slice A0 l0.length c0, .slice A2 l0.length c2] 67 (0, 0)) by rw [hw4]; exact blk_put (blk_put BN.out 0 _ rfl) 1 _ rfl); have n0_ := Aside0.mk (show Below w.heap.size w w4 by rw [hw4]; exact below_set (below_set HB.out GN.out) GN.out); have HK := Aside0.mk (show Kd.S (Kd.slice 3 (Kd.int .i64)) 24 w4 w.heap.size (fun _ => True) (.slice A2 l0.length c2) kids by rw [hw4]; have ht := Kd.S_far (p := ⟨gn, 0, none⟩) (Kd.S_types HK.out BN.out (by decide)) (fun _ hk => hk.2) (.slice A0 l0.length c0); exact Kd.S_mono (Kd.S_far (p := ⟨gn, 1, none⟩) ht (fun _ hk => hk.2) (.slice A2 l0.length c2)) (fun _ hk => hk.1)); clear hw4 BN HB hcn0 hcn1 hfn0 hfn1; have HB := n0_; clear n0_; have hcn0 : w4.cell? ⟨gn, 0, none⟩ = some (.slice A0 l0.length c0) := (blk_cell BN4.out 0).trans rfl; have hcn1 : w4.cell? ⟨gn, 1, none⟩ = some (.slice A2 l0.length c2) := (blk_cell BN4.out 1).trans rfl) | (go_at_call 32; (with_reducible refine (belongs_calls A0 l0.length c0 A2 l0.length c2 A1 c1 l1 _ (Kd.C_below HR1.out HB.out) HC1.out (by have := HSZ1.out; omega) (by have := HSZ.out; omega)).mono ?_); rw [HBEL.out]; rintro e w5 ⟨rfl, hb⟩; have n0_ := Aside0.mk (below_step HB.out hb); have HK := Aside0.mk (Kd.S_below HK.out hb); replace hcn0 := (hb.cell (World.block_lt_of_cell? _ _ hcn0)).trans hcn0; replace hcn1 := (hb.cell (World.block_lt_of_cell? _ _ hcn1)).trans hcn1; have BN4 := Aside0.mk (blk_below BN4.out hb); clear HB hb; have HB := n0_; clear n0_))
   go_ret2
   exact ⟨rfl, HB.out⟩
  | true =>
   have HBEL := Aside0.mk hbel
   have HLL := Aside0.mk (show l1.length = l0.length by unfold belongsB at hbel; simp at hbel; exact hbel.1)
   by_cases hx : l2.length = l0.length
   case neg =>
    have e : consR l0 l1 l2 = (false, 1) := by unfold consR netOk; rw [if_pos hl, ho]; simp only []; rw [if_pos hbel, if_neg hx]
    rw [e] at h
    injection h with e1 e2
    subst e1
    subst e2
    have d2 : ((l2.length : Int) == (l0.length : Int)) = false := beq_eq_false_iff_ne.2 (by omega)
    have d2' : ((l2.length : Int) != (l0.length : Int)) = true := bne_iff_ne.2 (by omega)
    clear ho hl hbel e hx
    go_enter Try.func16, Try.ntmps16
    go_wp2_with (first | (go_at_call 31; (with_reducible refine (open_some A0 c0 l0 _ HR0.out HC0.out HSZ.out HO.out).mono ?_); rintro e w1 ⟨A2, c2, rfl, hS, hb⟩; have n0_ := Aside0.mk (below_step HB.out hb); have HK := Aside0.mk hS; clear HB hb hS; have HB := n0_; clear n0_) | ((with_reducible refine gate_dst (N := 8) rfl ?_); refine box_event ?hg (N := 8) ?hd (cs := #[.slice none 0 0, .slice none 0 0]) (t := 67) ?hr ?_; (case hd => rfl); (case hg => rfl); (case hr => first | (go_simp; done) | (go_simp; rfl)); intro gn hgn w3 hbn hb3; have hcn0 : w3.cell? ⟨gn, 0, none⟩ = some (.slice none 0 0) := (blk_cell hbn 0).trans rfl; have hcn1 : w3.cell? ⟨gn, 1, none⟩ = some (.slice none 0 0) := (blk_cell hbn 1).trans rfl; have hfn0 := blk_frozen hbn 0; have hfn1 := blk_frozen hbn 1; have BN := Aside0.mk hbn; have n0_ := Aside0.mk (below_step HB.out hb3); have GN := Aside0.mk (show w.heap.size ≤ gn by rw [hgn]; exact below_size HB.out); have GE := Aside0.mk hgn; (try have HK := Aside0.mk (Kd.S_below HK.out hb3)); clear HB hbn hb3 hgn; have HB := n0_; clear n0_) | ((with_reducible refine gate_store (t := 67) (p := 8) (v := .tmp 20) rfl ?_); refine store_event rfl (t := 67) (p := 8) (v := .tmp 20) rfl rfl (by first | (go_simp; done) | (go_simp; rfl)) ?_; intro w4 hw4; have BN4 := Aside0.mk (show w4.heap[gn]? = some (.cells #[.slice A0 l0.length c0, .slice A2 l0.length c2] 67 (0, 0)) by rw [hw4]; exact blk_put (blk_put BN.out 0 _ rfl) 1 _ rfl); have n0_ := Aside0.mk (show Below w.heap.size w w4 by rw [hw4]; exact below_set (below_set HB.out GN.out) GN.out); have HK := Aside0.mk (show Kd.S (Kd.slice 3 (Kd.int .i64)) 24 w4 w.heap.size (fun _ => True) (.slice A2 l0.length c2) kids by rw [hw4]; have ht := Kd.S_far (p := ⟨gn, 0, none⟩) (Kd.S_types HK.out BN.out (by decide)) (fun _ hk => hk.2) (.slice A0 l0.length c0); exact Kd.S_mono (Kd.S_far (p := ⟨gn, 1, none⟩) ht (fun _ hk => hk.2) (.slice A2 l0.length c2)) (fun _ hk => hk.1)); clear hw4 BN HB hcn0 hcn1 hfn0 hfn1; have HB := n0_; clear n0_; have hcn0 : w4.cell? ⟨gn, 0, none⟩ = some (.slice A0 l0.length c0) := (blk_cell BN4.out 0).trans rfl; have hcn1 : w4.cell? ⟨gn, 1, none⟩ = some (.slice A2 l0.length c2) := (blk_cell BN4.out 1).trans rfl) | (go_at_call 32; (with_reducible refine (belongs_calls A0 l0.length c0 A2 l0.length c2 A1 c1 l1 _ (Kd.C_below HR1.out HB.out) HC1.out (by have := HSZ1.out; omega) (by have := HSZ.out; omega)).mono ?_); rw [HBEL.out]; rintro e w5 ⟨rfl, hb⟩; have n0_ := Aside0.mk (below_step HB.out hb); have HK := Aside0.mk (Kd.S_below HK.out hb); replace hcn0 := (hb.cell (World.block_lt_of_cell? _ _ hcn0)).trans hcn0; replace hcn1 := (hb.cell (World.block_lt_of_cell? _ _ hcn1)).trans hcn1; have BN4 := Aside0.mk (blk_below BN4.out hb); clear HB hb; have HB := n0_; clear n0_))
    go_ret2
    exact ⟨rfl, HB.out⟩
   have d2 : ((l2.length : Int) == (l0.length : Int)) = true := beq_iff_eq.2 (by omega)
   have d2' : ((l2.length : Int) != (l0.length : Int)) = false := by rw [bne, d2]; rfl
   have HXL := Aside0.mk hx
   have HKO := Aside0.mk (openK_ok ho)
   obtain ⟨R, hR⟩ : ∃ R, R = consR l0 l1 l2 := ⟨_, rfl⟩
   have e : consR l0 l1 l2 = ((List.range l0.length).all (okIn l1 l2) && (List.range l0.length).all (okEq l0 kids l2), 0) := by unfold consR netOk; rw [if_pos hl, ho]; simp only []; rw [if_pos hbel, if_pos hx]
   rw [e] at h
   injection h with e1 e2
   subst e2
   have HE1 := Aside0.mk e1
   clear ho hl hbel e hx e1 hR
   go_enter Try.func16, Try.ntmps16
   go_wp2_with (first | (go_at_call 31; (with_reducible refine (open_some A0 c0 l0 _ HR0.out HC0.out HSZ.out HO.out).mono ?_); rintro e w1 ⟨A2, c2, rfl, hS, hb⟩; have n0_ := Aside0.mk (below_step HB.out hb); have HK := Aside0.mk hS; clear HB hb hS; have HB := n0_; clear n0_) | ((with_reducible refine gate_dst (N := 8) rfl ?_); refine box_event ?hg (N := 8) ?hd (cs := #[.slice none 0 0, .slice none 0 0]) (t := 67) ?hr ?_; (case hd => rfl); (case hg => rfl); (case hr => first | (go_simp; done) | (go_simp; rfl)); intro gn hgn w3 hbn hb3; have hcn0 : w3.cell? ⟨gn, 0, none⟩ = some (.slice none 0 0) := (blk_cell hbn 0).trans rfl; have hcn1 : w3.cell? ⟨gn, 1, none⟩ = some (.slice none 0 0) := (blk_cell hbn 1).trans rfl; have hfn0 := blk_frozen hbn 0; have hfn1 := blk_frozen hbn 1; have BN := Aside0.mk hbn; have n0_ := Aside0.mk (below_step HB.out hb3); have GN := Aside0.mk (show w.heap.size ≤ gn by rw [hgn]; exact below_size HB.out); have GE := Aside0.mk hgn; (try have HK := Aside0.mk (Kd.S_below HK.out hb3)); clear HB hbn hb3 hgn; have HB := n0_; clear n0_) | ((with_reducible refine gate_store (t := 67) (p := 8) (v := .tmp 20) rfl ?_); refine store_event rfl (t := 67) (p := 8) (v := .tmp 20) rfl rfl (by first | (go_simp; done) | (go_simp; rfl)) ?_; intro w4 hw4; have BN4 := Aside0.mk (show w4.heap[gn]? = some (.cells #[.slice A0 l0.length c0, .slice A2 l0.length c2] 67 (0, 0)) by rw [hw4]; exact blk_put (blk_put BN.out 0 _ rfl) 1 _ rfl); have n0_ := Aside0.mk (show Below w.heap.size w w4 by rw [hw4]; exact below_set (below_set HB.out GN.out) GN.out); have HK := Aside0.mk (show Kd.S (Kd.slice 3 (Kd.int .i64)) 24 w4 w.heap.size (fun _ => True) (.slice A2 l0.length c2) kids by rw [hw4]; have ht := Kd.S_far (p := ⟨gn, 0, none⟩) (Kd.S_types HK.out BN.out (by decide)) (fun _ hk => hk.2) (.slice A0 l0.length c0); exact Kd.S_mono (Kd.S_far (p := ⟨gn, 1, none⟩) ht (fun _ hk => hk.2) (.slice A2 l0.length c2)) (fun _ hk => hk.1)); clear hw4 BN HB hcn0 hcn1 hfn0 hfn1; have HB := n0_; clear n0_; have hcn0 : w4.cell? ⟨gn, 0, none⟩ = some (.slice A0 l0.length c0) := (blk_cell BN4.out 0).trans rfl; have hcn1 : w4.cell? ⟨gn, 1, none⟩ = some (.slice A2 l0.length c2) := (blk_cell BN4.out 1).trans rfl) | (go_at_call 32; (with_reducible refine (belongs_calls A0 l0.length c0 A2 l0.length c2 A1 c1 l1 _ (Kd.C_below HR1.out HB.out) HC1.out (by have := HSZ1.out; omega) (by have := HSZ.out; omega)).mono ?_); rw [HBEL.out]; rintro e w5 ⟨rfl, hb⟩; have n0_ := Aside0.mk (below_step HB.out hb); have HK := Aside0.mk (Kd.S_below HK.out hb); replace hcn0 := (hb.cell (World.block_lt_of_cell? _ _ hcn0)).trans hcn0; replace hcn1 := (hb.cell (World.block_lt_of_cell? _ _ hcn1)).trans hcn1; have BN4 := Aside0.mk (blk_below BN4.out hb); clear HB hb; have HB := n0_; clear n0_) | ((with_reducible refine gate_dst (N := 39) rfl ?_); refine Kd.R_make k74 _ 74 rfl (N := 39) rfl 71 _ _ rfl (l2.length : Int) rfl rfl Try.underlying71 (.agg #[(.int .i64 0), (.int .i64 0)]) 16 info74 rfl (by decide) (by omega) z74 (ok := fun _ => True) (okp := fun _ => True) (k74_mkM _ _ _ z74) (fun _ hk => hk) trivial (by omega) (by have := HSZ.out; have := HXL.out; omega) (Below.refl _ _) (Nat.le_refl _) ?_; intro v1 w8 ho hb hg_ hnew_; have n0_ := Aside0.mk (below_step HB.out hb); have HRV := Aside0.mk (Kd.R_lower ho (below_size HB.out)); have HK := Aside0.mk (Kd.S_below HK.out hb); have BN4 := Aside0.mk (blk_below BN4.out hb); clear HB hb ho hg_ hnew_ hcn0 hcn1; have HB := n0_; clear n0_))
   obtain ⟨A3, c3, e3⟩ := Kd.R_slice HRV.out
   subst e3
   have hrv := HRV.out
   clear HRV
   rw [List.length_replicate, Int.toNat_natCast, HXL.out] at hrv ⊢
   have HRV := Aside0.mk hrv
   clear hrv
   go_loopg [42] l0.length (fun kq v42 wr => ∃ (n : Nat) (y : List S74), v42 = .int .i64 n ∧ Aside0 (kq + n = l0.length) ∧ Aside0 (y = (List.range n).foldl (fun y (j : Nat) => y.set j (mkI (rd l2 j))) (List.replicate l0.length z74)) ∧ Aside0 (∀ j, j < n → okIn l1 l2 j = true) ∧ Aside0 (Kd.R k74 74 wr w.heap.size (fun _ => True) (.slice A3 l0.length c3) y)
    ∧ Aside0 (Kd.S (Kd.slice 3 (Kd.int .i64)) 24 wr w.heap.size (fun _ => True) (.slice A2 l0.length c2) kids) ∧ Aside0 (wr.heap[gn]? = some (.cells #[.slice A0 l0.length c0, .slice A2 l0.length c2] 67 (0, 0))) ∧ Aside0 (Below w.heap.size w wr))
   case atStart => exact ⟨0, _, rfl, ⟨by omega⟩, ⟨rfl⟩, ⟨fun j hj => absurd hj (Nat.not_lt_zero _)⟩, HRV, HK, BN4, HB⟩
   case round =>
    clear HRV HB BN4 HK
    obtain ⟨n, y, rfl, HM, HY, HOK, HRV, HK, BN4, HB⟩ := hrel
    have HYL := Aside0.mk (show y.length = l0.length by rw [HY.out, fold_len, List.length_replicate])
    by_cases hlt : n < l0.length
    ·obtain ⟨i, hi⟩ : ∃ i : Int, i = (n : Int) := ⟨_, rfl⟩
     rw [← hi]
     have HI2 := Aside0.mk (show 0 ≤ i ∧ i < l0.length ∧ i = (n : Int) from ⟨by omega, by omega, hi⟩)
     have q2' : decide (i < (l0.length : Int)) = true := decide_eq_true HI2.out.2.1
     have ci2 : (0 ≤ i) = True := eq_true HI2.out.1
     have ci3 : (i < l0.length) = True := eq_true HI2.out.2.1
     have ci4 : (i < l1.length) = True := eq_true (by have := HI2.out; have := HLL.out; omega)
     obtain ⟨adx, ex, hxx⟩ := Kd.at_int (Kd.C_below HR2.out HB.out) i HI2.out.1 (by have := HI2.out; have := HXL.out; omega)
     subst ex
     obtain ⟨adr, er, hrr0, hrr1⟩ := at_T38 (Kd.C_below HR1.out HB.out) i HI2.out.1 (by have := HI2.out; have := HLL.out; omega)
     subst er
     obtain ⟨v, hv⟩ : ∃ v, v = rd l2 i := ⟨_, rfl⟩
     rw [← hv] at hxx
     have HV := Aside0.mk hv
     have HOKI : okIn l1 l2 n = (!decide (v < (rd_T38 l1 i).f0) && !decide ((rd_T38 l1 i).f1 < v)) := by unfold okIn; rw [hv, HI2.out.2.2]
     have HO2 := Aside0.mk HOKI
     clear hi hv HOKI
     by_cases ht1 : v < (rd_T38 l1 i).f0
     ·have t1 : decide (v < (rd_T38 l1 i).f0) = true := decide_eq_true ht1
      have HF := Aside0.mk (show r1 = false by rw [← HE1.out, all_false (show n < l0.length from hlt) (show okIn l1 l2 n = false by rw [HO2.out, t1]; rfl)]; rfl)
      clear ht1 hlt
      go_wp2
      go_ret2
      exact ⟨by rw [HF.out]; rfl, HB.out⟩
     have t1 : decide (v < (rd_T38 l1 i).f0) = false := decide_eq_false ht1
     by_cases ht2 : (rd_T38 l1 i).f1 < v
     ·have t2 : decide ((rd_T38 l1 i).f1 < v) = true := decide_eq_true ht2
      have HF := Aside0.mk (show r1 = false by rw [← HE1.out, all_false (show n < l0.length from hlt) (show okIn l1 l2 n = false by rw [HO2.out, t1, t2]; rfl)]; rfl)
      clear ht1 ht2 hlt
      go_wp2
      go_ret2
      exact ⟨by rw [HF.out]; rfl, HB.out⟩
     have t2 : decide ((rd_T38 l1 i).f1 < v) = false := decide_eq_false ht2
     have HNX := Aside0.mk (show okIn l1 l2 n = true by rw [HO2.out, t1, t2]; rfl)
     obtain ⟨go, cgo, eo, gob, gol, ogl, hogl⟩ := Kd.R_form HRV.out (by have := HI2.out; have := HYL.out; omega)
     injection eo with ea en ec
     subst ea
     subst ec
     have HGB := Aside0.mk gob
     have HGO := Aside0.mk hogl
     have HE := Aside0.mk (iv_elem HRV.out i HI2.out.1 HI2.out.2.1)
     have hxz0 := HE.out.1.1
     have hxz1 := HE.out.1.2
     have hfz0 := HE.out.2.1.1
     have hfz1 := HE.out.2.1.2
     clear ht1 ht2 hlt en gob gol hogl
     have hz1 : i + 1 ≤ 9223372036854775807 := by have := HI2.out; have := HSZ.out; omega
     have hz2 : -9223372036854775808 ≤ i + 1 := by have := HI2.out; omega
     go_wp2
     have hP := HE.out.2.2 (mkI v)
     go_roundg (gk - 1)
     case measure => have := HM.out; have := HI2.out; omega
     case rel =>
      refine ⟨n + 1, _, ?_, ⟨by have := HM.out; have := HI2.out; omega⟩, ⟨?_⟩, ⟨fun j hj => ?_⟩, ⟨hP.1⟩, ⟨Kd.S_mono (Kd.S_grown (Kd.S_types HK.out HGO.out (by decide)) hP.2 (fun k hk e => hk.2 (by cases e; rfl))) (fun _ hk => hk.1)⟩, ⟨blk_grown BN4.out hP.2 (by have := blk_ne BN4.out HGO.out (by decide); simpa using this)⟩, ⟨below_set (below_set HB.out HGB.out) HGB.out⟩⟩
      ·have := HI2.out
       first | (rw [show ((n + 1 : Nat) : Int) = i + 1 from by omega]; done) | (simp; omega)
      ·rw [foldl_range_succ, ← HY.out, ← HI2.out.2.2, ← HV.out, show i.toNat = n by have := HI2.out; omega]
      ·by_cases hj' : j < n
       ·exact HOK.out j hj'
       ·rw [show j = n by omega]
        exact HNX.out
    ·have q2' : decide ((n : Int) < (l0.length : Int)) = false := decide_eq_false (by omega)
     have q2'' : decide (n < l0.length) = false := decide_eq_false hlt
     have HNL := Aside0.mk (show n = l0.length by have := HM.out; omega)
     clear hlt
     have HYX := Aside0.mk (show y = l2.map mkI by
      rw [HY.out, HNL.out, fold_set _ _ _ (by simp), List.drop_of_length_le (by simp), List.append_nil, ← HXL.out]
      exact fold_map (0 : Int) mkI l2)
     have HALL := Aside0.mk (show (List.range l0.length).all (okIn l1 l2) = true from all_true (fun i hi => HOK.out i (by have := HNL.out; omega)))
     have HE2 := Aside0.mk (show (List.range l0.length).all (okEq l0 kids l2) = r1 by have := HE1.out; rw [HALL.out] at this; exact this)
     clear HOK HE1 HALL HM HY
     have hyx := HYX.out
     subst hyx
     clear HYX
     go_wp2
     go_loopg [72] l0.length (fun kq v72 wr => ∃ (n : Nat), v72 = .int .i64 n ∧ Aside0 (kq + n = l0.length) ∧ Aside0 (∀ j, j < n → okEq l0 kids l2 j = true) ∧ Aside0 (Kd.R k74 74 wr w.heap.size (fun _ => True) (.slice A3 l0.length c3) (l2.map mkI))
      ∧ Aside0 (Kd.S (Kd.slice 3 (Kd.int .i64)) 24 wr w.heap.size (fun _ => True) (.slice A2 l0.length c2) kids) ∧ Aside0 (wr.heap[gn]? = some (.cells #[.slice A0 l0.length c0, .slice A2 l0.length c2] 67 (0, 0))) ∧ Aside0 (Below w.heap.size w wr))
     case atStart => exact ⟨0, rfl, ⟨by omega⟩, ⟨fun j hj => absurd hj (Nat.not_lt_zero _)⟩, HRV, HK, BN4, HB⟩
     case round =>
      clear HRV HB BN4 HK
      obtain ⟨n, rfl, HM, HOK, HRV, HK, BN4, HB⟩ := hrel
      by_cases hlt : n < l0.length
      ·obtain ⟨i, hi⟩ : ∃ i : Int, i = (n : Int) := ⟨_, rfl⟩
       rw [← hi]
       have HI2 := Aside0.mk (show 0 ≤ i ∧ i < l0.length ∧ i = (n : Int) ∧ n < l0.length from ⟨by omega, by omega, hi, hlt⟩)
       have q2' : decide (i < (l0.length : Int)) = true := decide_eq_true HI2.out.2.1
       have ci2 : (0 ≤ i) = True := eq_true HI2.out.1
       have ci3 : (i < l0.length) = True := eq_true HI2.out.2.1
       obtain ⟨adp, ep, hp0, hp1, hp2⟩ := at_T63 (Kd.C_below HR0.out HB.out) i HI2.out.1 HI2.out.2.1
       subst ep
       clear hi hlt
       go_upto_region 15 with (first | ((with_reducible refine gate_dst (N := 14) rfl ?_); refine box_event ?hg (N := 14) ?hd (cs := #[.int .i64 0, .int .i64 0, .int .i64 0]) (t := 63) ?hr ?_; (case hd => rfl); (case hg => rfl); (case hr => first | (go_simp; done) | (go_simp; rfl)); intro gp hgp w9 hbp hb; have hcp0 : w9.cell? ⟨gp, 0, none⟩ = some (.int .i64 0) := (blk_cell hbp 0).trans rfl; have hcp1 : w9.cell? ⟨gp, 1, none⟩ = some (.int .i64 0) := (blk_cell hbp 1).trans rfl; have hcp2 : w9.cell? ⟨gp, 2, none⟩ = some (.int .i64 0) := (blk_cell hbp 2).trans rfl; have hfp0 := blk_frozen hbp 0; have hfp1 := blk_frozen hbp 1; have hfp2 := blk_frozen hbp 2; have BP := Aside0.mk hbp; have HB9 := Aside0.mk hb; have GP := Aside0.mk hgp; clear hbp hb hgp))
       obtain ⟨w10, hw10⟩ : ∃ w10, w10 = ((w9.setCell ⟨gp, 0, none⟩ (.int .i64 (rd_T63 l0 i).f0)).setCell ⟨gp, 1, none⟩ (.int .i64 (rd_T63 l0 i).f1)).setCell ⟨gp, 2, none⟩ (.int .i64 (rd_T63 l0 i).f2) := ⟨_, rfl⟩
       rw [← hw10]
       have BP10 := Aside0.mk (show w10.heap[gp]? = some (.cells #[.int .i64 (rd_T63 l0 i).f0, .int .i64 (rd_T63 l0 i).f1, .int .i64 (rd_T63 l0 i).f2] 63 (0, 0)) by rw [hw10]; exact blk_put3 BP.out _ _ _)
       have HB10 := Aside0.mk (below_new3 GP.out HB9.out hw10)
       clear hw10 hcp0 hcp1 hcp2 hfp0 hfp1 hfp2 hp0 hp1 hp2
       have HBW := Aside0.mk (below_step HB.out HB10.out)
       have hcn0 : w10.cell? ⟨gn, 0, none⟩ = some (.slice (some adp) l0.length c0) := (blk_cell (blk_below BN4.out HB10.out) 0).trans rfl
       have hcn1 : w10.cell? ⟨gn, 1, none⟩ = some (.slice A2 l0.length c2) := (blk_cell (blk_below BN4.out HB10.out) 1).trans rfl
       have hlo : w10.cell? ⟨gp, 2, none⟩ = some (.int .i64 (rd_T63 l0 i).f2) := (blk_cell BP10.out 2).trans rfl
       have hSr := Kd.S_reads' (Kd.S_below HK.out HB10.out)
       have hRr := Kd.R_reads' (Kd.R_below HRV.out HB10.out)
       obtain ⟨bl, hbl⟩ : ∃ bl, bl = belowI kids (l2.map mkI) i := ⟨_, rfl⟩
       have HCALL := Aside0.mk (below_calls (some adp) l0.length c0 l0 A2 l0.length c2 kids A3 l0.length c3 (l2.map mkI) i w10 rfl hSr.1 hRr.1 (Kd.C_below HR0.out HBW.out) HC0.out hSr.2.2 (hSr.1 ▸ hSr.2.1) hRr.2.2 (hRr.1 ▸ hRr.2.1) HI2.out.1 (hSr.1 ▸ HI2.out.2.1) (hRr.1.symm.trans hSr.1) (hSr.1 ▸ HKO.out) (hSr.1 ▸ HSZ.out))
       rw [← hbl] at HCALL
       have HBLN := Aside0.mk (show bl.length ≤ 140737488355328 by rw [hbl]; unfold belowI; rw [List.length_map]; have := (HKO.out.2 i).1; have := HSZ.out; omega)
       have HBL := Aside0.mk (show belowI kids (l2.map mkI) ((n : Nat) : Int) = bl by rw [hbl, HI2.out.2.2.1])
       clear hSr hRr hbl
       have hz1 : i + 1 ≤ 9223372036854775807 := by have := HI2.out; have := HSZ.out; omega
       have hz2 : -9223372036854775808 ≤ i + 1 := by have := HI2.out; omega
       by_cases hz : 0 < bl.length
       ·have z1 : decide (0 < (bl.length : Int)) = true := decide_eq_true (by omega)
        have z2 : decide (0 < bl.length) = true := decide_eq_true hz
        have HZ := Aside0.mk hz
        clear hz
        go_wp2_with (first | (go_at_call 37; (with_reducible refine HCALL.out.mono ?_); rintro e w11 ⟨Ab, cb, rfl, hRb, hb⟩; have HRB := Aside0.mk (Kd.R_reads' hRb).2; have HB11 := Aside0.mk hb; replace hcn0 := (hb.cell (World.block_lt_of_cell? _ _ hcn0)).trans hcn0; replace hcn1 := (hb.cell (World.block_lt_of_cell? _ _ hcn1)).trans hcn1; replace hlo := (hb.cell (World.block_lt_of_cell? _ _ hlo)).trans hlo; clear hRb hb))
        obtain ⟨adx, ex, hxx⟩ := Kd.at_int (Kd.C_below HR2.out ((below_step HBW.out HB11.out).drew)) i HI2.out.1 (by have := HI2.out; have := HXL.out; omega)
        subst ex
        obtain ⟨v, hv⟩ : ∃ v, v = rd l2 i := ⟨_, rfl⟩
        rw [← hv] at hxx
        have HV := Aside0.mk hv
        clear hv
        refine start_ (n := 8) (S := fun w' => w'.cell? (adx.add i.toNat) = some (.int .i64 v)) (ds := []) #[n_, n_, n_, n_, n_, n_, n_, n_] (by kernel_rfl) rfl rfl (hxx) (fun hHeld => ?_)
        refine pure_ (i := 0) (N := some 84) (v := ?_) (a' := ?_) #[y_, n_, n_, n_, n_, n_, n_, n_] rfl rfl (by kernel_rfl) (fun _ _ _ h => h) (Or.inl ⟨by rfl, ?_⟩) ?_ ?_
        rotate_left
        ·intro w'
         go_simp
         with_reducible rfl
        rotate_left
        ·simp only [Act.put, sI_, s0_, sS_, i64_w, i32_w]
         rfl
        refine pure_ (i := 1) (N := some 85) (v := ?_) (a' := ?_) #[y_, y_, n_, n_, n_, n_, n_, n_] rfl rfl (by kernel_rfl) (fun _ _ _ h => h) (Or.inl ⟨by rfl, ?_⟩) ?_ ?_
        rotate_left
        ·intro w'
         go_simp
         with_reducible rfl
        rotate_left
        ·simp only [Act.put, sI_, s0_, sS_, i64_w, i32_w]
         rfl
        refine pure_ (i := 2) (N := some 86) (v := ?_) (a' := ?_) #[y_, y_, y_, n_, n_, n_, n_, n_] rfl rfl (by kernel_rfl) (fun _ _ _ h => h) (Or.inl ⟨by rfl, ?_⟩) ?_ ?_
        rotate_left
        ·intro w'
         go_simp
         with_reducible rfl
        rotate_left
        ·simp only [Act.put, sI_, s0_, sS_, i64_w, i32_w]
         rfl
        refine pure_ (i := 4) (N := some 88) (v := ?_) (a' := ?_) #[y_, y_, y_, n_, y_, n_, n_, n_] rfl rfl (by kernel_rfl) (fun _ _ _ h => h) (Or.inl ⟨by rfl, ?_⟩) ?_ ?_
        rotate_left
        ·intro w'
         go_simp
         with_reducible rfl
        rotate_left
        ·simp only [Act.put, sI_, s0_, sS_, i64_w, i32_w]
         rfl
        refine take_ (i := 3) (N := some 87) (v := ?_) (a' := ?_) #[y_, y_, y_, y_, y_, n_, n_, n_] rfl rfl (by kernel_rfl) (fun _ _ _ h => h) (Or.inl ⟨by rfl, ?_⟩) hHeld ?_ ?_
        rotate_left
        ·intro w' s0
         go_simp
         with_reducible rfl
        rotate_left
        ·simp only [Act.put, sI_, s0_, sS_, i64_w, i32_w]
         rfl
        refine one_ (i := 5) (N := some 89) #[y_, y_, y_, y_, y_, y_, n_, n_] rfl rfl (by kernel_rfl) (by decide) (fun K hK => ?_)
        refine goes_ Try.func38 (by kernel_rfl) rfl #[.slice Ab bl.length cb, .func (.func 39) #[] #[]] (by rfl) rfl rfl (by simp only [List.map_toArray, List.map_cons, List.map_nil]; rfl) ?_
        with_reducible refine (flow_total_low Ab cb bl _ (Kd.C_below HRB.out.2 (below_drew (Below.refl _ _))) HRB.out.1 HBLN.out).mono ?_
        rintro e w12 ⟨rfl, hb⟩
        refine ⟨_, rfl, ?_⟩
        have HB12 := Aside0.mk (below_step (below_drew HB11.out) hb)
        have HBX := Aside0.mk (below_step (below_drew (Below.refl _ _)) hb)
        refine hK.out _ _ ((hb.cell (World.block_lt_of_cell? _ _ hHeld)).trans hHeld) (fun hHeld => ?_)
        clear hK K
        refine norm_ (a' := ?_) ?_ ?_
        rotate_left
        ·show Act.put _ (some 89) _ = _
         simp only [Act.put, sI_, s0_, sS_, i64_w, i32_w]
         rfl
        refine pure_ (i := 6) (N := some 90) (v := ?_) (a' := ?_) #[y_, y_, y_, y_, y_, y_, y_, n_] rfl rfl (by kernel_rfl) (fun _ _ _ h => h) (Or.inl ⟨by rfl, ?_⟩) ?_ ?_
        rotate_left
        ·intro w'
         go_simp
         with_reducible rfl
        rotate_left
        ·simp only [Act.put, sI_, s0_, sS_, i64_w, i32_w]
         rfl
        refine pure_ (i := 7) (N := some 16) (v := ?_) (a' := ?_) #[y_, y_, y_, y_, y_, y_, y_, y_] rfl rfl (by kernel_rfl) (fun _ _ _ h => h) (Or.inl ⟨by rfl, ?_⟩) ?_ ?_
        rotate_left
        ·intro w'
         go_simp
         with_reducible rfl
        rotate_left
        ·simp only [Act.put, sI_, s0_, sS_, i64_w, i32_w]
         rfl
        refine done_ (by kernel_rfl) ?_
        obtain ⟨lost, hlost⟩ : ∃ lost, lost = wrap64 (v - totalF S74.f0 bl) := ⟨_, rfl⟩
        rw [← hlost]
        have HLOST := Aside0.mk (show lostI kids l2 n = lost by unfold lostI; rw [HBL.out, hlost, HV.out, HI2.out.2.2.1])
        replace hlo := (HBX.out.cell (World.block_lt_of_cell? _ _ hlo)).trans hlo
        have HOKI := Aside0.mk (show okEq l0 kids l2 n = (!decide (lost < 0) && !decide ((rd_T63 l0 i).f2 < lost)) by unfold okEq; rw [HBL.out, HLOST.out, decide_eq_false (show ¬ bl.length = 0 from by have := HZ.out; omega), Bool.false_or, HI2.out.2.2.1])
        clear hlost
        by_cases ht1 : lost < 0
        ·have t1 : decide (lost < 0) = true := decide_eq_true ht1
         have HF := Aside0.mk (show r1 = false by rw [← HE2.out]; exact all_false HI2.out.2.2.2 (by rw [HOKI.out, t1]; rfl))
         clear ht1
         go_wp2
         go_ret2
         exact ⟨by rw [HF.out]; rfl, below_step HBW.out HB12.out⟩
        have t1 : decide (lost < 0) = false := decide_eq_false ht1
        by_cases ht2 : (rd_T63 l0 i).f2 < lost
        ·have t2 : decide ((rd_T63 l0 i).f2 < lost) = true := decide_eq_true ht2
         have HF := Aside0.mk (show r1 = false by rw [← HE2.out]; exact all_false HI2.out.2.2.2 (by rw [HOKI.out, t1, t2]; rfl))
         clear ht1 ht2
         go_wp2
         go_ret2
         exact ⟨by rw [HF.out]; rfl, below_step HBW.out HB12.out⟩
        have t2 : decide ((rd_T63 l0 i).f2 < lost) = false := decide_eq_false ht2
        have HNX := Aside0.mk (show okEq l0 kids l2 n = true by rw [HOKI.out, t1, t2]; rfl)
        have HBA := Aside0.mk (below_step HB10.out HB12.out)
        clear ht1 ht2
        go_wp2
        go_roundg (gk - 1)
        case measure => have := HM.out; have := HI2.out; omega
        case rel =>
         refine ⟨n + 1, ?_, ⟨by have := HM.out; have := HI2.out; omega⟩, ⟨fun j hj => ?_⟩, ⟨Kd.R_below HRV.out HBA.out⟩, ⟨Kd.S_below HK.out HBA.out⟩, ⟨blk_below BN4.out HBA.out⟩, ⟨below_step HB.out HBA.out⟩⟩
         ·have := HI2.out
          first | (rw [show ((n + 1 : Nat) : Int) = i + 1 from by omega]; done) | (simp; omega)
         ·by_cases hj' : j < n
          ·exact HOK.out j hj'
          ·rw [show j = n by omega]
           exact HNX.out
       ·have z1 : decide (0 < (bl.length : Int)) = false := decide_eq_false (by omega)
        have z2 : decide (0 < bl.length) = false := decide_eq_false hz
        have HNX := Aside0.mk (show okEq l0 kids l2 n = true by unfold okEq; rw [HBL.out, decide_eq_true (show bl.length = 0 by omega), Bool.true_or])
        clear hz
        go_wp2_with (first | (go_at_call 37; (with_reducible refine HCALL.out.mono ?_); rintro e w11 ⟨Ab, cb, rfl, hRb, hb⟩; have HRB := Aside0.mk (Kd.R_reads' hRb).2; have HB11 := Aside0.mk hb; replace hcn0 := (hb.cell (World.block_lt_of_cell? _ _ hcn0)).trans hcn0; replace hcn1 := (hb.cell (World.block_lt_of_cell? _ _ hcn1)).trans hcn1; replace hlo := (hb.cell (World.block_lt_of_cell? _ _ hlo)).trans hlo; clear hRb hb))
        have HBA := Aside0.mk (below_step HB10.out HB11.out)
        go_roundg (gk - 1)
        case measure => have := HM.out; have := HI2.out; omega
        case rel =>
         refine ⟨n + 1, ?_, ⟨by have := HM.out; have := HI2.out; omega⟩, ⟨fun j hj => ?_⟩, ⟨Kd.R_below HRV.out HBA.out⟩, ⟨Kd.S_below HK.out HBA.out⟩, ⟨blk_below BN4.out HBA.out⟩, ⟨below_step HB.out HBA.out⟩⟩
         ·have := HI2.out
          first | (rw [show ((n + 1 : Nat) : Int) = i + 1 from by omega]; done) | (simp; omega)
         ·by_cases hj' : j < n
          ·exact HOK.out j hj'
          ·rw [show j = n by omega]
           exact HNX.out
      ·have q2' : decide ((n : Int) < (l0.length : Int)) = false := decide_eq_false (by omega)
       have q2'' : decide (n < l0.length) = false := decide_eq_false hlt
       have HF := Aside0.mk (show r1 = true by rw [← HE2.out]; exact all_true (fun j hj => HOK.out j (by have := HM.out; omega)))
       clear hlt
       go_wp2
       go_ret2
       exact ⟨by rw [HF.out]; rfl, HB.out⟩
end Go.Proofs.Ytbgchacafglcpaa.P
end
section
namespace Go.Proofs.Ytbgchacafglcpaa.P
open Go.RowKit Go.Proofs.YtbgchacafglcpaaW.PrintWords Go.Proofs.YtbgchacafglcpaaW.PrintLast Go.Proofs.YtbgchacafglcpaaW.PrintMore
attribute [local go_sem] max2_int min2_int max_two min_two max_three min_three max_four min_four
set_option linter.unusedVariables false
set_option linter.unusedSimpArgs false
open Go.Proofs.YtbgchacafglcpaaH
def stateStep (l : List S63) (kids : List (List Int)) (p : List Int × List S74) (k : Nat) : List Int × List S74 :=
 (p.1.set k (rd_T74 p.2 k).f0, (boundsF l kids (p.2.set k ⟨(rd_T74 p.2 k).f0, (rd_T74 p.2 k).f0⟩)).2)
def stateFold (l : List S63) (kids : List (List Int)) (r : List S74) (n : Nat) : List Int × List S74 := (List.range n).foldl (stateStep l kids) (List.replicate l.length 0, r)
def stateR (l0 : List S63) (l1 : List S38) (i v : Int) : List Int × Int :=
 match netOk l0 with
 | none => ([], 1)
 | some kids => if belongsB l0.length l1 = true then (if i < 0 then ([], 1) else if (l0.length : Int) ≤ i then ([], 1) else
   if emptyI (cutI (rd_T74 (l1.map toI) i) v v) = true then ([], 30) else
   if (boundsF l0 kids ((l1.map toI).set i.toNat (cutI (rd_T74 (l1.map toI) i) v v))).1 = true then
    ((stateFold l0 kids (boundsF l0 kids ((l1.map toI).set i.toNat (cutI (rd_T74 (l1.map toI) i) v v))).2 l0.length).1, 0) else ([], 30)) else ([], 1)
def flow_State.f (l0 : List S63) (l1 : List S38) (i v : Int) : Option (List Int × Int) := if l0.length ≤ 5864062014805 ∧ l1.length ≤ 140737488355328 then some (stateR l0 l1 i v) else none
end Go.Proofs.Ytbgchacafglcpaa.P
end
