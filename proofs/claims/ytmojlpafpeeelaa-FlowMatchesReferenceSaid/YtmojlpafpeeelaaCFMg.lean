/- Part 7 of the proof of FlowMatchesReference: words and walks that the last part joins. -/
import Derived.ArgAppend
import Derived.Below
import Derived.BigQuiet
import Derived.ChangeOld
import Derived.ChangeSlices
import Derived.Deep.AppendLies
import Derived.Deep.CutBlock
import Derived.Deep.DeepCutAuto
import Derived.Deep.Draws
import Derived.Deep.LoopGhost
import Derived.Deep.OwnRows
import Derived.Deep.QuietTactic
import Derived.Deep.RegionHeld3
import Derived.Deep.Slices
import Derived.KernelRfl
import Derived.Laws.BitsLemmas
import Derived.Laws.BytesArg
import Derived.Laws.IdiomCopy
import Derived.Laws.MakeOwn
import Derived.Laws.OwnMore
import Derived.Laws.Rows
import Derived.Laws.Slices
import Derived.Laws.StructEq
import Derived.Lib.AppendStr
import Derived.Lib.ConvBytes
import Derived.LoopIn
import Derived.LoopNIn
import Derived.Maps.AppendAt
import Derived.Maps.Own
import Derived.OpenShut
import Derived.OrdersHeld
import Derived.OwnWalk
import Derived.OwnWalkIn
import Derived.ProofKit
import Derived.RangeFuncBound
import Derived.RangeFuncCalls
import Derived.RangeFuncLeaves
import Derived.RangeFuncNested
import Derived.RowKit
import Derived.RowKit3
import Derived.ShutString
import Derived.SizedLaws
import Derived.Tactics
import Derived.TacticsInMore
import Derived.Test.YtmojlpafpeeelaaProg
import Derived.WalkKit
import Derived.WideLaws
import Derived.Test.YtmojlpafpeeelaaCFMf
set_option linter.unusedVariables false
set_option linter.unusedSimpArgs false
section
namespace Go.Proofs.Ytmojlpafpeeelaa.P
open Go.RowKit Go.Proofs.YtmojlpafpeeelaaW.PrintWords Go.Proofs.YtmojlpafpeeelaaW.PrintLast Go.Proofs.YtmojlpafpeeelaaW.PrintMore Go.Proofs.YtmojlpafpeeelaaH Go.Proofs.FlowTree
open Classical
theorem fx_set (x : List Int) (k j : Nat) (v : Int) (h : k < x.length) : fx (x.set k v) j = if k = j then v else fx x j := by
 simp only [fx, rd, List.getD_eq_getElem?_getD, Int.toNat_natCast, List.getElem?_set]
 by_cases e : k = j
 ·subst e; simp [h]
 ·simp [e]
theorem Lo_set (r : List IV) (k j : Nat) (y : IV) (h : k < r.length) : Lo (r.set k y) j = if k = j then y.f0 else Lo r j := by
 unfold Lo; rw [rv_set r k j y h]; split <;> rfl
theorem Hi_set (r : List IV) (k j : Nat) (y : IV) (h : k < r.length) : Hi (r.set k y) j = if k = j then y.f1 else Hi r j := by
 unfold Hi; rw [rv_set r k j y h]; split <;> rfl
section
variable {l : List PI} {kids : List (List Int)}
def Tight (l : List PI) (q : List IV) : Prop := Exact l (Lo q) (Hi q) q
theorem exact_tight {lo hi : Nat → Int} {d : List IV} (h : Exact l lo hi d) : Tight l d ∧ ∀ y, Sol (netT l) (Lo d) (Hi d) y ↔ Sol (netT l) lo hi y := by
 have key : ∀ y, Sol (netT l) (Lo d) (Hi d) y ↔ Sol (netT l) lo hi y := fun y =>
  ⟨fun hy => ⟨fun i hi => by have := hy.1 i hi; have := h.rng i hi; omega, hy.2⟩, fun hy => ⟨fun i hi => h.sol y hy i hi, hy.2⟩⟩
 refine ⟨⟨h.len, fun j hj => ?_, fun x hx j hj => hx.1 j hj, fun j hj v h1 h2 => ?_⟩, key⟩
 ·have := h.rng j hj
  exact ⟨this.1, this.2.1, this.2.2.1, Int.le_refl _, Int.le_refl _⟩
 ·obtain ⟨x, hx, e⟩ := h.had j hj v h1 h2
  exact ⟨x, (key x).2 hx, e⟩
theorem fixed (hok : okL l) (hn : l.length ≤ 200) (hk : ∀ j, j < l.length → rdK kids j = (kidsAt l l.length j).map Int.ofNat) {q : List IV} (hq : q.length = l.length) (hv : Vol l.length (Lo q) (Hi q)) {k : Nat} (hkl : k < l.length) {v : Int}
  (hr : Lo q k ≤ v ∧ v ≤ Hi q k) (hs : ∃ x, Sol (netT l) (Lo q) (Hi q) x ∧ x k = v) :
  (boundsF l kids (q.set k ⟨v, v⟩)).1 = true ∧ Tight l (boundsF l kids (q.set k ⟨v, v⟩)).2 ∧ ∀ y, Sol (netT l) (Lo (boundsF l kids (q.set k ⟨v, v⟩)).2) (Hi (boundsF l kids (q.set k ⟨v, v⟩)).2) y ↔ Sol (netT l) (Lo q) (Hi q) y ∧ y k = v := by
 have hkq : k < q.length := by omega
 have hset : ∀ j, Lo (q.set k ⟨v, v⟩) j = (if k = j then v else Lo q j) ∧ Hi (q.set k ⟨v, v⟩) j = (if k = j then v else Hi q j) := fun j => ⟨Lo_set q k j _ hkq, Hi_set q k j _ hkq⟩
 have hsol : ∀ y, Sol (netT l) (Lo (q.set k ⟨v, v⟩)) (Hi (q.set k ⟨v, v⟩)) y ↔ Sol (netT l) (Lo q) (Hi q) y ∧ y k = v := by
  intro y
  constructor
  ·intro hy
   have hyk := hy.1 k hkl
   rw [(hset k).1, (hset k).2, if_pos rfl, if_pos rfl] at hyk
   refine ⟨⟨fun i hi => ?_, hy.2⟩, by omega⟩
   have := hy.1 i hi
   rw [(hset i).1, (hset i).2] at this
   by_cases e : k = i
   ·subst e; omega
   ·rw [if_neg e, if_neg e] at this; exact this
  ·rintro ⟨hy, e⟩
   refine ⟨fun i hi => ?_, hy.2⟩
   rw [(hset i).1, (hset i).2]
   by_cases e' : k = i
   ·subst e'; rw [if_pos rfl, if_pos rfl]; omega
   ·rw [if_neg e', if_neg e']; exact hy.1 i hi
 have hvol : Vol l.length (Lo (q.set k ⟨v, v⟩)) (Hi (q.set k ⟨v, v⟩)) := fun i hi => by
  rw [(hset i).1, (hset i).2]
  have := hv i hi
  by_cases e : k = i
  ·subst e; rw [if_pos rfl, if_pos rfl]; omega
  ·rw [if_neg e, if_neg e]; exact this
 rcases boundsF_spec hok hn hk (r := q.set k ⟨v, v⟩) (by rw [List.length_set, hq]) hvol with ⟨_, b2⟩ | ⟨b1, b2⟩
 ·obtain ⟨x, hx, e⟩ := hs
  exact absurd ⟨x, (hsol x).2 ⟨hx, e⟩⟩ b2
 ·have := exact_tight b2
  exact ⟨b1, this.1, fun y => (this.2 y).trans (hsol y)⟩
structure StateAt (l : List PI) (b : List IV) (m : Nat) (p : List Int × List IV) : Prop where
 len : p.1.length = l.length
 tight : Tight l p.2
 sol : ∀ y, Sol (netT l) (Lo p.2) (Hi p.2) y ↔ Sol (netT l) (Lo b) (Hi b) y ∧ ∀ j, j < m → y j = fx p.1 j
 first : ∀ y, Sol (netT l) (Lo b) (Hi b) y → (∀ j, j < m → y j = fx p.1 j) ∨ ∃ j, j < m ∧ fx p.1 j < y j ∧ ∀ i, i < j → y i = fx p.1 i
theorem state_at (hok : okL l) (hn : l.length ≤ 200) (hk : ∀ j, j < l.length → rdK kids j = (kidsAt l l.length j).map Int.ofNat) {b : List IV} (hb : Tight l b) : ∀ m, m ≤ l.length → StateAt l b m (stateFold l kids b m) := by
 intro m
 induction m with
 | zero => intro _; exact ⟨by simp [stateFold], hb, fun y => ⟨fun h => ⟨h, fun j hj => absurd hj (Nat.not_lt_zero _)⟩, fun h => h.1⟩, fun y _ => .inl (fun j hj => absurd hj (Nat.not_lt_zero _))⟩
 | succ m ih =>
  intro hm
  have h := ih (by omega)
  rw [stateFold_succ]
  obtain ⟨p, hp⟩ : ∃ p, p = stateFold l kids b m := ⟨_, rfl⟩
  rw [← hp] at h ⊢
  have hmp : m < p.1.length := by rw [h.len]; omega
  have hrm := h.tight.rng m (by omega)
  have hhad := h.tight.had m (by omega) (Lo p.2 m) (Int.le_refl _) (by omega)
  have hf := fixed hok hn hk h.tight.len (fun i hi => by have := h.tight.rng i hi; omega) (show m < l.length by omega) (v := Lo p.2 m) (by omega) hhad
  have hset : ∀ j, fx (p.1.set m (Lo p.2 m)) j = if m = j then Lo p.2 m else fx p.1 j := fun j => fx_set p.1 m j _ hmp
  have hstep : stateStep l kids p m = (p.1.set m (Lo p.2 m), (boundsF l kids (p.2.set m ⟨Lo p.2 m, Lo p.2 m⟩)).2) := rfl
  rw [hstep]
  refine ⟨by rw [List.length_set]; exact h.len, hf.2.1, fun y => ?_, fun y hy => ?_⟩
  ·rw [hf.2.2 y, h.sol y]
   constructor
   ·rintro ⟨⟨h1, h2⟩, h3⟩
    refine ⟨h1, fun j hj => ?_⟩
    show y j = fx (p.1.set m (Lo p.2 m)) j
    rw [hset]
    by_cases e : m = j
    ·subst e; rw [if_pos rfl]; exact h3
    ·rw [if_neg e]; exact h2 j (by omega)
   ·rintro ⟨h1, h2⟩
    refine ⟨⟨h1, fun j hj => ?_⟩, ?_⟩
    ·have : y j = fx (p.1.set m (Lo p.2 m)) j := h2 j (by omega)
     rw [hset, if_neg (by omega)] at this
     exact this
    ·have : y m = fx (p.1.set m (Lo p.2 m)) m := h2 m (by omega)
     rw [hset, if_pos rfl] at this
     exact this
  ·show (∀ j, j < m + 1 → y j = fx (p.1.set m (Lo p.2 m)) j) ∨ ∃ j, j < m + 1 ∧ fx (p.1.set m (Lo p.2 m)) j < y j ∧ ∀ i, i < j → y i = fx (p.1.set m (Lo p.2 m)) i
   rcases h.first y hy with h1 | ⟨j, hj, h2, h3⟩
   ·have hy2 := (h.sol y).2 ⟨hy, h1⟩
    have hym := hy2.1 m (by simp only [netT]; omega)
    by_cases e : y m = Lo p.2 m
    ·refine .inl (fun j hj => ?_)
     rw [hset]
     by_cases e' : m = j
     ·subst e'; rw [if_pos rfl]; exact e
     ·rw [if_neg e']; exact h1 j (by omega)
    ·refine .inr ⟨m, by omega, ?_, fun i hi => ?_⟩
     ·rw [hset, if_pos rfl]; omega
     ·rw [hset, if_neg (by omega)]; exact h1 i hi
   ·refine .inr ⟨j, by omega, ?_, fun i hi => ?_⟩
    ·rw [hset, if_neg (by omega)]; exact h2
    ·rw [hset, if_neg (by omega)]; exact h3 i hi
end
inductive StateIs (l : List PI) (r : List RG) (i v : Int) : List Int × Int → Prop
 | arg : ¬ (Good l r ∧ 0 ≤ i ∧ i < (l.length : Int)) → StateIs l r i v ([], 1)
 | flow : Good l r → 0 ≤ i → i < (l.length : Int) → (¬ ∃ x, Sol (netT l) (lo9 r) (hi9 r) x ∧ x i.toNat = v) → StateIs l r i v ([], 30)
 | ok (x : List Int) : Good l r → 0 ≤ i → i < (l.length : Int) → x.length = l.length → Sol (netT l) (lo9 r) (hi9 r) (fx x) → fx x i.toNat = v →
   (∀ y, Sol (netT l) (lo9 r) (hi9 r) y → y i.toNat = v → (∀ j, j < l.length → y j = fx x j) ∨ ∃ j, j < l.length ∧ fx x j < y j ∧ ∀ k, k < j → y k = fx x k) → StateIs l r i v (x, 0)
theorem set_one (r : List RG) (n : Nat) (v : Int) : (r.set n ⟨v, v⟩).map toI = (r.map toI).set n ⟨v, v⟩ := by rw [List.map_set]; rfl
theorem with_f (r : List RG) (n : Nat) (v : Int) (h : n < r.length) (hl : r.length ≤ 200) : cohousingref28_with.f r (n : Int) v = some (r.set n ⟨v, v⟩) := by
 unfold cohousingref28_with.f
 have h1 : ([] : List RG).length + r.length < 8796093022208 := by simp; omega
 have h2 : (0 : Int) ≤ (n : Int) := by omega
 have h3 : ((n : Int) < (r.length : Int)) := by omega
 simp only [Option.bind_some, h1, if_true, List.nil_append, h2, h3, Int.toNat_natCast]
section
variable {l : List PI} {kids : List (List Int)}
theorem ref_state_l0 (hok : okL l) (hn : l.length ≤ 200) (hk : ∀ j, j < l.length → rdK kids j = (kidsAt l l.length j).map Int.ofNat) {b : List IV} (hb : Tight l b) : ∀ (d m : Nat), m + d = l.length →
  Ev (fun k => cohousingref28_State.l0 k l ((stateFold l kids b m).2.map toR) ((stateFold l kids b m).1.take m) (m : Int)) ((stateFold l kids b l.length).1, 0) := by
 intro d
 induction d with
 | zero =>
  intro m hm
  have h1 : ¬ ((m : Int) < (l.length : Int)) := by omega
  refine Ev.step ?_
  simp only [cohousingref28_State.l0, h1, if_false]
  have e : m = l.length := by omega
  subst e
  rw [List.take_of_length_le (by rw [(state_at hok hn hk hb l.length (Nat.le_refl _)).len]; exact Nat.le_refl _)]
  exact Ev.pure _
 | succ d ih =>
  intro m hm
  have hs := state_at hok hn hk hb m (by omega)
  have hrec := ih (m + 1) (by omega)
  rw [stateFold_succ] at hrec
  obtain ⟨p, hp⟩ : ∃ p, p = stateFold l kids b m := ⟨_, rfl⟩
  rw [← hp] at hs hrec ⊢
  have hp2 : p.2.length = l.length := hs.tight.len
  have hrm := hs.tight.rng m (by omega)
  have h1 : ((m : Int) < (l.length : Int)) := by omega
  have h2 : (0 : Int) ≤ (m : Int) := by omega
  have h3 : ((m : Int) < ((p.2.map toR).length : Int)) := by rw [List.length_map]; omega
  have h4 : (p.1.take m).length < 17592186044416 := by rw [List.length_take]; omega
  have hlo : (rd_T39 (p.2.map toR) (m : Int)).f0 = Lo p.2 m := congrFun (lo_map p.2) m
  have hw := with_f (p.2.map toR) m (Lo p.2 m) (by rw [List.length_map]; omega) (by rw [List.length_map]; omega)
  have hf := fixed hok hn hk hs.tight.len (fun i hi => by have := hs.tight.rng i hi; omega) (show m < l.length by omega) (v := Lo p.2 m) (by omega) (hs.tight.had m (by omega) (Lo p.2 m) (Int.le_refl _) (by omega))
  have hmap : ((p.2.map toR).set m ⟨Lo p.2 m, Lo p.2 m⟩).map toI = p.2.set m ⟨Lo p.2 m, Lo p.2 m⟩ := by rw [set_one, toI_toR]
  have hvol : Vol l.length (lo9 ((p.2.map toR).set m ⟨Lo p.2 m, Lo p.2 m⟩)) (hi9 ((p.2.map toR).set m ⟨Lo p.2 m, Lo p.2 m⟩)) := fun i hi => by
   rw [← Lo_map, ← Hi_map, hmap, Lo_set _ _ _ _ (by omega), Hi_set _ _ _ _ (by omega)]
   have := hs.tight.rng i hi
   by_cases e : m = i
   ·subst e; rw [if_pos rfl, if_pos rfl]; dsimp only; omega
   ·rw [if_neg e, if_neg e]; omega
  have hrb := ref_bounds hok hn hk (r := (p.2.map toR).set m ⟨Lo p.2 m, Lo p.2 m⟩) (by rw [List.length_set, List.length_map, hp2]) hvol
  rw [hmap] at hrb
  rcases hrb with ⟨b1, _⟩ | ⟨b1, _, b3⟩
  ·rw [hf.1] at b1; cases b1
  ·refine Ev.step ?_
   simp only [cohousingref28_State.l0, h1, h2, h3, h4, if_true, hlo, Option.bind_some, hw, wrap_nat (show m ≤ 140737488355328 by omega)]
   refine Ev.bnd b3 ?_
   simp only [if_true]
   have hstep : stateStep l kids p m = (p.1.set m (Lo p.2 m), (boundsF l kids (p.2.set m ⟨Lo p.2 m, Lo p.2 m⟩)).2) := rfl
   rw [hstep] at hrec
   have htake : (p.1.set m (Lo p.2 m)).take (m + 1) = p.1.take m ++ [Lo p.2 m] := by
    rw [List.take_succ_eq_append_getElem (by rw [List.length_set, hs.len]; omega), List.take_set_of_le (Nat.le_refl _)]
    simp
   rw [htake] at hrec
   exact hrec
end
theorem stateR_is (l : List PI) (r : List RG) (i v : Int) : StateIs l r i v (stateR l r i v) ∧ (l.length ≤ 5864062014805 → r.length ≤ 140737488355328 → Ev (fun k => cohousingref28_State.f k l r i v) (stateR l r i v)) := by
 have hpre : ∀ R, (Good l r → Ev (fun k => if i < 0 then cohousingref28_State.j0 k l r i v true else cohousingref28_State.j0 k l r i v (decide (i ≥ (l.length : Int)))) R) → (¬ Good l r → R = ([], 1)) →
   l.length ≤ 5864062014805 → r.length ≤ 140737488355328 → Ev (fun k => cohousingref28_State.f k l r i v) R := by
  intro R h1 h2 hl hr
  have hbel : cohousingref28_Belongs.f l r = some (belongsB l.length r) := by unfold cohousingref28_Belongs.f; rw [if_pos ⟨by omega, hr⟩]
  unfold cohousingref28_State.f
  refine Ev.bnd (valid_f l (by omega)) ?_
  simp only [hbel, Option.bind_some]
  by_cases hg : Good l r
  ·rw [decide_eq_true ((good_iff l r).1 hg).1, ((good_iff l r).1 hg).2]
   simp only [if_true]
   exact h1 hg
  ·rw [h2 hg]
   have hj : Ev (fun k => cohousingref28_State.j0 k l r i v true) ([], 1) := by
    refine Ev.step ?_
    simp only [cohousingref28_State.j0, if_true]
    exact Ev.pure _
   by_cases hv : okL l ∧ l.length ≤ 200
   ·have hb : belongsB l.length r = false := by rw [Bool.eq_false_iff]; exact fun h => hg ((good_iff l r).2 ⟨hv, h⟩)
    rw [decide_eq_true hv, hb]
    simp only [if_true, Bool.false_eq_true, if_false]
    exact hj
   ·rw [decide_eq_false hv]
    simp only [Bool.false_eq_true, if_false]
    exact hj
 by_cases hg : Good l r
 case neg =>
  have e : stateR l r i v = ([], 1) := by
   unfold stateR
   have hno := fun h => hg ((good_iff l r).2 h)
   by_cases hv : okL l ∧ l.length ≤ 200
   ·obtain ⟨kids, h1, h2⟩ := netOk_some hv.1 hv.2
    rw [h1]
    simp only []
    rw [if_neg (fun h => hno ⟨hv, h⟩)]
   ·rw [netOk_none hv]
  rw [e]
  exact ⟨.arg (fun h => hg h.1), hpre _ (fun h => absurd h hg) (fun _ => rfl)⟩
 obtain ⟨kids, h1, h2⟩ := netOk_some hg.ok hg.n
 have hn := hg.n
 have e0 : stateR l r i v = (if i < 0 then ([], 1) else if (l.length : Int) ≤ i then ([], 1) else
   if emptyI (cutI (rd_T59 (r.map toI) i) v v) = true then ([], 30) else
   if (boundsF l kids ((r.map toI).set i.toNat (cutI (rd_T59 (r.map toI) i) v v))).1 = true then
    ((stateFold l kids (boundsF l kids ((r.map toI).set i.toNat (cutI (rd_T59 (r.map toI) i) v v))).2 l.length).1, 0) else ([], 30)) := by
  unfold stateR
  rw [h1]
  simp only []
  rw [if_pos ((good_iff l r).1 hg).2]
 rw [e0]
 by_cases hi0 : i < 0
 ·rw [if_pos hi0]
  refine ⟨.arg (fun h => by omega), hpre _ (fun _ => ?_) (fun h => absurd hg h)⟩
  simp only [hi0, if_true]
  refine Ev.step ?_
  simp only [cohousingref28_State.j0, if_true]
  exact Ev.pure _
 rw [if_neg hi0]
 by_cases hi1 : (l.length : Int) ≤ i
 ·rw [if_pos hi1]
  refine ⟨.arg (fun h => by omega), hpre _ (fun _ => ?_) (fun h => absurd hg h)⟩
  have hd : decide (i ≥ (l.length : Int)) = true := decide_eq_true hi1
  simp only [hi0, if_false, hd]
  refine Ev.step ?_
  simp only [cohousingref28_State.j0, if_true]
  exact Ev.pure _
 rw [if_neg hi1]
 obtain ⟨n, rfl⟩ : ∃ n : Nat, i = n := ⟨i.toNat, by omega⟩
 have hnl : n < l.length := by omega
 have hnr : n < r.length := by have := hg.len; omega
 have hvn := hg.vol n hnl
 rw [Int.toNat_natCast]
 have hd : decide ((n : Int) ≥ (l.length : Int)) = false := decide_eq_false hi1
 have hx0 : (rd_T59 (r.map toI) (n : Int)).f0 = lo9 r n := congrFun (Lo_map r) n
 have hx1 : (rd_T59 (r.map toI) (n : Int)).f1 = hi9 r n := congrFun (Hi_map r) n
 have w2 : (rd_T39 r (n : Int)).f0 = lo9 r n := rfl
 have w3 : (rd_T39 r (n : Int)).f1 = hi9 r n := rfl
 have g2 : (0 : Int) ≤ (n : Int) := by omega
 have g3 : ((n : Int) < (r.length : Int)) := by omega
 have hem : emptyI (cutI (rd_T59 (r.map toI) (n : Int)) v v) = decide (¬ (lo9 r n ≤ v ∧ v ≤ hi9 r n)) := by
  unfold emptyI
  rw [cutI_f0, cutI_f1, hx0, hx1]
  exact decide_eq_decide.2 (by omega)
 have hno : ∀ R, (∀ R', (Ev (fun k => cohousingref28_State.j1 k l r (n : Int) v (decide (¬ (lo9 r n ≤ v ∧ v ≤ hi9 r n)))) R' → R' = R → l.length ≤ 5864062014805 → r.length ≤ 140737488355328 → Ev (fun k => cohousingref28_State.f k l r (n : Int) v) R)) := by
  intro R R' hj hR
  subst hR
  refine hpre R' (fun _ => ?_) (fun h => absurd hg h)
  simp only [hi0, if_false, hd]
  refine Ev.step ?_
  simp only [cohousingref28_State.j0, Bool.false_eq_true, if_false, g2, g3, if_true, w2, w3]
  by_cases c : v < lo9 r n
  ·simp only [c, if_true]
   rw [decide_eq_true (show ¬ (lo9 r n ≤ v ∧ v ≤ hi9 r n) by omega)] at hj
   exact hj
  ·simp only [c, if_false]
   rw [show decide (v > hi9 r n) = decide (¬ (lo9 r n ≤ v ∧ v ≤ hi9 r n)) from decide_eq_decide.2 (by omega)]
   exact hj
 by_cases hin : lo9 r n ≤ v ∧ v ≤ hi9 r n
 case neg =>
  rw [if_pos (by rw [hem, decide_eq_true hin])]
  refine ⟨.flow hg g2 (by omega) ?_, hno _ _ ?_ rfl⟩
  ·rintro ⟨x, hx, e⟩
   have := hx.1 n hnl
   rw [Int.toNat_natCast] at e
   omega
  ·rw [decide_eq_true hin]
   refine Ev.step ?_
   simp only [cohousingref28_State.j1, if_true]
   exact Ev.pure _
 rw [if_neg (by rw [hem, decide_eq_false (fun h => h hin)]; decide)]
 have hcut : cutI (rd_T59 (r.map toI) (n : Int)) v v = ⟨v, v⟩ := by
  have a := cutI_f0 (rd_T59 (r.map toI) (n : Int)) v v
  have b := cutI_f1 (rd_T59 (r.map toI) (n : Int)) v v
  rw [hx0] at a
  rw [hx1] at b
  cases hc : cutI (rd_T59 (r.map toI) (n : Int)) v v with
  | mk c0 c1 =>
   rw [hc] at a b
   simp only at a b
   rw [a, b]
   congr 1 <;> omega
 rw [hcut]
 have hmap : (r.set n ⟨v, v⟩).map toI = (r.map toI).set n ⟨v, v⟩ := set_one r n v
 have hlen' : n < (r.map toI).length := by rw [List.length_map]; exact hnr
 have hvol : Vol l.length (lo9 (r.set n ⟨v, v⟩)) (hi9 (r.set n ⟨v, v⟩)) := fun j hj => by
  rw [← Lo_map, ← Hi_map, hmap, Lo_set _ _ _ _ hlen', Hi_set _ _ _ _ hlen', Lo_map, Hi_map]
  have := hg.vol j hj
  by_cases e : n = j
  ·subst e; rw [if_pos rfl, if_pos rfl]; dsimp only; omega
  ·rw [if_neg e, if_neg e]; exact this
 have hsol : ∀ y, Sol (netT l) (lo9 (r.set n ⟨v, v⟩)) (hi9 (r.set n ⟨v, v⟩)) y ↔ Sol (netT l) (lo9 r) (hi9 r) y ∧ y n = v := by
  intro y
  rw [← Lo_map (r.set n ⟨v, v⟩), ← Hi_map (r.set n ⟨v, v⟩), hmap]
  have hset : ∀ j, Lo ((r.map toI).set n ⟨v, v⟩) j = (if n = j then v else lo9 r j) ∧ Hi ((r.map toI).set n ⟨v, v⟩) j = (if n = j then v else hi9 r j) := fun j => by
   rw [Lo_set _ _ _ _ hlen', Hi_set _ _ _ _ hlen', Lo_map, Hi_map]; exact ⟨rfl, rfl⟩
  constructor
  ·intro hy
   have hyk := hy.1 n hnl
   rw [(hset n).1, (hset n).2, if_pos rfl, if_pos rfl] at hyk
   refine ⟨⟨fun j hj => ?_, hy.2⟩, by omega⟩
   have := hy.1 j hj
   rw [(hset j).1, (hset j).2] at this
   by_cases e : n = j
   ·subst e; omega
   ·rw [if_neg e, if_neg e] at this; exact this
  ·rintro ⟨hy, e⟩
   refine ⟨fun j hj => ?_, hy.2⟩
   rw [(hset j).1, (hset j).2]
   by_cases e' : n = j
   ·subst e'; rw [if_pos rfl, if_pos rfl]; omega
   ·rw [if_neg e', if_neg e']; exact hy.1 j hj
 have hrb := ref_bounds hg.ok hn h2 (r := r.set n ⟨v, v⟩) (by rw [List.length_set, hg.len]) hvol
 rw [hmap] at hrb
 have hw := with_f r n v hnr (by have := hg.len; omega)
 rcases hrb with ⟨b1, b2, b3⟩ | ⟨b1, b2, b3⟩
 ·rw [if_neg (by rw [b1]; decide)]
  refine ⟨.flow hg g2 (by omega) ?_, hno _ _ ?_ rfl⟩
  ·rintro ⟨x, hx, e⟩
   rw [Int.toNat_natCast] at e
   exact b2 ⟨x, (hsol x).2 ⟨hx, e⟩⟩
  ·rw [decide_eq_false (fun h => h hin)]
   refine Ev.step ?_
   simp only [cohousingref28_State.j1, Bool.false_eq_true, if_false, hw, Option.bind_some]
   refine Ev.bnd b3 ?_
   simp only [Bool.false_eq_true, if_false]
   exact Ev.pure _
 ·rw [if_pos b1]
  obtain ⟨b, hb⟩ : ∃ b, b = (boundsF l kids ((r.map toI).set n ⟨v, v⟩)).2 := ⟨_, rfl⟩
  rw [← hb] at b2 b3 ⊢
  have ht := exact_tight b2
  have hs := state_at hg.ok hn h2 ht.1 l.length (Nat.le_refl _)
  obtain ⟨p, hp⟩ : ∃ p, p = stateFold l kids b l.length := ⟨_, rfl⟩
  have hrec := ref_state_l0 hg.ok hn h2 ht.1 l.length 0 (by omega)
  rw [← hp] at hs hrec ⊢
  have hz : 0 < l.length := by omega
  obtain ⟨y, hy, _⟩ := hs.tight.had 0 hz (Lo p.2 0) (Int.le_refl _) (hs.tight.rng 0 hz).2.1
  have hy2 := (hs.sol y).1 hy
  have hy3 := (hsol y).1 ((ht.2 y).1 hy2.1)
  have hxsol : Sol (netT l) (lo9 r) (hi9 r) (fx p.1) := by
   refine ⟨fun j hj => ?_, fun j hj => ?_⟩
   ·rw [← hy2.2 j hj]; exact hy3.1.1 j hj
   ·exact eq_congr (x := y) (hy2.2 j hj) (fun k hk' => hy2.2 k ((netT_ok hg.ok).lt j k hk').2) (hy3.1.2 j hj)
  refine ⟨.ok p.1 hg g2 (by omega) hs.len hxsol ?_ ?_, hno _ _ ?_ rfl⟩
  ·rw [Int.toNat_natCast, ← hy2.2 n hnl]; exact hy3.2
  ·intro q hq hqv
   rw [Int.toNat_natCast] at hqv
   exact hs.first q ((ht.2 q).2 ((hsol q).2 ⟨hq, hqv⟩))
  ·rw [decide_eq_false (fun h => h hin)]
   refine Ev.step ?_
   simp only [cohousingref28_State.j1, Bool.false_eq_true, if_false, hw, Option.bind_some]
   refine Ev.bnd b3 ?_
   simp only [if_true]
   exact hrec
end Go.Proofs.Ytmojlpafpeeelaa.P
end
section
namespace Go.Proofs.Ytmojlpafpeeelaa.P
open Go.RowKit Go.Proofs.YtmojlpafpeeelaaW.PrintWords Go.Proofs.YtmojlpafpeeelaaW.PrintLast Go.Proofs.YtmojlpafpeeelaaW.PrintMore Go.Proofs.YtmojlpafpeeelaaH Go.Proofs.FlowTree
open Classical
theorem Ev.of_mono {α : Type} {f : Nat → Option α} {r : α} (k0 : Nat) (h0 : f k0 = some r) (h : ∀ k, LeO (f k) (f (k + 1))) : Ev f r := by
 refine ⟨k0, fun k hk => ?_⟩
 obtain ⟨d, rfl⟩ : ∃ d, k = k0 + d := ⟨k - k0, by omega⟩
 induction d with
 | zero => exact h0
 | succ d ih => exact h _ _ (ih (by omega))
theorem head_ev : Ev (fun k => cohousinglaw28_head.f k) true := Ev.of_mono 40 (by kernel_rfl) (fun k => cohousinglaw28_head.mono k)
theorem sameI_l0 (a b : List Int) (hB : a.length ≤ 140737488355328) (hl : a.length = b.length) : ∀ (d i : Nat), i + d = a.length → Ev (fun k => cohousingref02_Same.l0 k a b (i : Int)) (decide (∀ j, i ≤ j → j < a.length → fx a j = fx b j)) := by
 intro d
 induction d with
 | zero =>
  intro i hi
  have h1 : ¬ ((i : Int) < (a.length : Int)) := by omega
  refine Ev.step ?_
  simp only [cohousingref02_Same.l0, h1, if_false]
  rw [decide_eq_true (fun j h2 h3 => by omega)]
  exact Ev.pure _
 | succ d ih =>
  intro i hi
  have h1 : ((i : Int) < (a.length : Int)) := by omega
  have h2 : (0 : Int) ≤ (i : Int) := by omega
  have h3 : ((i : Int) < (b.length : Int)) := by omega
  refine Ev.step ?_
  by_cases hc : rd a (i : Int) = rd b (i : Int)
  ·simp only [cohousingref02_Same.l0, h1, h2, h3, hc, if_true, wrap_nat (show i ≤ 140737488355328 by omega)]
   rw [show decide (∀ j, i ≤ j → j < a.length → fx a j = fx b j) = decide (∀ j, i + 1 ≤ j → j < a.length → fx a j = fx b j) from decide_eq_decide.2 ⟨fun h j h4 h5 => h j (by omega) h5, fun h j h4 h5 => by
    by_cases e : j = i
    ·subst e; exact hc
    ·exact h j (by omega) h5⟩]
   exact ih (i + 1) (by omega)
  ·simp only [cohousingref02_Same.l0, h1, h2, h3, hc, if_true, if_false]
   rw [decide_eq_false (fun h => hc (h i (Nat.le_refl _) (by omega)))]
   exact Ev.pure _
theorem sameI_refl (a : List Int) (hB : a.length ≤ 140737488355328) : Ev (fun k => cohousingref02_Same.f k a a) true := by
 have := sameI_l0 a a hB rfl a.length 0 (by omega)
 rw [decide_eq_true (fun j _ _ => rfl)] at this
 unfold cohousingref02_Same.f
 simp only [if_true]
 exact this
theorem boundsR_len (l : List PI) (r : List RG) : (boundsR l r).1.length ≤ 200 := by
 have h := boundsR_is l r
 generalize boundsR l r = q at h
 cases h with
 | arg _ => simp
 | flow _ _ => simp
 | ok d hg he => simp only [List.length_map]; rw [he.len]; exact hg.n
theorem stateR_len (l : List PI) (r : List RG) (i v : Int) : (stateR l r i v).1.length ≤ 200 := by
 have h := (stateR_is l r i v).1
 generalize stateR l r i v = q at h
 cases h with
 | arg _ => simp
 | flow _ _ _ _ => simp
 | ok x hg _ _ hx _ _ _ => rw [hx]; exact hg.n
theorem B_f (l : List PI) (r : List RG) (x : List Int) (hl : l.length ≤ 5864062014805) (hr : r.length ≤ 140737488355328) (hx : x.length ≤ 17592186044416) : flow_Bounds.f l r = some (boundsR l r) := by unfold flow_Bounds.f; rw [if_pos ⟨hl, hr⟩]
theorem S_f (l : List PI) (r : List RG) (x : List Int) (hl : l.length ≤ 5864062014805) (hr : r.length ≤ 140737488355328) (hx : x.length ≤ 17592186044416) (i v : Int) : flow_State.f l r i v = some (stateR l r i v) := by unfold flow_State.f; rw [if_pos ⟨hl, hr⟩]
theorem C_f (l : List PI) (r : List RG) (x : List Int) (hl : l.length ≤ 5864062014805) (hr : r.length ≤ 140737488355328) (hx : x.length ≤ 17592186044416) : flow_Consistent.f l r x = some (consR l r x) := by unfold flow_Consistent.f; rw [if_pos ⟨hl, hr, hx⟩]
theorem V_f (l : List PI) (r : List RG) (x : List Int) (hl : l.length ≤ 5864062014805) (hr : r.length ≤ 140737488355328) (hx : x.length ≤ 17592186044416) : flow_Valid.f l = some (decide (okL l ∧ l.length ≤ 200)) := by unfold flow_Valid.f; rw [if_pos hl, valid_iff]
section
variable (l : List PI) (r : List RG) (x : List Int) (hl : l.length ≤ 5864062014805) (hr : r.length ≤ 140737488355328) (hx : x.length ≤ 17592186044416)
include hl hr hx
theorem matches_ (i v : Int) : Ev (fun k => cohousinglaw28_FlowMatchesReference.f k l r x i v) true := by
 have hB := B_f l r x hl hr hx
 have hS := S_f l r x hl hr hx i v
 have hC := C_f l r x hl hr hx
 have hV := V_f l r x hl hr hx
 have rB := ref_Bounds l r hl hr
 have rC := ref_Consistent l r x hl hr
 have rS := (stateR_is l r i v).2 hl hr
 have rV := valid_f l (by omega)
 have sB := same_f (boundsR l r).1 (boundsR l r).1 (by have := boundsR_len l r; omega)
 rw [decide_eq_true rfl] at sB
 have sS := sameI_refl (stateR l r i v).1 (by have := stateR_len l r i v; omega)
 have hmain : ∀ c : Bool, Ev (fun k => cohousinglaw28_FlowMatchesReference.j0 k l r x i v true c) true := by
  intro c
  refine Ev.step ?_
  cases c with
  | true =>
   simp only [cohousinglaw28_FlowMatchesReference.j0, if_true]
   exact Ev.pure _
  | false =>
   simp only [cohousinglaw28_FlowMatchesReference.j0, Bool.false_eq_true, if_false, hB, hV, Option.bind_some, if_true]
   refine Ev.bnd rB (Ev.bnd rV ?_)
   simp only [beq_self_eq_true, if_true]
   refine Ev.bnd sB ?_
   simp only [if_true]
   refine Ev.step ?_
   simp only [cohousinglaw28_FlowMatchesReference.j1, hC, Option.bind_some]
   refine Ev.bnd rC ?_
   simp only [beq_self_eq_true, if_true, hS, Option.bind_some]
   refine Ev.bnd rS ?_
   refine Ev.bnd sS ?_
   simp only [beq_self_eq_true, if_true]
   exact Ev.pure _
 unfold cohousinglaw28_FlowMatchesReference.f
 refine Ev.bnd head_ev ?_
 by_cases h40 : (l.length : Int) > 40
 ·simp only [h40, if_true]
  exact hmain _
 ·simp only [h40, if_false]
  exact hmain _
end
end Go.Proofs.Ytmojlpafpeeelaa.P
end
section
namespace Go.Proofs.YtmojlpafpeeelaaH
open Go.RowKit Go.ChangeShapes Go.WideShapes Go.Proofs.YtmojlpafpeeelaaW.PrintWords
def Opens {α : Type} (P : Program) (d : Kd α) (t : TypeId) : Prop :=
 ∀ {H : Type} {enc : TypeId × Value → H} {w : World} {base : Nat} {spare : Nat → Bool} {held : Bool} {fuel : Nat} {cs : List Value} {x : DataW H × List MemPlace}, DataW.trod enc P w base spare held fuel t cs = some x → ∃ a : α, d.K w a cs
theorem Opens.int {P : Program} {t : TypeId} {k : IntKind} (h : P.underlying t = some (.int k)) : Opens P (Kd.int k) t := by
 intro H enc w base spare held fuel cs x hx
 obtain ⟨n, rfl, _, _⟩ := DataW.trod_int h hx
 exact ⟨n, rfl⟩
theorem Opens.iso {α β : Type} {P : Program} {d : Kd α} {t : TypeId} (f : β → α) (g : α → β) (hfg : ∀ a, f (g a) = a) (h : Opens P d t) : Opens P (Kd.iso d f) t := by
 intro H enc w base spare held fuel cs x hx
 obtain ⟨a, ha⟩ := h hx
 refine ⟨g a, ?_⟩
 show d.K w (f (g a)) cs
 rw [hfg]
 exact ha
def Segs {β : Type} (P : Program) (d : Kd β) (fs : List Field) (o z : Nat) : Prop :=
 ∀ {H : Type} {enc : TypeId × Value → H} {w : World} {base : Nat} {spare : Nat → Bool} {held : Bool} {fuel : Nat} {cs : List Value}, cs.length = z →
  (∀ f ∈ fs, ∃ x : DataW H × List MemPlace, DataW.trod enc P w base spare held fuel f.type ((cs.drop f.offset).take (P.cellsOf f.type)) = some x) → ∃ b : β, d.K w b (cs.drop o)
theorem Segs.one {α : Type} {P : Program} {d : Kd α} {f : Field} {o z : Nat} (h : Opens P d f.type) (ho : f.offset = o) (hz : z = o + P.cellsOf f.type) : Segs P d [f] o z := by
 intro H enc w base spare held fuel cs hl hf
 obtain ⟨x, hx⟩ := hf f (by simp)
 obtain ⟨a, ha⟩ := h hx
 refine ⟨a, ?_⟩
 rw [ho, List.take_of_length_le (by rw [List.length_drop]; omega)] at ha
 exact ha
theorem Segs.cons {α β : Type} {P : Program} {d : Kd α} {d' : Kd β} {f : Field} {fs : List Field} {o o' z : Nat} (h : Opens P d f.type) (ho : f.offset = o) (ho' : o' = o + P.cellsOf f.type) (hr : Segs P d' fs o' z) : Segs P (Kd.pair d d') (f :: fs) o z := by
 intro H enc w base spare held fuel cs hl hf
 obtain ⟨x, hx⟩ := hf f (by simp)
 obtain ⟨a, ha⟩ := h hx
 obtain ⟨b, hb⟩ := hr hl (fun f' h' => hf f' (List.mem_cons_of_mem _ h'))
 refine ⟨(a, b), _, _, ?_, ha, hb⟩
 rw [ho, ho', ← List.drop_drop, List.take_append_drop]
theorem Opens.struct {β : Type} {P : Program} {d : Kd β} {t : TypeId} {fs : Array Field} (h : P.underlying t = some (.struct fs)) (hr : Segs P d fs.toList 0 (P.cellsOf t)) : Opens P d t := by
 intro H enc w base spare held fuel cs x hx
 obtain ⟨xs, n, _, _, hl, hxl, hf⟩ := DataW.trod_struct h hx
 have := hr (enc := enc) (w := w) (base := base) (spare := spare) (held := held) (fuel := n) (cs := cs) hl (fun f hm => by
  obtain ⟨i, hi, rfl⟩ := List.mem_iff_getElem.1 hm
  have hi' : i < fs.size := by simpa using hi
  have h1 := hf i fs[i] (by simp [hi'])
  refine ⟨xs[i]'(by omega), ?_⟩
  rw [Array.getElem_toList]
  rw [h1]
  simp [hxl, hi'])
 rw [List.drop_zero] at this
 exact this
theorem Opens.row {α : Type} {P : Program} {d : Kd α} {t e : TypeId} (ht : P.underlying t = some (.slice e)) (hsz : P.cellsOf e = d.sz) (he : Opens P d e) {H : Type} {enc : TypeId × Value → H} {w : World} {base : Nat} {spare : Nat → Bool} {held : Bool} {fuel : Nat} {cs : List Value} {x : DataW H × List MemPlace}
  (hx : DataW.trod enc P w base spare held fuel t cs = some x) : ∃ A len cap, cs = [.slice A len cap] ∧ ∃ xs : List α, xs.length = len ∧ len ≤ cap ∧ d.C w A len xs := by
 rcases Deep.open_slice ht hx with ⟨rfl, _⟩ | ⟨a, len, cap, m, n, D, Pl, rfl, _, hl, hm, hmm, _, hel⟩
 ·exact ⟨none, 0, 0, rfl, [], rfl, Nat.le_refl _, rfl, by omega, fun h => absurd h (Nat.lt_irrefl _)⟩
 ·have hlm : len ≤ m := by rw [hmm]; split <;> omega
  have each : ∀ i, i < len → ∃ a' : α, ∃ cs', cs'.length = d.sz ∧ d.K w a' cs' ∧ ∀ j u, cs'[j]? = some u → w.cell? (a.add (i * d.sz + j)) = some u := by
   intro i hi
   obtain ⟨cs', h1, h2⟩ := hel i (by omega)
   obtain ⟨a', ha'⟩ := he h2
   obtain ⟨_, hlen, hcell⟩ := World.cells?_some h1
   refine ⟨a', cs', by omega, ha', fun j u hj => ?_⟩
   have hjl : j < cs'.length := (List.getElem?_eq_some_iff.1 hj).1
   have := hcell j (by omega)
   rw [Deep.add_add, hsz] at this
   rw [this, hj]
  obtain ⟨xs, hxs⟩ : ∃ xs : List α, xs.length = len ∧ ∀ i (h : i < xs.length), ∃ cs', cs'.length = d.sz ∧ d.K w xs[i] cs' ∧ ∀ j u, cs'[j]? = some u → w.cell? (a.add (i * d.sz + j)) = some u := by
   have key : ∀ k, k ≤ len → ∃ xs : List α, xs.length = k ∧ ∀ i (h : i < xs.length), ∃ cs', cs'.length = d.sz ∧ d.K w xs[i] cs' ∧ ∀ j u, cs'[j]? = some u → w.cell? (a.add (i * d.sz + j)) = some u := by
    intro k
    induction k with
    | zero => intro _; exact ⟨[], rfl, fun i h => absurd h (Nat.not_lt_zero _)⟩
    | succ k ih =>
     intro hk
     obtain ⟨xs, hl, hxs⟩ := ih (by omega)
     obtain ⟨a', ha'⟩ := each k (by omega)
     refine ⟨xs ++ [a'], by simp [hl], fun i h => ?_⟩
     by_cases hi : i < xs.length
     ·rw [List.getElem_append_left hi]
      exact hxs i hi
     ·have e : i = xs.length := by simp at h; omega
      subst e
      rw [List.getElem_append_right (Nat.le_refl _)]
      simp only [Nat.sub_self, List.getElem_cons_zero]
      rw [hl]
      exact ha'
   exact key len (Nat.le_refl _)
  refine ⟨some a, len, cap, rfl, xs, hxs.1, hl, hxs.1, ?_, fun _ => ⟨a, rfl, fun j p hj => ?_⟩⟩
  ·have : maxLen = 2 ^ 63 - 1 := rfl
   omega
  ·obtain ⟨hjl, rfl⟩ := List.getElem?_eq_some_iff.1 hj
   exact hxs.2 j hjl
theorem open_arg {α : Type} {P : Program} {d : Kd α} {t e : TypeId} (ht : P.underlying t = some (.slice e)) (hsz : P.cellsOf e = d.sz) (he : Opens P d e) {H : Type} {enc : TypeId × Value → H} {w : World} {base : Nat} {spare : Nat → Bool} {held : Bool} {A : Option Addr} {len cap : Nat} {x : DataW H} {ps : List MemPlace}
  (hx : DataW.Trod enc P w base spare held t (.slice A len cap) x ps) : ∃ xs : List α, xs.length = len ∧ len ≤ cap ∧ d.C w A len xs := by
 obtain ⟨fuel, hf⟩ := hx
 obtain ⟨A', len', cap', e1, r⟩ := Opens.row ht hsz he hf
 simp [Value.cells] at e1
 obtain ⟨rfl, rfl, rfl⟩ := e1
 exact r
theorem sized_arg {H : Type} {enc : TypeId × Value → H} {P : Program} {W : World} {base : Nat} {spare : Nat → Bool} {held : Bool} {t e : TypeId} {a : Option Addr} {len cap : Nat} {d : DataW H} {ps : List MemPlace} {ts : List TypeId} {ds : List (DataW H)} {j : Nat}
  (hsz : (DataW.weightsEach P ts ds).all (· ≤ reachBytes) = true) (ht : ts[j]? = some t) (hd : ds[j]? = some d) (hu : P.underlying t = some (.slice e)) {B : Nat} (hB : P.bytesOf e = B)
  (h : DataW.Trod enc P W base spare held t (.slice a len cap) d ps) : len * B ≤ 140737488351232 := by
 obtain ⟨fuel, hf⟩ := h
 rcases Deep.open_slice hu hf with ⟨hcs, _⟩ | ⟨x, l, c, m, n, D, Pl, hcs, _, hl, _, hm, hx, _⟩
 ·simp [Value.cells] at hcs
  obtain ⟨rfl, rfl, rfl⟩ := hcs
  simp
 ·simp [Value.cells] at hcs
  obtain ⟨rfl, rfl, rfl⟩ := hcs
  obtain ⟨hx, _⟩ := Prod.mk.inj hx
  subst hx
  have z := sized_slice hsz ht hd hu
  rw [hB] at z
  simp only [List.length_map, List.length_range] at z
  exact Nat.le_trans (Nat.mul_le_mul_right _ (Nat.le_add_right _ _)) z
end Go.Proofs.YtmojlpafpeeelaaH
end
