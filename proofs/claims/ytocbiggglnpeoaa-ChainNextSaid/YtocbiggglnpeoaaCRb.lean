/- Part 2 of the base that the seat's proofs share: words, walks and plain laws. -/
import Derived.ArgAppend
import Derived.Below
import Derived.BigQuiet
import Derived.ChangeOld
import Derived.ChangeSlices
import Derived.Deep.AppendLies
import Derived.Deep.CutBlock
import Derived.Deep.DeepCutAuto
import Derived.Deep.Draws
import Derived.Deep.LoopGhost
import Derived.Deep.OwnRows
import Derived.Deep.QuietTactic
import Derived.Deep.RegionHeld3
import Derived.Deep.Slices
import Derived.KernelRfl
import Derived.Laws.BitsLemmas
import Derived.Laws.BytesArg
import Derived.Laws.IdiomCopy
import Derived.Laws.MakeOwn
import Derived.Laws.OwnMore
import Derived.Laws.Rows
import Derived.Laws.Slices
import Derived.Laws.StructEq
import Derived.Lib.AppendStr
import Derived.Lib.BufferOwn
import Derived.Lib.ConvBytes
import Derived.Lib.SliceRun
import Derived.LoopIn
import Derived.LoopNIn
import Derived.Maps.AppendAt
import Derived.Maps.Own
import Derived.OpenShut
import Derived.OrdersHeld
import Derived.OwnWalk
import Derived.OwnWalkIn
import Derived.ProofKit
import Derived.RangeFuncBound
import Derived.RangeFuncCalls
import Derived.RangeFuncLeaves
import Derived.RangeFuncNested
import Derived.RowKit
import Derived.RowKit3
import Derived.ShutString
import Derived.SizedLaws
import Derived.Tactics
import Derived.TacticsInMore
import Derived.Test.YtocbiggglnpeoaaProg
import Derived.WalkKit
import Derived.WideLaws
import Derived.Test.YtocbiggglnpeoaaCRa
set_option linter.unusedVariables false
set_option linter.unusedSimpArgs false
section
namespace Go.Proofs.YtocbiggglnpeoaaH
open Go.RowKit Go.Proofs.YtocbiggglnpeoaaW.PrintWords Go.Proofs.YtocbiggglnpeoaaW.PrintLast
theorem grown_below {w0 w w1 : World} {row : Option Nat} (hb : Below w0.heap.size w0 w) (hg : w.grownBy w1 row) (hr : ∀ k, row = some k → w0.heap.size ≤ k) : Below w0.heap.size w0 w1 := pw_below_grown hb row hb.size hg hr
end Go.Proofs.YtocbiggglnpeoaaH
end
section
namespace Go.Proofs.YtocbiggglnpeoaaH
open Go.RowKit
variable {α : Type}
def mapV (f : α → Value) (m : Int → Option α) : Int → Option Value := fun k => (m k).map f
def upd (m : Int → Option α) (k : Int) (v : α) : Int → Option α := fun k' => if k' = k then some v else m k'
theorem mapV_set (f : α → Value) (m : Int → Option α) (k : Int) (v : α) : ∀ x, setM (mapV f m) k (f v) x = mapV f (upd m k v) x := by
 intro x
 unfold setM mapV upd
 by_cases h : x = k <;> simp [h]
theorem mapV_get (f : α → Value) (m : Int → Option α) (k : Int) (d : α) : (mapV f m k).getD (f d) = f ((m k).getD d) := by
 unfold mapV
 cases m k <;> rfl
theorem mapV_some (f : α → Value) (m : Int → Option α) (k : Int) : (mapV f m k).isSome = (m k).isSome := by
 unfold mapV
 cases m k <;> rfl
def foldM (ks : Nat → Int) (vs : Nat → α) : Nat → Int → Option α
 | 0 => fun _ => none
 | n + 1 => upd (foldM ks vs n) (ks n) (vs n)
theorem foldM_succ (ks : Nat → Int) (vs : Nat → α) (n : Nat) : foldM ks vs (n + 1) = upd (foldM ks vs n) (ks n) (vs n) := rfl
theorem foldM_isSome (ks : Nat → Int) (vs : Nat → α) (k : Int) : ∀ n, (foldM ks vs n k).isSome = true ↔ ∃ j, j < n ∧ ks j = k
 | 0 => by simp [foldM]
 | n + 1 => by
  rw [foldM_succ]
  unfold upd
  by_cases h : k = ks n
  ·rw [if_pos h]
   exact ⟨fun _ => ⟨n, by omega, h.symm⟩, fun _ => rfl⟩
  ·rw [if_neg h, foldM_isSome ks vs k n]
   exact ⟨fun ⟨j, hj, e⟩ => ⟨j, by omega, e⟩, fun ⟨j, hj, e⟩ => ⟨j, by
    rcases Nat.lt_succ_iff_lt_or_eq.1 hj with h' | h'
    ·exact h'
    ·subst h'; exact absurd e.symm h, e⟩⟩
theorem MapI.none_ {w : World} {b : Nat} (h : MapI w b (fun _ => none)) (f : α → Value) : MapI w b (mapV f (fun _ => none)) := h.eq (fun _ => rfl)
end Go.Proofs.YtocbiggglnpeoaaH
end
section
namespace Go.Proofs.YtocbiggglnpeoaaW.PrintLast
open Go.Proofs.YtocbiggglnpeoaaW.PrintWords (Aside0)
def needsOf (md : Region.Mode) (o : Oper) : List Nat := (o.after.toList.filter (fun e => Region.binds md e)).map (fun e => e.on)
def clashOf (md : Region.Mode) (ops : Array Oper) (i : Nat) (oi : Oper) : List Nat := (List.range ops.size).filter fun j => !(j == i) && match ops[j]? with
 | some oj => !(oj.after.any (fun e => Region.binds md e && e.on == i) || oi.apart ops oj)
 | none => false
def rtab (md : Region.Mode) (ops : Array Oper) : Bool × List (List Nat × List Nat) := (Region.noSelect ops, (List.range ops.size).map fun i => match ops[i]? with
 | some o => (needsOf md o, clashOf md ops i o)
 | none => ([], []))
def readyAt (T : List (List Nat × List Nat)) (l : List Bool) (i : Nat) : Bool := !l.getD i true && match T[i]? with
 | some r => r.1.all (fun j => l.getD j false)
 | none => false
def readyT (T : List (List Nat × List Nat)) (l : List Bool) : List Nat := (List.range T.length).filter (readyAt T l)
def freeT (T : List (List Nat × List Nat)) (l : List Bool) (i : Nat) : Bool := match T[i]? with
 | some r => r.2.all (fun j => l.getD j true)
 | none => false
def closedT (T : List (List Nat × List Nat)) (l : List Bool) : Bool := (List.range T.length).all fun j => !l.getD j false || match T[j]? with
 | some r => r.1.all (fun k => l.getD k false)
 | none => true
def reachT (T : List (List Nat × List Nat)) (i : Nat) : Nat → Nat → Bool
 | 0, _ => false
 | fuel + 1, d => match T[d]? with
  | some r => r.1.any fun j => j == i || reachT T i fuel j
  | none => false
def lastT (T : List (List Nat × List Nat)) (l : List Bool) (ds : List Nat) (i : Nat) : Bool := ds.all fun d => l.getD d true || reachT T i T.length d
section
variable {md : Region.Mode} {ops : Array Oper} {T : Bool × List (List Nat × List Nat)} {l l' li lj lk : Array Bool} {ds : List Nat} {i j k : Nat}
theorem gd (l : Array Bool) (j : Nat) (b : Bool) : l.getD j b = l.toList.getD j b := by simp [Array.getD_eq_getD_getElem?, List.getD_eq_getElem?_getD]
theorem needs_all (o : Oper) (p : Nat → Bool) : o.after.all (fun e => !Region.binds md e || p e.on) = (needsOf md o).all p := by
 unfold needsOf
 rw [← Array.all_toList]
 induction o.after.toList with
 | nil => rfl
 | cons e r ih =>
  rw [List.all_cons, ih, List.filter_cons]
  cases h : Region.binds md e <;> simp
theorem needs_any (o : Oper) (p : Nat → Bool) : o.after.any (fun e => Region.binds md e && p e.on) = (needsOf md o).any p := by
 unfold needsOf
 rw [← Array.any_toList]
 induction o.after.toList with
 | nil => rfl
 | cons e r ih =>
  rw [List.any_cons, ih, List.filter_cons]
  cases h : Region.binds md e <;> simp
theorem rtab_length : (rtab md ops).2.length = ops.size := by simp [rtab]
theorem rtab_some {o : Oper} (h : ops[i]? = some o) : (rtab md ops).2[i]? = some (needsOf md o, clashOf md ops i o) := by
 have hi := (Array.getElem?_eq_some_iff.1 h).1
 unfold rtab
 rw [List.getElem?_map, List.getElem?_range hi, Option.map_some, h]
theorem rtab_none (h : ops[i]? = none) : (rtab md ops).2[i]? = none := by
 have hi : ops.size ≤ i := Array.getElem?_eq_none_iff.1 h
 exact List.getElem?_eq_none (by rw [rtab_length]; exact hi)
theorem readyAt_eq : readyAt (rtab md ops).2 l.toList i = (!l.getD i true && ((ops[i]?).map (·.after.all fun e => !Region.binds md e || l.getD e.on false)).getD false) := by
 unfold readyAt
 rw [gd]
 cases h : ops[i]? with
 | none => rw [rtab_none h]; rfl
 | some o =>
  rw [rtab_some h]
  simp only [Option.map_some, Option.getD_some]
  rw [← needs_all]
  simp only [gd]
theorem ready_eq : Region.ready md ops l = readyT (rtab md ops).2 l.toList := by
 unfold Region.ready readyT
 rw [rtab_length]
 refine List.filter_congr (fun i _ => ?_)
 rw [readyAt_eq]
theorem free_eq : Region.free md ops l i = freeT (rtab md ops).2 l.toList i := by
 unfold Region.free freeT
 cases h : ops[i]? with
 | none => rw [rtab_none h]
 | some oi =>
  rw [rtab_some h]
  simp only [clashOf]
  rw [List.all_filter]
  congr 1
  funext j
  rw [gd]
  cases hj : ops[j]? with
  | none => cases (j == i) <;> cases (l.toList.getD j true) <;> simp
  | some oj =>
   cases (j == i) <;> cases (l.toList.getD j true) <;> cases (oj.after.any (fun e => Region.binds md e && e.on == i) || oi.apart ops oj) <;> simp_all
theorem closed_eq : Region.closedB md ops l = closedT (rtab md ops).2 l.toList := by
 unfold Region.closedB closedT
 rw [rtab_length]
 congr 1
 funext j
 rw [gd]
 cases h : ops[j]? with
 | none => rw [rtab_none h]
 | some o =>
  rw [rtab_some h]
  simp only
  rw [← needs_all]
  simp only [gd]
theorem reach_eq : ∀ (fuel d : Nat), Region.reachB md ops i fuel d = reachT (rtab md ops).2 i fuel d
 | 0, _ => rfl
 | fuel + 1, d => by
  unfold Region.reachB reachT
  cases h : ops[d]? with
  | none => rw [rtab_none h]
  | some o =>
   rw [rtab_some h]
   simp only
   rw [← needs_any]
   congr 1
   funext e
   rw [reach_eq fuel]
theorem last_eq : Region.lastB md ops l ds i = lastT (rtab md ops).2 l.toList ds i := by
 unfold Region.lastB lastT
 rw [rtab_length]
 congr 1
 funext d
 rw [gd, reach_eq]
theorem readyAt_mem (h : readyAt T.2 l.toList i = true) (hT : rtab md ops = T) : (Region.ready md ops l).contains i = true := by
 subst hT
 rw [ready_eq]
 unfold readyT
 rw [List.contains_iff_mem, List.mem_filter, List.mem_range]
 refine ⟨?_, h⟩
 unfold readyAt at h
 rw [Bool.and_eq_true] at h
 cases hq : (rtab md ops).2[i]? with
 | none => rw [hq] at h; simp at h
 | some r => exact (List.getElem?_eq_some_iff.1 hq).1
theorem set_of (h : (l.toList.set i true == l'.toList) = true) : (l.setIfInBounds i true == l') = true := by
 rw [beq_iff_eq] at h ⊢
 apply Array.ext'
 rw [Array.toList_setIfInBounds]
 exact h
def anyT (T : Bool × List (List Nat × List Nat)) (l l' : List Bool) (i : Nat) : Bool := T.1 && freeT T.2 l i && readyAt T.2 l i && (l.set i true == l')
theorem any_of (hT : rtab md ops = T) (h : anyT T l.toList l'.toList i = true) : anyB md ops l l' i = true := by
 simp only [anyT, Bool.and_eq_true] at h
 obtain ⟨⟨⟨h1, h2⟩, h3⟩, h4⟩ := h
 have h5 := readyAt_mem h3 hT
 have h6 := set_of h4
 subst hT
 simp only [anyB, Bool.and_eq_true]
 exact ⟨⟨⟨h1, by rw [free_eq]; exact h2⟩, h5⟩, h6⟩
def takeT (T : Bool × List (List Nat × List Nat)) (ds : List Nat) (l l' : List Bool) (i : Nat) : Bool := T.1 && freeT T.2 l i && readyAt T.2 l i && closedT T.2 l && lastT T.2 l ds i && (l.set i true == l')
theorem take_of (hT : rtab md ops = T) (h : takeT T ds l.toList l'.toList i = true) : takeB md ops ds l l' i = true := by
 simp only [takeT, Bool.and_eq_true] at h
 obtain ⟨⟨⟨⟨⟨h1, h2⟩, h3⟩, h4⟩, h5⟩, h6⟩ := h
 have h7 := readyAt_mem h3 hT
 have h8 := set_of h6
 subst hT
 simp only [takeB, Bool.and_eq_true]
 exact ⟨⟨⟨⟨⟨h1, by rw [free_eq]; exact h2⟩, h7⟩, by rw [closed_eq]; exact h4⟩, by rw [last_eq]; exact h5⟩, h8⟩
def upM (B : List Nat) (d : Nat) : List Nat → Nat
 | [] => 0
 | n :: r => (2 ^ n ||| (if n < d then B.getD n 0 else 0)) ||| upM B d r
def waitsOk (T : List (List Nat × List Nat)) (B : List Nat) : Bool := (List.range T.length).all fun d => match T[d]? with
 | some r => (B.getD d 0 ||| upM B d r.1) == upM B d r.1
 | none => false
theorem upM_bit {B : List Nat} {d i : Nat} : ∀ {ns : List Nat}, (upM B d ns).testBit i = true → ∃ n ∈ ns, n = i ∨ (n < d ∧ (B.getD n 0).testBit i = true)
 | [], h => by simp [upM] at h
 | n :: r, h => by
  unfold upM at h
  rw [Nat.testBit_or, Nat.testBit_or, Bool.or_eq_true, Bool.or_eq_true] at h
  rcases h with (h | h) | h
  ·rw [Nat.testBit_two_pow] at h
   exact ⟨n, List.mem_cons_self, .inl (by simpa using h)⟩
  ·by_cases hn : n < d
   ·rw [if_pos hn] at h
    exact ⟨n, List.mem_cons_self, .inr ⟨hn, h⟩⟩
   ·rw [if_neg hn] at h
    simp at h
  ·obtain ⟨m, hm, h2⟩ := upM_bit h
   exact ⟨m, List.mem_cons_of_mem _ hm, h2⟩
theorem reach_bit {T : List (List Nat × List Nat)} {B : List Nat} (hB : waitsOk T B = true) : ∀ (fuel d : Nat), d < fuel → d < T.length → (B.getD d 0).testBit i = true → reachT T i fuel d = true
 | 0, d, h, _, _ => by omega
 | fuel + 1, d, h, hd, hb => by
  have h1 := List.all_eq_true.1 hB d (List.mem_range.2 hd)
  cases hr : T[d]? with
  | none => rw [hr] at h1; simp at h1
  | some r =>
   rw [hr] at h1
   simp only [beq_iff_eq] at h1
   have h2 : (upM B d r.1).testBit i = true := by rw [← h1, Nat.testBit_or, hb, Bool.true_or]
   obtain ⟨n, hn, h3⟩ := upM_bit h2
   unfold reachT
   rw [hr]
   simp only
   rw [List.any_eq_true]
   refine ⟨n, hn, ?_⟩
   rcases h3 with rfl | ⟨h4, h5⟩
   ·simp
   ·rw [reach_bit hB fuel n (by omega) (by omega) h5, Bool.or_true]
def lastW (T : List (List Nat × List Nat)) (B : List Nat) (l : List Bool) (ds : List Nat) (i : Nat) : Bool := ds.all fun d => l.getD d true || (decide (d < T.length) && (B.getD d 0).testBit i)
def takeW (T : Bool × List (List Nat × List Nat)) (B : List Nat) (ds : List Nat) (l l' : List Bool) (i : Nat) : Bool := T.1 && freeT T.2 l i && readyAt T.2 l i && closedT T.2 l && lastW T.2 B l ds i && (l.set i true == l')
theorem take_ofW {B : List Nat} (hT : rtab md ops = T) (hB : waitsOk T.2 B = true) (h : takeW T B ds l.toList l'.toList i = true) : takeB md ops ds l l' i = true := by
 refine take_of hT ?_
 simp only [takeW, takeT, Bool.and_eq_true] at h ⊢
 obtain ⟨⟨⟨⟨⟨h1, h2⟩, h3⟩, h4⟩, h5⟩, h6⟩ := h
 refine ⟨⟨⟨⟨⟨h1, h2⟩, h3⟩, h4⟩, ?_⟩, h6⟩
 unfold lastW at h5
 unfold lastT
 rw [List.all_eq_true] at h5 ⊢
 intro d hd
 have h7 := h5 d hd
 rw [Bool.or_eq_true, Bool.and_eq_true, decide_eq_true_eq] at h7
 rcases h7 with h7 | ⟨h8, h9⟩
 ·rw [h7, Bool.true_or]
 ·rw [reach_bit hB _ d h8 h8 h9, Bool.or_true]
end
end Go.Proofs.YtocbiggglnpeoaaW.PrintLast
end
section
namespace Go.Proofs.YtocbiggglnpeoaaW.PrintWords
open Go.RowKit
section
variable {w w' u : World} {m B g : Nat} {o : Obj} {row : Option Nat} {S : Nat → Prop} {a : Addr} {v : Value}
theorem kept_at (hq : w.drewN m = w') (h : Kept u w S) : Kept u w' S := by subst hq; exact Kept.drewN h m
end
namespace Kd
section
variable {α : Type} {d : Kd α} {e base n m : Nat} {ok : Nat → Prop} {w w' : World} {v : Value} {A : Option Addr} {xs : List α}
end
end Kd
end Go.Proofs.YtocbiggglnpeoaaW.PrintWords
end
section
namespace Go.Proofs.YtocbiggglnpeoaaW.PrintWords
open Go.RowKit
section
variable {P : Program} {d : Nat} {xs ys : Array Value} {f : Field} {fs : List Field} {a b : Value} {r s : Bool} {w : World}
theorem eqf_last (hn : (f.name == "_") = false) (ha : (part f.type xs f.offset).run P w = .ok a w) (hb : (part f.type ys f.offset).run P w = .ok b w) (he : (Op.equalIn d f.type a b).run P w = .ok r w) : (Op.eqFields d xs ys [f]).run P w = .ok r w := by
 have hn' : f.name ≠ "_" := by simpa using hn
 simp only [Op.eqFields, if_pos hn', Sem.run_bind, ha, hb, he, Result.andThen_ok]
 cases r <;> simp
theorem eqf_cons (hn : (f.name == "_") = false) (ha : (part f.type xs f.offset).run P w = .ok a w) (hb : (part f.type ys f.offset).run P w = .ok b w) (he : (Op.equalIn d f.type a b).run P w = .ok r w) (hr : (Op.eqFields d xs ys fs).run P w = .ok s w) : (Op.eqFields d xs ys (f :: fs)).run P w = .ok (r && s) w := by
 have hn' : f.name ≠ "_" := by simpa using hn
 rw [Op.eqFields]
 simp only [if_pos hn', Sem.run_bind, ha, hb, he, Result.andThen_ok]
 cases r
 ·simp
 ·simpa using hr
theorem eqA_of {t : TypeId} {fs : Array Field} (hu : P.underlying t = some (.struct fs)) (hp : P.stoodInHeld t = false) (h : (Op.eqFields d xs ys fs.toList).run P w = .ok r w) : (Op.equalIn (d + 1) t (.agg xs) (.agg ys)).run P w = .ok r w := by
 have hf : P.fieldsOf t = fs := by simp [Program.fieldsOf, hu]
 rw [run_equalIn_struct (P := P) w d t xs ys (by rw [hf]; exact hu) hp, hf]
 exact h
end
end Go.Proofs.YtocbiggglnpeoaaW.PrintWords
end
section
namespace Go.Proofs.YtocbiggglnpeoaaW.PrintWords
theorem Reps.one {α : Type} {R : α → List Value → Prop} {ps : List α} {cs : List Value} {p : α} {v : Value} (hp : R p [v]) (h : Reps R 1 ps cs) : Reps R 1 (p :: ps) (v :: cs) := by
 refine ⟨by simp [h.1], fun j q hq => ?_⟩
 cases j with
 | zero =>
  simp only [List.getElem?_cons_zero, Option.some.injEq] at hq
  subst hq
  simpa using hp
 | succ j =>
  simp only [List.getElem?_cons_succ] at hq
  have h1 := h.2 j q hq
  simpa [Nat.mul_one] using h1
theorem Reps.front {α : Type} {R : α → List Value → Prop} {size : Nat} {ps : List α} {cs c all : List Value} {p : α} (hp : R p c) (hc : c.length = size) (h : Reps R size ps cs) (ha : c ++ cs = all) : Reps R size (p :: ps) all := by
 subst ha
 refine ⟨by rw [List.length_append, hc, h.1, List.length_cons, Nat.succ_mul, Nat.add_comm], fun j q hq => ?_⟩
 cases j with
 | zero =>
  simp only [List.getElem?_cons_zero, Option.some.injEq] at hq
  subst hq
  rw [Nat.zero_mul, List.drop_zero, List.take_append_of_le_length (by omega), List.take_of_length_le (by omega)]
  exact hp
 | succ j =>
  simp only [List.getElem?_cons_succ] at hq
  have h1 := h.2 j q hq
  rw [Nat.succ_mul, List.drop_append, List.drop_of_length_le (by rw [hc]; exact Nat.le_add_left _ _), List.nil_append, hc, Nat.add_sub_cancel]
  exact h1
theorem Reps.c2 {α : Type} {R : α → List Value → Prop} {ps : List α} {cs : List Value} {p : α} {va vb : Value} (hp : R p [va, vb]) (h : Reps R 2 ps cs) : Reps R 2 (p :: ps) (va :: vb :: cs) := Reps.front hp rfl h rfl
theorem Reps.c3 {α : Type} {R : α → List Value → Prop} {ps : List α} {cs : List Value} {p : α} {va vb vc : Value} (hp : R p [va, vb, vc]) (h : Reps R 3 ps cs) : Reps R 3 (p :: ps) (va :: vb :: vc :: cs) := Reps.front hp rfl h rfl
theorem Reps.c4 {α : Type} {R : α → List Value → Prop} {ps : List α} {cs : List Value} {p : α} {va vb vc vd : Value} (hp : R p [va, vb, vc, vd]) (h : Reps R 4 ps cs) : Reps R 4 (p :: ps) (va :: vb :: vc :: vd :: cs) := Reps.front hp rfl h rfl
theorem Reps.c5 {α : Type} {R : α → List Value → Prop} {ps : List α} {cs : List Value} {p : α} {va vb vc vd ve : Value} (hp : R p [va, vb, vc, vd, ve]) (h : Reps R 5 ps cs) : Reps R 5 (p :: ps) (va :: vb :: vc :: vd :: ve :: cs) := Reps.front hp rfl h rfl
theorem Reps.c6 {α : Type} {R : α → List Value → Prop} {ps : List α} {cs : List Value} {p : α} {va vb vc vd ve vf : Value} (hp : R p [va, vb, vc, vd, ve, vf]) (h : Reps R 6 ps cs) : Reps R 6 (p :: ps) (va :: vb :: vc :: vd :: ve :: vf :: cs) := Reps.front hp rfl h rfl
theorem Reps.c7 {α : Type} {R : α → List Value → Prop} {ps : List α} {cs : List Value} {p : α} {va vb vc vd ve vf vg : Value} (hp : R p [va, vb, vc, vd, ve, vf, vg]) (h : Reps R 7 ps cs) : Reps R 7 (p :: ps) (va :: vb :: vc :: vd :: ve :: vf :: vg :: cs) := Reps.front hp rfl h rfl
theorem Reps.c8 {α : Type} {R : α → List Value → Prop} {ps : List α} {cs : List Value} {p : α} {va vb vc vd ve vf vg vh : Value} (hp : R p [va, vb, vc, vd, ve, vf, vg, vh]) (h : Reps R 8 ps cs) : Reps R 8 (p :: ps) (va :: vb :: vc :: vd :: ve :: vf :: vg :: vh :: cs) := Reps.front hp rfl h rfl
theorem Reps.c9 {α : Type} {R : α → List Value → Prop} {ps : List α} {cs : List Value} {p : α} {va vb vc vd ve vf vg vh vi : Value} (hp : R p [va, vb, vc, vd, ve, vf, vg, vh, vi]) (h : Reps R 9 ps cs) : Reps R 9 (p :: ps) (va :: vb :: vc :: vd :: ve :: vf :: vg :: vh :: vi :: cs) := Reps.front hp rfl h rfl
theorem Reps.c10 {α : Type} {R : α → List Value → Prop} {ps : List α} {cs : List Value} {p : α} {va vb vc vd ve vf vg vh vi vj : Value} (hp : R p [va, vb, vc, vd, ve, vf, vg, vh, vi, vj]) (h : Reps R 10 ps cs) : Reps R 10 (p :: ps) (va :: vb :: vc :: vd :: ve :: vf :: vg :: vh :: vi :: vj :: cs) := Reps.front hp rfl h rfl
end Go.Proofs.YtocbiggglnpeoaaW.PrintWords
end
section
namespace Go.Proofs.YtocbiggglnpeoaaW.PrintLast
def up (b : Nat → Bool) (i : Nat) : Nat → Bool := fun j => if j = i then true else b j
section
variable {P : Program} {ops : Array Oper} {Q : Exit → Act → World → Prop} {md : Region.Mode} {T : Bool × List (List Nat × List Nat)} {B : List Nat} {O : List Nat} {b : Nat → Bool} {i j n : Nat}
end
end Go.Proofs.YtocbiggglnpeoaaW.PrintLast
end
section
namespace Go.Proofs.YtocbiggglnpeoaaW.PrintWords
open Go.RowKit
section
variable {P : Program} {ops : Array Oper} {rest : List Oper} {o : Oper} {a : Act} {Q : Exit → Act → World → Prop} {W : World}
theorem gate_guard (hw : Region.wanted o (yielded ops a.tmps) = true) (h : wpList P ops Q ({ o with guard := none } :: rest) a W) : wpList P ops Q (o :: rest) a W := by
 have h1 : Region.wanted { o with guard := none } (yielded ops a.tmps) = true := rfl
 unfold wpList at h ⊢
 rw [if_pos h1] at h
 rw [if_pos hw]
 exact h
end
end Go.Proofs.YtocbiggglnpeoaaW.PrintWords
end
namespace Go.Proofs.Ytocbiggglnpeoaa
section
open Go.RowKit Go.Proofs.YtocbiggglnpeoaaW.PrintWords Go.Proofs.YtocbiggglnpeoaaW.PrintLast Go.Proofs.YtocbiggglnpeoaaW.PrintMore
def w_ (n b : Nat) : Array Bool := ((List.range n).map b.testBit).toArray
theorem bb_ {n : Nat} {w W0 W : World} (H : Aside0 (Below n w W0)) (h : Below n w W0 → Below n w W := by intro hB_; repeat (first | (with_reducible first | exact hB_ | apply below_alloc | apply pw_below_drewN | apply below_drew1) | exact hB_)) : Below n w W := h H.out
theorem bs_ {n g : Nat} {w W0 W : World} (H : Aside0 (Below n w W0)) (G : n ≤ g) (h : Below n w W0 → n ≤ g → Below n w W := by intro hB_ hG_; repeat (first | (with_reducible first | exact hB_ | apply below_alloc | apply pw_below_drewN | apply below_drew1 | refine below_set ?_ hG_) | exact hB_)) : Below n w W := h H.out G
theorem rr_ {α : Type} {d : Kd α} {e : Nat} {w0 w : World} {base : Nat} {ok : Nat → Prop} {v : Value} {xs : List α} (H : Aside0 (d.R e w0 base ok v xs)) (h : d.R e w0 base ok v xs → d.R e w base ok v xs := by intro hR_; (with_reducible repeat (first | apply Kd.R_alloc | apply Kd.R_drewN | apply Kd.R_drew)); exact hR_) : d.R e w base ok v xs := h H.out
theorem kk_ {w0 w : World} {g : Nat} {o : Obj} (H : Aside0 (w0.heap[g]? = some o)) (h : w0.heap[g]? = some o → w.heap[g]? = some o := by intro hK_; (with_reducible repeat (first | refine blk_drewN ?_ _ | refine blk_drew ?_ | refine blk_alloc ?_ _)); exact hK_) : w.heap[g]? = some o := h H.out
theorem cc_ {α : Type} {d : Kd α} {w0 w : World} {xs : List α} {A : Option Addr} {n : Nat} (H : d.C w0 A n xs) (h : d.C w0 A n xs → d.C w A n xs := by intro hC_; repeat (first | exact hC_ | (with_reducible refine Kd.C_alloc ?_ _) | (with_reducible refine Kd.C_drewN ?_ _) | (with_reducible refine Kd.C_drew ?_))) : d.C w A n xs := h H
theorem od_ {p : Prop} [Decidable p] (h : decide p = true := by first | (with_reducible assumption) | assumption) : p := of_decide_eq_true h
theorem ew_ {p : Prop} (h : p := by first | rfl | (simp [errW_none, errW_some] <;> rfl) | (simp [*, errW_none, errW_some] <;> rfl)) : p := h
theorem sd_ {p : Prop} (h : p := by first | rfl | (simp; done) | (simp [*]; done)) : p := h
theorem hc_ {n : Nat} {w W : World} {p : Addr} {v : Value} (H : Aside0 (Below n w W)) (h : w.cell? p = some v) (hn : n = w.heap.size := by exact rfl) : W.cell? p = some v := by subst hn; exact (H.out.cell (World.block_lt_of_cell? w _ h)).trans h
theorem gl_ {P : Program} {ops : Array Oper} {Q : Exit → Act → World → Prop} {rest : List Oper} {oi : Oper} {a : Act} {w : World} {f : FuncId} {fn : Func} {as_ : Array Operand} {ts : Array TypeId} (N : Option Tmp) (hf : P.funcs[f]? = some fn) (args : Array Value) (h : Calls P f args w fun e w' => ∃ v, e = .returned v ∧ wpList P ops Q rest (a.put N v) w') (hd : oi.dst = N := by exact rfl) (hg : oi.guard = none := by exact rfl) (hname : (fn.name == "runtime.NumGoroutine") = false := by kernel_rfl) (hb : fn.body.isSome = true := by exact rfl) (hop : oi.op = .call { callee := .value (.func f), args := as_, argTypes := ts } := by exact rfl) (hargs : as_.map a.eval = args := by (try simp only [List.map_toArray, List.map_cons, List.map_nil]); first | done | rfl | (simp only [List.length_drop, List.length_take]; rfl)) : wpList P ops Q (oi :: rest) a w := goesL_ N hd hg hf hname hb args hop hargs h
theorem pu_ {P : Program} {ops : Array Oper} {Q : Exit → Act → World → Prop} {md : Region.Mode} {S : World → Prop} {ds : List Nat} {oi : Oper} {v : Value} {fuel : Nat} {l : Array Bool} {a a' : Act} {w : World} {T : Bool × List (List Nat × List Nat)} (i N : Nat) (l' : Array Bool) (hi : ops[i]? = some oi) (HT : Aside0 (rtab md ops = T)) (h : wpAnyLast P md ops Q S ds fuel l' a' w) (hN : oi.dst = some N := by exact rfl) (hc : anyT T l.toList l'.toList i = true := by kernel_rfl) (hQ : ∀ c a w, Q (.panic c) (a.put oi.dst v) w → Q (.panic c) a w := by exact fun _ _ _ h => h) (hg : Region.wanted oi (yielded ops a.tmps) = true := by rfl) (hy : ∀ w', (execOp a.eval oi).run P w' = .ok (.value v) w' := by intro w'; go_simp; with_reducible rfl) (ha : a.put (some N) v = a' := by simp only [Act.put, sI_, s0_, sS_, i64_w, i32_w]; rfl) : wpAnyLast P md ops Q S ds (fuel + 1) l a w := pure_ l' hi hN (any_of HT.out hc) hQ (.inl ⟨hg, hy⟩) ha h
theorem pv_ {P : Program} {ops : Array Oper} {Q : Exit → Act → World → Prop} {md : Region.Mode} {S : World → Prop} {ds : List Nat} {oi : Oper} {v : Value} {fuel : Nat} {l : Array Bool} {a a' : Act} {w : World} (i N : Nat) (l' : Array Bool) (hi : ops[i]? = some oi) (h : wpAnyLast P md ops Q S ds fuel l' a' w) (hN : oi.dst = some N := by exact rfl) (hc : anyB md ops l l' i = true := by kernel_rfl) (hQ : ∀ c a w, Q (.panic c) (a.put oi.dst v) w → Q (.panic c) a w := by exact fun _ _ _ h => h) (hg : Region.wanted oi (yielded ops a.tmps) = true := by rfl) (hy : ∀ w', (execOp a.eval oi).run P w' = .ok (.value v) w' := by intro w'; go_simp; with_reducible rfl) (ha : a.put (some N) v = a' := by simp only [Act.put, sI_, s0_, sS_, i64_w, i32_w]; rfl) : wpAnyLast P md ops Q S ds (fuel + 1) l a w := pure_ l' hi hN hc hQ (.inl ⟨hg, hy⟩) ha h
theorem pn_ {P : Program} {ops : Array Oper} {Q : Exit → Act → World → Prop} {md : Region.Mode} {S : World → Prop} {ds : List Nat} {oi : Oper} {fuel : Nat} {l : Array Bool} {a a' : Act} {w : World} {T : Bool × List (List Nat × List Nat)} (i N : Nat) (l' : Array Bool) (hi : ops[i]? = some oi) (HT : Aside0 (rtab md ops = T)) (h : wpAnyLast P md ops Q S ds fuel l' a' w) (hN : oi.dst = some N := by exact rfl) (hc : anyT T l.toList l'.toList i = true := by kernel_rfl) (hQ : ∀ c a w, Q (.panic c) (a.put oi.dst undef) w → Q (.panic c) a w := by exact fun _ _ _ h => h) (hg : Region.wanted oi (yielded ops a.tmps) = false := by rfl) (ha : a.put (some N) undef = a' := by simp only [Act.put, sI_, s0_, sS_, i64_w, i32_w]; rfl) : wpAnyLast P md ops Q S ds (fuel + 1) l a w := pure_ l' hi hN (any_of HT.out hc) hQ (.inr ⟨hg, rfl⟩) ha h
theorem po_ {P : Program} {ops : Array Oper} {Q : Exit → Act → World → Prop} {md : Region.Mode} {S : World → Prop} {ds : List Nat} {oi : Oper} {fuel : Nat} {l : Array Bool} {a a' : Act} {w : World} (i N : Nat) (l' : Array Bool) (hi : ops[i]? = some oi) (h : wpAnyLast P md ops Q S ds fuel l' a' w) (hN : oi.dst = some N := by exact rfl) (hc : anyB md ops l l' i = true := by kernel_rfl) (hQ : ∀ c a w, Q (.panic c) (a.put oi.dst undef) w → Q (.panic c) a w := by exact fun _ _ _ h => h) (hg : Region.wanted oi (yielded ops a.tmps) = false := by rfl) (ha : a.put (some N) undef = a' := by simp only [Act.put, sI_, s0_, sS_, i64_w, i32_w]; rfl) : wpAnyLast P md ops Q S ds (fuel + 1) l a w := pure_ l' hi hN hc hQ (.inr ⟨hg, rfl⟩) ha h
theorem ta_ {P : Program} {ops : Array Oper} {Q : Exit → Act → World → Prop} {md : Region.Mode} {S : World → Prop} {ds : List Nat} {oi : Oper} {v : Value} {fuel : Nat} {l : Array Bool} {a a' : Act} {w : World} {T : Bool × List (List Nat × List Nat)} {B : List Nat} (i N : Nat) (l' : Array Bool) (hi : ops[i]? = some oi) (HT : Aside0 (rtab md ops = T)) (HW : Aside0 (waitsOk T.2 B = true)) (hS : S w) (hy : ∀ w', S w' → (execOp a.eval oi).run P w' = .ok (.value v) w') (h : wpAnyLast P md ops Q S ds fuel l' a' w) (hN : oi.dst = some N := by exact rfl) (hc : takeW T B ds l.toList l'.toList i = true := by kernel_rfl) (hQ : ∀ c a w, Q (.panic c) (a.put oi.dst v) w → Q (.panic c) a w := by exact fun _ _ _ h => h) (hg : Region.wanted oi (yielded ops a.tmps) = true := by rfl) (ha : a.put (some N) v = a' := by simp only [Act.put, sI_, s0_, sS_, i64_w, i32_w]; rfl) : wpAnyLast P md ops Q S ds (fuel + 1) l a w := take_ l' hi hN (take_ofW HT.out HW.out hc) hQ (.inl ⟨hg, hy⟩) hS ha h
theorem tb_ {P : Program} {ops : Array Oper} {Q : Exit → Act → World → Prop} {md : Region.Mode} {S : World → Prop} {ds : List Nat} {oi : Oper} {v : Value} {fuel : Nat} {l : Array Bool} {a a' : Act} {w : World} (i N : Nat) (l' : Array Bool) (hi : ops[i]? = some oi) (hS : S w) (hy : ∀ w', S w' → (execOp a.eval oi).run P w' = .ok (.value v) w') (h : wpAnyLast P md ops Q S ds fuel l' a' w) (hN : oi.dst = some N := by exact rfl) (hc : takeB md ops ds l l' i = true := by kernel_rfl) (hQ : ∀ c a w, Q (.panic c) (a.put oi.dst v) w → Q (.panic c) a w := by exact fun _ _ _ h => h) (hg : Region.wanted oi (yielded ops a.tmps) = true := by rfl) (ha : a.put (some N) v = a' := by simp only [Act.put, sI_, s0_, sS_, i64_w, i32_w]; rfl) : wpAnyLast P md ops Q S ds (fuel + 1) l a w := take_ l' hi hN hc hQ (.inl ⟨hg, hy⟩) hS ha h
end
end Go.Proofs.Ytocbiggglnpeoaa
section
namespace Go.Proofs.Ytocbiggglnpeoaa.P
open Go.RowKit Go.Proofs.YtocbiggglnpeoaaW.PrintWords Go.Proofs.YtocbiggglnpeoaaW.PrintLast Go.Proofs.YtocbiggglnpeoaaW.PrintMore
attribute [local go_sem] max2_int min2_int max_two min_two max_three min_three max_four min_four
set_option linter.unusedVariables false
set_option linter.unusedSimpArgs false
set_option maxHeartbeats 8000000
set_option maxRecDepth 100000
section
def errW : Option Int → Value
 | none => .nilIface
 | some c => .iface 0 (.int .i64 c)
theorem errW_none : errW none = .nilIface := rfl
theorem errW_some (c : Int) : errW (some c) = .iface 0 (.int .i64 c) := rfl
theorem info3 : (Try.prog.info? 3).map (fun i => (i.zero, i.size, i.bytes)) = some (some (.int .i64 0), 1, 8) := by kernel_rfl
theorem info46 : (Try.prog.info? 46).map (fun i => (i.zero, i.size, i.bytes)) = some (some (.agg #[(.int .i64 0), (.int .i64 0), (.slice none 0 0)]), 3, 40) := by kernel_rfl
theorem info51 : (Try.prog.info? 51).map (fun i => (i.zero, i.size, i.bytes)) = some (some (.agg #[(.int .i64 0), (.int .i64 0), (.int .i64 0)]), 3, 24) := by kernel_rfl
theorem info84 : (Try.prog.info? 84).map (fun i => (i.zero, i.size, i.bytes)) = some (some (.agg #[(.int .i64 0), (.int .i64 0)]), 2, 16) := by kernel_rfl
structure S84 where
 f0 : Int
 f1 : Int
def z84 : S84 := ⟨(0 : Int), (0 : Int)⟩
def k84 : Kd S84 := Kd.iso (Kd.pair (Kd.int .i64) (Kd.int .i64)) (fun x : S84 => (x.f0, x.f1))
theorem k84_open {w : World} {x : S84} {cs : List Value} (h : k84.K w x cs) : cs = [.int .i64 x.f0, .int .i64 x.f1] := by
 obtain ⟨_, _, rfl, rfl, rfl⟩ := h
 exact rfl
theorem k84_mkM (w : World) (base : Nat) (ok : Nat → Prop) (x : S84)  : k84.M w base ok x [.int .i64 x.f0, .int .i64 x.f1] := ⟨[.int .i64 x.f0], [.int .i64 x.f1], rfl, rfl, rfl⟩
def rd_T84 (xs : List S84) (i : Int) : S84 := xs.getD i.toNat z84
theorem at_T84 {w : World} {A : Option Addr} {n : Nat} {xs : List S84} (h : Kd.C k84 w A n xs) (i : Int) (h0 : 0 ≤ i) (h1 : i < n) : ∃ ad , A = some ad ∧ w.cell? (ad.add (i.toNat * 2)) = some (.int .i64 (rd_T84 xs i).f0) ∧ w.cell? ⟨(ad.add (i.toNat * 2)).block, (ad.add (i.toNat * 2)).off + 1, none⟩ = some (.int .i64 (rd_T84 xs i).f1) := by
 obtain ⟨ad, c, e, _, hK, hc0⟩ := Kd.C_get h z84 i h0 h1
 have hc : ∀ j u, c[j]? = some u → w.cell? (ad.add (i.toNat * 2 + j)) = some u := hc0
 obtain rfl := k84_open hK
 exact ⟨ad, e, hc 0 _ rfl, by rw [← add_field _ _ 1 (by omega)]; exact hc 1 _ rfl⟩
structure S46 where
 f0 : Int
 f1 : Int
 f2 : (List Int)
def z46 : S46 := ⟨(0 : Int), (0 : Int), ([] : List Int)⟩
def k46 : Kd S46 := Kd.iso (Kd.pair (Kd.int .i64) (Kd.pair (Kd.int .i64) (Kd.slice 3 (Kd.int .i64)))) (fun x : S46 => (x.f0, x.f1, x.f2))
theorem k46_open {w : World} {x : S46} {cs : List Value} (h : k46.K w x cs) : ∃ A2 c2, cs = [.int .i64 x.f0, .int .i64 x.f1, .slice A2 x.f2.length c2] ∧ x.f2.length ≤ c2 ∧ (Kd.int .i64).C w A2 x.f2.length x.f2 := by
 obtain ⟨_, _, rfl, rfl, ⟨_, _, rfl, rfl, ⟨A2, c2, rfl, l2, g2⟩⟩⟩ := h
 exact ⟨A2, c2, rfl, l2, g2⟩
theorem k46_openM {w : World} {base : Nat} {ok : Nat → Prop} {x : S46} {cs : List Value} (h : k46.M w base ok x cs) : ∃ v2, cs = [.int .i64 x.f0, .int .i64 x.f1, v2] ∧ (Kd.int .i64).R 3 w base ok v2 x.f2 := by
 obtain ⟨_, _, rfl, rfl, ⟨_, _, rfl, rfl, ⟨v2, rfl, g2⟩⟩⟩ := h
 exact ⟨v2, rfl, g2⟩
theorem k46_mk (w : World) (x : S46) {A2 : Option Addr} {c2 : Nat} (l2 : x.f2.length ≤ c2) (g2 : (Kd.int .i64).C w A2 x.f2.length x.f2) : k46.K w x [.int .i64 x.f0, .int .i64 x.f1, .slice A2 x.f2.length c2] := ⟨[.int .i64 x.f0], [.int .i64 x.f1, .slice A2 x.f2.length c2], rfl, rfl, ⟨[.int .i64 x.f1], [.slice A2 x.f2.length c2], rfl, rfl, ⟨A2, c2, rfl, l2, g2⟩⟩⟩
theorem k46_mkM (w : World) (base : Nat) (ok : Nat → Prop) (x : S46) {v2 : Value} (g2 : (Kd.int .i64).R 3 w base ok v2 x.f2) : k46.M w base ok x [.int .i64 x.f0, .int .i64 x.f1, v2] := ⟨[.int .i64 x.f0], [.int .i64 x.f1, v2], rfl, rfl, ⟨[.int .i64 x.f1], [v2], rfl, rfl, ⟨v2, rfl, g2⟩⟩⟩
theorem k46_openF {W : World} {ok : Nat → Prop} {x : S46} {cs : List Value} (h : Kd.FK k46 W ok x cs) : ∃ A2 c2, cs = [.int .i64 x.f0, .int .i64 x.f1, .slice A2 x.f2.length c2] ∧ x.f2.length ≤ c2 ∧ Kd.F (Kd.int .i64) W ok A2 x.f2.length x.f2 := by
 obtain ⟨A2, c2, rfl, l2, _⟩ := k46_open (Kd.FK_now h)
 exact ⟨A2, c2, rfl, l2, (fun W' hW => by obtain ⟨A2_, c2_, he, l2_, g2_⟩ := k46_open (h W' hW); injection (Option.some.inj (show some (Value.slice A2 x.f2.length c2) = some (Value.slice A2_ x.f2.length c2_) from congrArg (fun l => l[2]?) he)) with ha_ _ _; rw [ha_]; exact g2_)⟩
theorem k46_mkF (W : World) (ok : Nat → Prop) (x : S46) {A2 : Option Addr} {c2 : Nat} (l2 : x.f2.length ≤ c2) (g2 : Kd.F (Kd.int .i64) W ok A2 x.f2.length x.f2) : Kd.FK k46 W ok x [.int .i64 x.f0, .int .i64 x.f1, .slice A2 x.f2.length c2] := fun W2 hW => k46_mk W2 x l2 (g2 W2 hW)
def rd_T46 (xs : List S46) (i : Int) : S46 := xs.getD i.toNat z46
theorem at_T46 {w : World} {A : Option Addr} {n : Nat} {xs : List S46} (h : Kd.C k46 w A n xs) (i : Int) (h0 : 0 ≤ i) (h1 : i < n) : ∃ ad A2 c2, A = some ad ∧ w.cell? (ad.add (i.toNat * 3)) = some (.int .i64 (rd_T46 xs i).f0) ∧ w.cell? ⟨(ad.add (i.toNat * 3)).block, (ad.add (i.toNat * 3)).off + 1, none⟩ = some (.int .i64 (rd_T46 xs i).f1) ∧ w.cell? ⟨(ad.add (i.toNat * 3)).block, (ad.add (i.toNat * 3)).off + 2, none⟩ = some (.slice A2 (rd_T46 xs i).f2.length c2) ∧ (rd_T46 xs i).f2.length ≤ c2 ∧ (Kd.int .i64).C w A2 (rd_T46 xs i).f2.length (rd_T46 xs i).f2 := by
 obtain ⟨ad, c, e, _, hK, hc0⟩ := Kd.C_get h z46 i h0 h1
 have hc : ∀ j u, c[j]? = some u → w.cell? (ad.add (i.toNat * 3 + j)) = some u := hc0
 obtain ⟨A2, c2, rfl, l2, g2⟩ := k46_open hK
 exact ⟨ad, A2, c2, e, hc 0 _ rfl, by rw [← add_field _ _ 1 (by omega)]; exact hc 1 _ rfl, by rw [← add_field _ _ 2 (by omega)]; exact hc 2 _ rfl, l2, g2⟩
structure S55 where
 f0 : Int
 f1 : Int
 f2 : Int
def z55 : S55 := ⟨(0 : Int), (0 : Int), (0 : Int)⟩
def k55 : Kd S55 := Kd.iso (Kd.pair (Kd.int .i64) (Kd.pair (Kd.int .i64) (Kd.int .i64))) (fun x : S55 => (x.f0, x.f1, x.f2))
theorem k55_open {w : World} {x : S55} {cs : List Value} (h : k55.K w x cs) : cs = [.int .i64 x.f0, .int .i64 x.f1, .int .i64 x.f2] := by
 obtain ⟨_, _, rfl, rfl, ⟨_, _, rfl, rfl, rfl⟩⟩ := h
 exact rfl
theorem k55_mkM (w : World) (base : Nat) (ok : Nat → Prop) (x : S55)  : k55.M w base ok x [.int .i64 x.f0, .int .i64 x.f1, .int .i64 x.f2] := ⟨[.int .i64 x.f0], [.int .i64 x.f1, .int .i64 x.f2], rfl, rfl, ⟨[.int .i64 x.f1], [.int .i64 x.f2], rfl, rfl, rfl⟩⟩
def rd_T55 (xs : List S55) (i : Int) : S55 := xs.getD i.toNat z55
theorem at_T55 {w : World} {A : Option Addr} {n : Nat} {xs : List S55} (h : Kd.C k55 w A n xs) (i : Int) (h0 : 0 ≤ i) (h1 : i < n) : ∃ ad , A = some ad ∧ w.cell? (ad.add (i.toNat * 3)) = some (.int .i64 (rd_T55 xs i).f0) ∧ w.cell? ⟨(ad.add (i.toNat * 3)).block, (ad.add (i.toNat * 3)).off + 1, none⟩ = some (.int .i64 (rd_T55 xs i).f1) ∧ w.cell? ⟨(ad.add (i.toNat * 3)).block, (ad.add (i.toNat * 3)).off + 2, none⟩ = some (.int .i64 (rd_T55 xs i).f2) := by
 obtain ⟨ad, c, e, _, hK, hc0⟩ := Kd.C_get h z55 i h0 h1
 have hc : ∀ j u, c[j]? = some u → w.cell? (ad.add (i.toNat * 3 + j)) = some u := hc0
 obtain rfl := k55_open hK
 exact ⟨ad, e, hc 0 _ rfl, by rw [← add_field _ _ 1 (by omega)]; exact hc 1 _ rfl, by rw [← add_field _ _ 2 (by omega)]; exact hc 2 _ rfl⟩
structure S51 where
 f0 : Int
 f1 : Int
 f2 : Int
def z51 : S51 := ⟨(0 : Int), (0 : Int), (0 : Int)⟩
def k51 : Kd S51 := Kd.iso (Kd.pair (Kd.int .i64) (Kd.pair (Kd.int .i64) (Kd.int .i64))) (fun x : S51 => (x.f0, x.f1, x.f2))
theorem k51_open {w : World} {x : S51} {cs : List Value} (h : k51.K w x cs) : cs = [.int .i64 x.f0, .int .i64 x.f1, .int .i64 x.f2] := by
 obtain ⟨_, _, rfl, rfl, ⟨_, _, rfl, rfl, rfl⟩⟩ := h
 exact rfl
theorem k51_mkM (w : World) (base : Nat) (ok : Nat → Prop) (x : S51)  : k51.M w base ok x [.int .i64 x.f0, .int .i64 x.f1, .int .i64 x.f2] := ⟨[.int .i64 x.f0], [.int .i64 x.f1, .int .i64 x.f2], rfl, rfl, ⟨[.int .i64 x.f1], [.int .i64 x.f2], rfl, rfl, rfl⟩⟩
def rd_T51 (xs : List S51) (i : Int) : S51 := xs.getD i.toNat z51
theorem at_T51 {w : World} {A : Option Addr} {n : Nat} {xs : List S51} (h : Kd.C k51 w A n xs) (i : Int) (h0 : 0 ≤ i) (h1 : i < n) : ∃ ad , A = some ad ∧ w.cell? (ad.add (i.toNat * 3)) = some (.int .i64 (rd_T51 xs i).f0) ∧ w.cell? ⟨(ad.add (i.toNat * 3)).block, (ad.add (i.toNat * 3)).off + 1, none⟩ = some (.int .i64 (rd_T51 xs i).f1) ∧ w.cell? ⟨(ad.add (i.toNat * 3)).block, (ad.add (i.toNat * 3)).off + 2, none⟩ = some (.int .i64 (rd_T51 xs i).f2) := by
 obtain ⟨ad, c, e, _, hK, hc0⟩ := Kd.C_get h z51 i h0 h1
 have hc : ∀ j u, c[j]? = some u → w.cell? (ad.add (i.toNat * 3 + j)) = some u := hc0
 obtain rfl := k51_open hK
 exact ⟨ad, e, hc 0 _ rfl, by rw [← add_field _ _ 1 (by omega)]; exact hc 1 _ rfl, by rw [← add_field _ _ 2 (by omega)]; exact hc 2 _ rfl⟩
structure S49 where
 f0 : Bool
 f1 : (List S51)
def z49 : S49 := ⟨false, ([] : List S51)⟩
def k49 : Kd S49 := Kd.iso (Kd.pair Kd.bool (Kd.slice 51 k51)) (fun x : S49 => (x.f0, x.f1))
theorem k49_open {w : World} {x : S49} {cs : List Value} (h : k49.K w x cs) : ∃ A1 c1, cs = [.bool x.f0, .slice A1 x.f1.length c1] ∧ x.f1.length ≤ c1 ∧ k51.C w A1 x.f1.length x.f1 := by
 obtain ⟨_, _, rfl, rfl, ⟨A1, c1, rfl, l1, g1⟩⟩ := h
 exact ⟨A1, c1, rfl, l1, g1⟩
theorem k49_mk (w : World) (x : S49) {A1 : Option Addr} {c1 : Nat} (l1 : x.f1.length ≤ c1) (g1 : k51.C w A1 x.f1.length x.f1) : k49.K w x [.bool x.f0, .slice A1 x.f1.length c1] := ⟨[.bool x.f0], [.slice A1 x.f1.length c1], rfl, rfl, ⟨A1, c1, rfl, l1, g1⟩⟩
theorem k49_openF {W : World} {ok : Nat → Prop} {x : S49} {cs : List Value} (h : Kd.FK k49 W ok x cs) : ∃ A1 c1, cs = [.bool x.f0, .slice A1 x.f1.length c1] ∧ x.f1.length ≤ c1 ∧ Kd.F k51 W ok A1 x.f1.length x.f1 := by
 obtain ⟨A1, c1, rfl, l1, _⟩ := k49_open (Kd.FK_now h)
 exact ⟨A1, c1, rfl, l1, (fun W' hW => by obtain ⟨A1_, c1_, he, l1_, g1_⟩ := k49_open (h W' hW); injection (Option.some.inj (show some (Value.slice A1 x.f1.length c1) = some (Value.slice A1_ x.f1.length c1_) from congrArg (fun l => l[1]?) he)) with ha_ _ _; rw [ha_]; exact g1_)⟩
theorem k49_mkF (W : World) (ok : Nat → Prop) (x : S49) {A1 : Option Addr} {c1 : Nat} (l1 : x.f1.length ≤ c1) (g1 : Kd.F k51 W ok A1 x.f1.length x.f1) : Kd.FK k49 W ok x [.bool x.f0, .slice A1 x.f1.length c1] := fun W2 hW => k49_mk W2 x l1 (g1 W2 hW)
def rd_T49 (xs : List S49) (i : Int) : S49 := xs.getD i.toNat z49
theorem at_T49 {w : World} {A : Option Addr} {n : Nat} {xs : List S49} (h : Kd.C k49 w A n xs) (i : Int) (h0 : 0 ≤ i) (h1 : i < n) : ∃ ad A1 c1, A = some ad ∧ w.cell? (ad.add (i.toNat * 2)) = some (.bool (rd_T49 xs i).f0) ∧ w.cell? ⟨(ad.add (i.toNat * 2)).block, (ad.add (i.toNat * 2)).off + 1, none⟩ = some (.slice A1 (rd_T49 xs i).f1.length c1) ∧ (rd_T49 xs i).f1.length ≤ c1 ∧ k51.C w A1 (rd_T49 xs i).f1.length (rd_T49 xs i).f1 := by
 obtain ⟨ad, c, e, _, hK, hc0⟩ := Kd.C_get h z49 i h0 h1
 have hc : ∀ j u, c[j]? = some u → w.cell? (ad.add (i.toNat * 2 + j)) = some u := hc0
 obtain ⟨A1, c1, rfl, l1, g1⟩ := k49_open hK
 exact ⟨ad, A1, c1, e, hc 0 _ rfl, by rw [← add_field _ _ 1 (by omega)]; exact hc 1 _ rfl, l1, g1⟩
end
section
open Go.Proofs.YtocbiggglnpeoaaH
def lastF (l : List S84) (n : Nat) : Int := if n = 0 then 0 else (rd_T84 l ((n - 1 : Nat) : Int)).f0
theorem lastF_succ (l : List S84) (n : Nat) : lastF l (n + 1) = (rd_T84 l (n : Int)).f0 := by
 unfold lastF
 rw [if_neg (by omega)]
 rfl
def flatAt (l : List S84) (n : Nat) : Bool := decide (lastF l n < (rd_T84 l (n : Int)).f0 ∧ (rd_T84 l (n : Int)).f0 ≤ 64 ∧ 1 ≤ (rd_T84 l (n : Int)).f1 ∧ (rd_T84 l (n : Int)).f1 ≤ 10)
def flatsOk (l : List S84) : Bool := (List.range l.length).all (flatAt l)
theorem flatsOk_false {l : List S84} {n : Nat} (hn : n < l.length) (h : flatAt l n = false) : flatsOk l = false := by
 unfold flatsOk
 rw [List.all_eq_false]
 exact ⟨n, List.mem_range.2 hn, by simp [h]⟩
theorem flatsOk_true {l : List S84} (h : ∀ j, j < l.length → flatAt l j = true) : flatsOk l = true := by
 unfold flatsOk
 rw [List.all_eq_true]
 exact fun j hj => h j (List.mem_range.1 hj)
def roomsM (l : List S84) (n : Nat) : Int → Option Int := foldM (fun j => (rd_T84 l (j : Int)).f0) (fun j => (rd_T84 l (j : Int)).f1) n
def vInt : Int → Value := fun x => .int .i64 x
def vBool : Bool → Value := fun x => .bool x
theorem flats_calls (A0 : Option Addr) (c0 : Nat) (l0 : List (S84)) (w : World) (hr0 : Kd.C k84 w A0 l0.length l0) (hc0 : l0.length ≤ c0) (hn : l0.length ≤ 1000000000) :
  Calls Try.prog 42 #[.slice A0 l0.length c0] w fun e w' => ∃ mv : Option Nat, e = .returned (.tuple #[.map mv, .bool (flatsOk l0)]) ∧ (flatsOk l0 = true → ∃ gm, mv = some gm ∧ w.heap.size ≤ gm ∧ MapI w' gm (mapV vInt (roomsM l0 l0.length))) ∧ Below w.heap.size w w' := by
 have hu84 := Try.underlying84
 have HR0 := Aside0.mk hr0
 have HN := Aside0.mk hn
 have hmm := @run_makeMap Try.prog
 clear hr0 hn
 go_enter Try.func42, Try.ntmps42
 go_wp2
 obtain ⟨gm, hgm⟩ : ∃ gm, gm = w.heap.size := ⟨_, rfl⟩
 obtain ⟨w4, hw4⟩ : ∃ w4, w4 = w.alloc (Obj.map #[] 0) := ⟨_, rfl⟩
 rw [← hw4, ← hgm]
 have HM := Aside0.mk (show MapI w4 gm (mapV vInt (roomsM l0 0)) by rw [hw4, hgm]; exact (MapI.made w).none_ vInt)
 have HB := Aside0.mk (show Below w.heap.size w w4 by rw [hw4]; exact below_alloc (Below.refl _ _) _)
 have GM := Aside0.mk (show w.heap.size ≤ gm by omega)
 clear hw4 hgm
 go_loopg [5, 11] l0.length (fun kq v5 v11 wr => ∃ (n : Nat) (q : Int), v5 = .int .i64 q ∧ v11 = .int .i64 n ∧ Aside0 (kq + n = l0.length) ∧ Aside0 (q = lastF l0 n) ∧ Aside0 (∀ j, j < n → flatAt l0 j = true) ∧ Aside0 (MapI wr gm (mapV vInt (roomsM l0 n))) ∧ Aside0 (Below w.heap.size w wr))
 case atStart => exact ⟨0, 0, rfl, rfl, ⟨by omega⟩, ⟨rfl⟩, ⟨fun j hj => absurd hj (by omega)⟩, HM, HB⟩
 case round =>
  clear HM HB
  obtain ⟨n, q, rfl, rfl, HK, HQ, HA, HM, HB⟩ := hrel
  by_cases hlt : n < l0.length
  ·obtain ⟨i, hi⟩ : ∃ i : Int, i = (n : Int) := ⟨_, rfl⟩
   rw [← hi]
   have HI2 := Aside0.mk (show 0 ≤ i ∧ i < l0.length ∧ i = (n : Int) from ⟨by omega, by omega, hi⟩)
   have d7 : decide (i < (l0.length : Int)) = true := decide_eq_true HI2.out.2.1
   have ci2 : (0 ≤ i) = True := eq_true HI2.out.1
   have ci3 : (i < l0.length) = True := eq_true HI2.out.2.1
   obtain ⟨adp, ep, hx0, hx1⟩ := at_T84 (Kd.C_below HR0.out HB.out) i HI2.out.1 HI2.out.2.1
   subst ep
   obtain ⟨p, hp⟩ : ∃ p, p = rd_T84 l0 i := ⟨_, rfl⟩
   rw [← hp] at hx0 hx1
   have HP := Aside0.mk (show rd_T84 l0 (n : Int) = p by rw [hp, hi])
   have hz1 : i + 1 ≤ 9223372036854775807 := by have := HI2.out; have := HN.out; omega
   have hz2 : -9223372036854775808 ≤ i + 1 := by have := HI2.out; omega
   have HFA := Aside0.mk (show flatAt l0 n = decide (q < p.f0 ∧ p.f0 ≤ 64 ∧ 1 ≤ p.f1 ∧ p.f1 ≤ 10) by unfold flatAt; rw [HP.out, ← HQ.out])
   have HLT := Aside0.mk hlt
   clear hi hlt hp
   have HB0 := Aside0.mk (Below.refl wr.heap.size wr)
   go_upto_region 5 with (first | ((with_reducible refine gate_dst (N := 7) rfl ?_); refine box_event ?hg (N := 7) ?hd (cs := #[.int .i64 0, .int .i64 0]) (t := 84) ?hr ?_; (case hd => rfl); (case hg => rfl); (case hr => first | (go_simp; done) | (go_simp; rfl)); intro gf hg_F w9 hbox_ hb_; replace hx0 := (hb_.cell (World.block_lt_of_cell? _ _ hx0)).trans hx0; replace hx1 := (hb_.cell (World.block_lt_of_cell? _ _ hx1)).trans hx1; have n0_ := Aside0.mk (below_step HB0.out hb_); have BF := Aside0.mk hbox_; have GF := Aside0.mk (show wr.heap.size ≤ gf by rw [hg_F]; exact below_size HB0.out); have EF := Aside0.mk hg_F; have hcf0 : w9.cell? ⟨gf, 0, none⟩ = some (.int .i64 0) := (blk_cell hbox_ 0).trans rfl; have hff0 := blk_frozen hbox_ 0; have hcf1 : w9.cell? ⟨gf, 1, none⟩ = some (.int .i64 0) := (blk_cell hbox_ 1).trans rfl; have hff1 := blk_frozen hbox_ 1; clear HB0 hg_F hbox_ hb_; have HB0 := n0_; clear n0_))
   obtain ⟨w10, hw10⟩ : ∃ w10, w10 = (w9.setCell ⟨gf, 0, none⟩ (.int .i64 p.f0)).setCell ⟨gf, 1, none⟩ (.int .i64 p.f1) := ⟨_, rfl⟩
   rw [← hw10]
   have BF10 := Aside0.mk (show w10.heap[gf]? = some (.cells #[.int .i64 p.f0, .int .i64 p.f1] 84 (0, 0)) by rw [hw10]; exact blk_put2 BF.out _ _)
   have HB10 := Aside0.mk (show Below wr.heap.size wr w10 by rw [hw10]; exact below_put2 HB0.out GF.out _ _)
   clear hw10 BF HB0 hcf0 hcf1 hff0 hff1 hx0 hx1
   have hcf0 : w10.cell? ⟨gf, 0, none⟩ = some (.int .i64 p.f0) := (blk_cell BF10.out 0).trans rfl
   have hcf1 : w10.cell? ⟨gf, 1, none⟩ = some (.int .i64 p.f1) := (blk_cell BF10.out 1).trans rfl
   have HM10 := Aside0.mk (HM.out.below HB10.out)
   have HB11 := Aside0.mk (below_step HB.out HB10.out)
   have hbad : (q < p.f0 ∧ p.f0 ≤ 64 ∧ 1 ≤ p.f1 ∧ p.f1 ≤ 10) ∨ ¬(q < p.f0 ∧ p.f0 ≤ 64 ∧ 1 ≤ p.f1 ∧ p.f1 ≤ 10) := Decidable.em _
   rcases hbad with hgood | hbad
   ·have HG := Aside0.mk (show flatAt l0 n = true by rw [HFA.out]; exact decide_eq_true hgood)
    have t1 : decide (p.f0 ≤ q) = false := decide_eq_false (by omega)
    have t2 : decide (64 < p.f0) = false := decide_eq_false (by omega)
    have t3 : decide (p.f1 < 1) = false := decide_eq_false (by omega)
    have t4 : decide (10 < p.f1) = false := decide_eq_false (by omega)
    clear hgood
    go_upto_region 7 with (fail)
    refine start_ (n := 9) (S := fun w' => w'.cell? ⟨gf, 0, none⟩ = some (.int .i64 p.f0) ∧ w'.cell? ⟨gf, 1, none⟩ = some (.int .i64 p.f1)) (ds := []) #[n_, n_, n_, n_, n_, n_, n_, n_, n_] (by kernel_rfl) rfl rfl ⟨hcf0, hcf1⟩ (fun hHeld => ?_)
    refine pv_ 0 34 (w_ 9 1) rfl ?_
    refine pv_ 1 35 (w_ 9 3) rfl ?_
    refine pv_ 3 37 (w_ 9 11) rfl ?_
    refine pv_ 5 39 (w_ 9 43) rfl ?_
    refine tb_ 2 36 (w_ 9 47) rfl hHeld (by rintro w' ⟨s0, s1⟩; go_simp; with_reducible rfl) ?_
    refine tb_ 4 38 (w_ 9 63) rfl hHeld (by rintro w' ⟨s0, s1⟩; go_simp; with_reducible rfl) ?_
    refine tb_ 6 40 (w_ 9 127) rfl hHeld (by rintro w' ⟨s0, s1⟩; go_simp; with_reducible rfl) ?_
    refine one_ (i := 7) (N := none) (w_ 9 255) rfl rfl (by kernel_rfl) (by decide) (fun K hK => ?_)
    obtain ⟨w11, hrun_, hm_, hg_⟩ := run_storeI (P := Try.prog) (t := 65) (kt := 3) (et := 3) HM10.out.drew Try.underlying65 Try.underlying3 p.f0 (.int .i64 p.f1)
    have HM11 := Aside0.mk hm_
    have HG11 := Aside0.mk hg_
    refine skip_ (w1 := w11) (by rfl) rfl ?_ ?_
    ·go_simp
     try (first | (rw [hrun_]; done) | (rw [hrun_]; rfl) | rfl)
    clear hrun_ hm_ hg_
    have BF11 := Aside0.mk (blk_grown (show w10.drew.heap[gf]? = _ from BF10.out) HG11.out (HM10.out.ne_blk BF10.out))
    refine hK.out _ _ ⟨(blk_cell BF11.out 0).trans rfl, (blk_cell BF11.out 1).trans rfl⟩ (fun hHeld => ?_)
    clear hK K
    refine pv_ 8 5 (w_ 9 511) rfl ?_
    refine done_ (by kernel_rfl) ?_
    obtain ⟨w12, hw12⟩ : ∃ w12, w12 = w11 := ⟨_, rfl⟩
    have HM12 := Aside0.mk (show MapI w11 gm (mapV vInt (roomsM l0 (n + 1))) from by
     refine HM11.out.eq fun k => (mapV_set vInt (roomsM l0 n) p.f0 p.f1 k).trans ?_
     unfold roomsM
     rw [foldM_succ]
     simp only [HP.out])
    have HB12 := Aside0.mk (grown_below (show Below w.heap.size w w10.drew from HB11.out.drew) HG11.out (fun k e => by cases e; exact GM.out))
    clear hw12
    go_wp2
    go_roundg (gk - 1)
    case measure => have := HK.out; have := HLT.out; omega
    case rel =>
     refine ⟨n + 1, p.f0, ?_, ?_, ⟨by have := HK.out; have := HLT.out; omega⟩, ⟨by rw [lastF_succ, HP.out]⟩, ⟨fun j hj => ?_⟩, HM12, HB12⟩
     ·first | rfl | (simp; done)
     ·have := HI2.out
      first | (rw [show ((n + 1 : Nat) : Int) = i + 1 from by omega]; done) | (simp; omega)
     ·by_cases e : j = n
      ·rw [e]; exact HG.out
      ·exact HA.out j (by omega)
   ·have HX := Aside0.mk (flatsOk_false HLT.out (show flatAt l0 n = false by rw [HFA.out]; exact decide_eq_false hbad))
    by_cases b1 : p.f0 ≤ q
    ·have t1 : decide (p.f0 ≤ q) = true := decide_eq_true b1
     clear b1 hbad
     go_wp2
     go_ret2
     rw [HX.out]
     exact ⟨_, rfl, fun h => Bool.noConfusion h, HB11.out⟩
    have t1 : decide (p.f0 ≤ q) = false := decide_eq_false b1
    by_cases b2 : 64 < p.f0
    ·have t2 : decide (64 < p.f0) = true := decide_eq_true b2
     clear b1 b2 hbad
     go_wp2
     go_ret2
     rw [HX.out]
     exact ⟨_, rfl, fun h => Bool.noConfusion h, HB11.out⟩
    have t2 : decide (64 < p.f0) = false := decide_eq_false b2
    by_cases b3 : p.f1 < 1
    ·have t3 : decide (p.f1 < 1) = true := decide_eq_true b3
     clear b1 b2 b3 hbad
     go_wp2
     go_ret2
     rw [HX.out]
     exact ⟨_, rfl, fun h => Bool.noConfusion h, HB11.out⟩
    have t3 : decide (p.f1 < 1) = false := decide_eq_false b3
    have b4 : 10 < p.f1 := by omega
    have t4 : decide (10 < p.f1) = true := decide_eq_true b4
    clear b1 b2 b3 b4 hbad
    go_wp2
    go_ret2
    rw [HX.out]
    exact ⟨_, rfl, fun h => Bool.noConfusion h, HB11.out⟩
  ·have d7 : decide ((n : Int) < (l0.length : Int)) = false := decide_eq_false (by omega)
   have d7' : decide (n < l0.length) = false := decide_eq_false hlt
   have hnl : n = l0.length := by have := HK.out; omega
   rw [hnl] at HM HA
   have HX := Aside0.mk (flatsOk_true HA.out)
   clear hlt hnl
   go_wp2
   go_ret2
   rw [HX.out]
   exact ⟨_, rfl, fun _ => ⟨gm, rfl, GM.out, HM.out⟩, HB.out⟩
end
section
open Go.Proofs.YtocbiggglnpeoaaH
def seenM (l : List Int) (n : Nat) : Int → Option Bool := foldM (fun j => rd l (j : Int)) (fun _ => true) n
def wantAt (rooms : Int → Option Int) (l : List Int) (n : Nat) : Bool := decide ((rooms (rd l (n : Int))).getD 0 ≠ 0) && !(seenM l n (rd l (n : Int))).getD false
def wantsOk (rooms : Int → Option Int) (l : List Int) : Bool := (List.range l.length).all (wantAt rooms l)
theorem wantsOk_false {rooms : Int → Option Int} {l : List Int} {n : Nat} (hn : n < l.length) (h : wantAt rooms l n = false) : wantsOk rooms l = false := by
 unfold wantsOk
 rw [List.all_eq_false]
 exact ⟨n, List.mem_range.2 hn, by simp [h]⟩
theorem wantsOk_true {rooms : Int → Option Int} {l : List Int} (h : ∀ j, j < l.length → wantAt rooms l j = true) : wantsOk rooms l = true := by
 unfold wantsOk
 rw [List.all_eq_true]
 exact fun j hj => h j (List.mem_range.1 hj)
def partyOk (rooms : Int → Option Int) (q : Int) (T : Int → Option Bool) (x0 x1 : Int) (l : List Int) : Bool :=
 decide (q < x0 ∧ x0 ≤ 64) && (decide (x1 = 0) || (decide ((rooms x1).getD 0 ≠ 0) && !(T x1).getD false)) && wantsOk rooms l
structure VS (w0 w : World) (gl gr gt gm gj : Nat) (rooms : Int → Option Int) (q : Int) (T : Int → Option Bool) : Prop where
 last : w.heap[gl]? = some (.cells #[.int .i64 q] 3 (0, 0))
 rm : w.heap[gr]? = some (.cells #[.map (some gm)] 65 (0, 0))
 tk : w.heap[gt]? = some (.cells #[.map (some gj)] 66 (0, 0))
 mr : MapI w gm (mapV vInt rooms)
 mt : MapI w gj (mapV vBool T)
 ne : gm ≠ gj
 lo : w0.heap.size ≤ gl ∧ w0.heap.size ≤ gj
 below : Below w0.heap.size w0 w
theorem VS.later {w0 w w' : World} {gl gr gt gm gj : Nat} {rooms : Int → Option Int} {q : Int} {T : Int → Option Bool} (h : VS w0 w gl gr gt gm gj rooms q T) (hb : Below w.heap.size w w') : VS w0 w' gl gr gt gm gj rooms q T :=
 ⟨blk_below h.last hb, blk_below h.rm hb, blk_below h.tk hb, h.mr.below hb, h.mt.below hb, h.ne, h.lo, below_step h.below hb⟩
theorem VS.map {w0 w w' : World} {gl gr gt gm gj gs : Nat} {rooms : Int → Option Int} {q : Int} {T : Int → Option Bool} {m : Int → Option Value} (h : VS w0 w gl gr gt gm gj rooms q T) (hs : MapI w gs m) (n1 : gm ≠ gs) (n2 : gj ≠ gs) (hlo : w0.heap.size ≤ gs) (hg : w.grownBy w' (some gs)) : VS w0 w' gl gr gt gm gj rooms q T :=
 ⟨blk_grown h.last hg (hs.ne_blk h.last), blk_grown h.rm hg (hs.ne_blk h.rm), blk_grown h.tk hg (hs.ne_blk h.tk), h.mr.kept hg (fun e => n1 (by cases e; rfl)), h.mt.kept hg (fun e => n2 (by cases e; rfl)), h.ne, h.lo, grown_below h.below hg (fun k e => by cases e; exact hlo)⟩
theorem VS.taken {w0 w w' : World} {gl gr gt gm gj : Nat} {rooms : Int → Option Int} {q x0 x1 : Int} {T : Int → Option Bool} (h : VS w0 w gl gr gt gm gj rooms q T) (hk : MapI w' gj (setM (mapV vBool T) x1 (.bool true))) (hg : w.grownBy w' (some gj)) : VS w0 (w'.setCell ⟨gl, 0, none⟩ (.int .i64 x0)) gl gr gt gm gj rooms x0 (upd T x1 true) := by
 have hl : w'.heap[gl]? = some (.cells #[.int .i64 q] 3 (0, 0)) := blk_grown h.last hg (h.mt.ne_blk h.last)
 have hr : w'.heap[gr]? = some (.cells #[.map (some gm)] 65 (0, 0)) := blk_grown h.rm hg (h.mt.ne_blk h.rm)
 have ht : w'.heap[gt]? = some (.cells #[.map (some gj)] 66 (0, 0)) := blk_grown h.tk hg (h.mt.ne_blk h.tk)
 have hm : MapI w' gm (mapV vInt rooms) := h.mr.kept hg (fun e => h.ne (by cases e; rfl))
 have far : ∀ {g t : Nat} {cs : Array Value}, w'.heap[g]? = some (.cells cs t (0, 0)) → t ≠ 3 → (w'.setCell ⟨gl, 0, none⟩ (.int .i64 x0)).heap[g]? = some (.cells cs t (0, 0)) := fun {g t cs} hb ht => (Below.heap_setCell w' ⟨gl, 0, none⟩ _ g (fun e => by
  rw [e] at hb
  have hb := hb.symm.trans hl
  injection hb with hb
  injection hb with _ h2
  exact ht h2)).trans hb
 exact ⟨blk_put hl 0 _ rfl, far hr (by decide), far ht (by decide), hm.move (Below.heap_setCell _ _ _ _ (fun e => hm.ne_blk hl (by rw [e]))), (hk.eq (mapV_set vBool T x1 true)).move (Below.heap_setCell _ _ _ _ (fun e => hk.ne_blk hl (by rw [e]))), h.ne, h.lo, below_set (grown_below h.below hg (fun k e => by cases e; exact h.lo.2)) h.lo.1⟩
theorem valid1_calls (w0 w : World) (x0 x1 : Int) (A2 : Option Addr) (c2 : Nat) (l2 : List Int) (gl gr gt gm gj : Nat) (rooms : Int → Option Int) (q : Int) (T : Int → Option Bool) (hr2 : Kd.C (Kd.int .i64) w0 A2 l2.length l2) (hc2 : l2.length ≤ c2) (hn : l2.length ≤ 1000000000000) (hv : VS w0 w gl gr gt gm gj rooms q T) :
  Calls Try.prog 43 #[.agg #[.int .i64 x0, .int .i64 x1, .slice A2 l2.length c2], .pointer (some ⟨gl, 0, none⟩), .pointer (some ⟨gr, 0, none⟩), .pointer (some ⟨gt, 0, none⟩)] w fun e w' => e = .returned (.bool (partyOk rooms q T x0 x1 l2)) ∧ Below w0.heap.size w0 w' ∧ (partyOk rooms q T x0 x1 l2 = true → VS w0 w' gl gr gt gm gj rooms x0 (upd T x1 true)) := by
 have hu46 := Try.underlying46
 have HR2 := Aside0.mk hr2
 have HN := Aside0.mk hn
 have HV := Aside0.mk hv
 have hmm := @run_makeMap Try.prog
 have HB0 := Aside0.mk (Below.refl w.heap.size w)
 clear hr2 hn hv
 by_cases b1 : x0 ≤ q
 ·have HX := Aside0.mk (show partyOk rooms q T x0 x1 l2 = false by unfold partyOk; rw [decide_eq_false (by omega)]; rfl)
  have t1 : decide (x0 ≤ q) = true := decide_eq_true b1
  clear b1
  go_enter Try.func43, Try.ntmps43
  go_wp2_with (first | ((with_reducible refine gate_dst (N := 4) rfl ?_); refine box_event ?hg (N := 4) ?hd (cs := #[.int .i64 x0, .int .i64 x1, .slice A2 l2.length c2]) (t := 46) ?hr ?_; (case hd => rfl); (case hg => rfl); (case hr => first | (go_simp; done) | (go_simp; rfl)); intro gp hg_P wp hbox_ hb_; have n0_ := Aside0.mk (below_step HB0.out hb_); have BP := Aside0.mk hbox_; have GP := Aside0.mk (show w.heap.size ≤ gp by rw [hg_P]; exact below_size HB0.out); have EP := Aside0.mk hg_P; have hcp0 : wp.cell? ⟨gp, 0, none⟩ = some (.int .i64 x0) := (blk_cell hbox_ 0).trans rfl; have hfp0 := blk_frozen hbox_ 0; have hcp1 : wp.cell? ⟨gp, 1, none⟩ = some (.int .i64 x1) := (blk_cell hbox_ 1).trans rfl; have hfp1 := blk_frozen hbox_ 1; have hcp2 : wp.cell? ⟨gp, 2, none⟩ = some (.slice A2 l2.length c2) := (blk_cell hbox_ 2).trans rfl; have hfp2 := blk_frozen hbox_ 2; have HVp := Aside0.mk (HV.out.later hb_); have hcl0 := (blk_cell HVp.out.last 0).trans rfl; have hcr0 := (blk_cell HVp.out.rm 0).trans rfl; have hct0 := (blk_cell HVp.out.tk 0).trans rfl; clear HB0 hg_P hbox_ hb_; have HB0 := n0_; clear n0_))
  go_ret
  rw [HX.out]
  exact ⟨rfl, HVp.out.below, fun h => Bool.noConfusion h⟩
 have t1 : decide (x0 ≤ q) = false := decide_eq_false b1
 by_cases b2 : 64 < x0
 ·have HX := Aside0.mk (show partyOk rooms q T x0 x1 l2 = false by unfold partyOk; rw [decide_eq_false (by omega)]; rfl)
  have t2 : decide (64 < x0) = true := decide_eq_true b2
  clear b1 b2
  go_enter Try.func43, Try.ntmps43
  go_wp2_with (first | ((with_reducible refine gate_dst (N := 4) rfl ?_); refine box_event ?hg (N := 4) ?hd (cs := #[.int .i64 x0, .int .i64 x1, .slice A2 l2.length c2]) (t := 46) ?hr ?_; (case hd => rfl); (case hg => rfl); (case hr => first | (go_simp; done) | (go_simp; rfl)); intro gp hg_P wp hbox_ hb_; have n0_ := Aside0.mk (below_step HB0.out hb_); have BP := Aside0.mk hbox_; have GP := Aside0.mk (show w.heap.size ≤ gp by rw [hg_P]; exact below_size HB0.out); have EP := Aside0.mk hg_P; have hcp0 : wp.cell? ⟨gp, 0, none⟩ = some (.int .i64 x0) := (blk_cell hbox_ 0).trans rfl; have hfp0 := blk_frozen hbox_ 0; have hcp1 : wp.cell? ⟨gp, 1, none⟩ = some (.int .i64 x1) := (blk_cell hbox_ 1).trans rfl; have hfp1 := blk_frozen hbox_ 1; have hcp2 : wp.cell? ⟨gp, 2, none⟩ = some (.slice A2 l2.length c2) := (blk_cell hbox_ 2).trans rfl; have hfp2 := blk_frozen hbox_ 2; have HVp := Aside0.mk (HV.out.later hb_); have hcl0 := (blk_cell HVp.out.last 0).trans rfl; have hcr0 := (blk_cell HVp.out.rm 0).trans rfl; have hct0 := (blk_cell HVp.out.tk 0).trans rfl; clear HB0 hg_P hbox_ hb_; have HB0 := n0_; clear n0_))
  go_ret
  rw [HX.out]
  exact ⟨rfl, HVp.out.below, fun h => Bool.noConfusion h⟩
 have t2 : decide (64 < x0) = false := decide_eq_false b2
 have HPO := Aside0.mk (show partyOk rooms q T x0 x1 l2 = ((decide (x1 = 0) || (decide ((rooms x1).getD 0 ≠ 0) && !(T x1).getD false)) && wantsOk rooms l2) by unfold partyOk; rw [decide_eq_true (by omega : q < x0 ∧ x0 ≤ 64)]; rfl)
 clear b1 b2
 by_cases b3 : x1 = 0
 ·have t3 : (x1 == 0) = true := beq_iff_eq.2 b3
  have t3' : (x1 != 0) = false := by rw [bne_eq_false_iff_eq]; exact b3
  have HX := Aside0.mk (show partyOk rooms q T x0 x1 l2 = wantsOk rooms l2 by rw [HPO.out, decide_eq_true b3]; rfl)
  clear b3
  go_enter Try.func43, Try.ntmps43
  go_upto_region 3 with (first | ((with_reducible refine gate_dst (N := 4) rfl ?_); refine box_event ?hg (N := 4) ?hd (cs := #[.int .i64 x0, .int .i64 x1, .slice A2 l2.length c2]) (t := 46) ?hr ?_; (case hd => rfl); (case hg => rfl); (case hr => first | (go_simp; done) | (go_simp; rfl)); intro gp hg_P wp hbox_ hb_; have n0_ := Aside0.mk (below_step HB0.out hb_); have BP := Aside0.mk hbox_; have GP := Aside0.mk (show w.heap.size ≤ gp by rw [hg_P]; exact below_size HB0.out); have EP := Aside0.mk hg_P; have hcp0 : wp.cell? ⟨gp, 0, none⟩ = some (.int .i64 x0) := (blk_cell hbox_ 0).trans rfl; have hfp0 := blk_frozen hbox_ 0; have hcp1 : wp.cell? ⟨gp, 1, none⟩ = some (.int .i64 x1) := (blk_cell hbox_ 1).trans rfl; have hfp1 := blk_frozen hbox_ 1; have hcp2 : wp.cell? ⟨gp, 2, none⟩ = some (.slice A2 l2.length c2) := (blk_cell hbox_ 2).trans rfl; have hfp2 := blk_frozen hbox_ 2; have HVp := Aside0.mk (HV.out.later hb_); have hcl0 := (blk_cell HVp.out.last 0).trans rfl; have hcr0 := (blk_cell HVp.out.rm 0).trans rfl; have hct0 := (blk_cell HVp.out.tk 0).trans rfl; clear HB0 hg_P hbox_ hb_; have HB0 := n0_; clear n0_))
  have hfl0 := blk_frozen HVp.out.last 0
  refine start_ (n := 7) (S := fun w' => w'.cell? ⟨gt, 0, none⟩ = some (.map (some gj)) ∧ w'.cell? ⟨gp, 0, none⟩ = some (.int .i64 x0) ∧ w'.cell? ⟨gp, 1, none⟩ = some (.int .i64 x1)) (ds := [6]) #[n_, n_, n_, n_, n_, n_, n_] (by kernel_rfl) rfl rfl ⟨hct0, hcp0, hcp1⟩ (fun hHeld => ?_)
  refine pv_ 1 37 (w_ 7 2) rfl ?_
  refine pv_ 3 39 (w_ 7 10) rfl ?_
  refine tb_ 0 36 (w_ 7 11) rfl hHeld (by rintro w' ⟨s0, s1, s2⟩; go_simp; with_reducible rfl) ?_
  refine tb_ 2 38 (w_ 7 15) rfl hHeld (by rintro w' ⟨s0, s1, s2⟩; go_simp; with_reducible rfl) ?_
  refine tb_ 4 40 (w_ 7 31) rfl hHeld (by rintro w' ⟨s0, s1, s2⟩; go_simp; with_reducible rfl) ?_
  refine one_ (i := 5) (N := none) (w_ 7 63) rfl rfl (by kernel_rfl) (by decide) (fun K hK => ?_)
  obtain ⟨w11, hrun_, hm_, hg_⟩ := run_storeI (P := Try.prog) (t := 66) (kt := 3) (et := 4) HVp.out.mt.drew Try.underlying66 Try.underlying3 x1 (.bool true)
  have HM11 := Aside0.mk hm_
  have HG11 := Aside0.mk hg_
  refine skip_ (w1 := w11) (by rfl) rfl ?_ ?_
  ·go_simp
   try (first | (rw [hrun_]; done) | (rw [hrun_]; rfl) | rfl)
  clear hrun_ hm_ hg_
  have BT11 := Aside0.mk (blk_grown (show wp.drew.heap[gt]? = _ from HVp.out.tk) HG11.out (HVp.out.mt.ne_blk HVp.out.tk))
  have BP11 := Aside0.mk (blk_grown (show wp.drew.heap[gp]? = _ from BP.out) HG11.out (HVp.out.mt.ne_blk BP.out))
  have BL11 := Aside0.mk (blk_grown (show wp.drew.heap[gl]? = _ from HVp.out.last) HG11.out (HVp.out.mt.ne_blk HVp.out.last))
  have hql0 := (blk_cell BL11.out 0).trans rfl
  have hqf0 := blk_frozen BL11.out 0
  refine hK.out _ _ ⟨(blk_cell BT11.out 0).trans rfl, (blk_cell BP11.out 0).trans rfl, (blk_cell BP11.out 1).trans rfl⟩ (fun hHeld => ?_)
  clear hK K
  refine last_ (i := 6) (N := none) (w_ 7 127) rfl rfl (by kernel_rfl) (by decide) (fun K hK => ?_)
  refine skip_ (w1 := ?_) (by rfl) rfl ?_ ?_
  rotate_left
  ·go_simp
   rfl
  refine hK.out _ _ ?_
  clear hK K
  refine done_ (by kernel_rfl) ?_
  go_upto_region 4 with (fail)
  obtain ⟨w12, hw12⟩ : ∃ w12, w12 = w11.setCell ⟨gl, 0, none⟩ (.int .i64 x0) := ⟨_, rfl⟩
  rw [← hw12]
  have HV12 := Aside0.mk (show VS w0 w12 gl gr gt gm gj rooms x0 (upd T x1 true) by rw [hw12]; exact VS.taken (HVp.out.later (below_drew (Below.refl _ _))) HM11.out HG11.out)
  have BP12 := Aside0.mk (show w12.heap[gp]? = some (.cells #[.int .i64 x0, .int .i64 x1, .slice A2 l2.length c2] 46 (0, 0)) by rw [hw12]; exact (Below.heap_setCell _ _ _ _ (blk_ne BP11.out BL11.out (by decide))).trans BP11.out)
  clear hcp0 hcp1 hcp2 hfp0 hfp1 hfp2 hcl0 hcr0 hct0 hfl0 hql0 hqf0 hHeld hw12
  have hcp2 : (w12.alloc (Obj.map #[] 0)).cell? ⟨gp, 2, none⟩ = some (.slice A2 l2.length c2) := (blk_cell (blk_below BP12.out (below_alloc (Below.refl _ _) _)) 2).trans rfl
  go_wp2
  obtain ⟨gs, hgs⟩ : ∃ gs, gs = w12.heap.size := ⟨_, rfl⟩
  obtain ⟨w13, hw13⟩ : ∃ w13, w13 = w12.alloc (Obj.map #[] 0) := ⟨_, rfl⟩
  rw [← hgs, ← hw13]
  have HV13 := Aside0.mk (show VS w0 w13 gl gr gt gm gj rooms x0 (upd T x1 true) by rw [hw13]; exact HV12.out.later (below_alloc (Below.refl _ _) _))
  have HS13 := Aside0.mk (show MapI w13 gs (mapV vBool (seenM l2 0)) by rw [hw13, hgs]; exact (MapI.made w12).none_ vBool)
  have HNE := Aside0.mk (show gm ≠ gs ∧ gj ≠ gs ∧ w0.heap.size ≤ gs from ⟨by have := HV12.out.mr.lt; omega, by have := HV12.out.mt.lt; omega, by have := below_size HV12.out.below; omega⟩)
  have HCA := Aside0.mk (Kd.C_below HR2.out HV13.out.below)
  clear hw13 hgs HV12 BP12 hcp2
  go_loopg [45] l2.length (fun kq v45 wr => ∃ (n : Nat), v45 = .int .i64 n ∧ Aside0 (kq + n = l2.length) ∧ Aside0 (∀ j, j < n → wantAt rooms l2 j = true) ∧ Aside0 (VS w0 wr gl gr gt gm gj rooms x0 (upd T x1 true)) ∧ Aside0 (MapI wr gs (mapV vBool (seenM l2 n))))
  case atStart => exact ⟨0, rfl, ⟨by omega⟩, ⟨fun j hj => absurd hj (by omega)⟩, HV13, HS13⟩
  case round =>
   clear HV13 HS13 HCA
   obtain ⟨n, rfl, HK, HA, HVR, HS⟩ := hrel
   by_cases hlt : n < l2.length
   ·obtain ⟨i, hi⟩ : ∃ i : Int, i = (n : Int) := ⟨_, rfl⟩
    rw [← hi]
    have HI2 := Aside0.mk (show 0 ≤ i ∧ i < l2.length ∧ i = (n : Int) from ⟨by omega, by omega, hi⟩)
    have d7 : decide (i < (l2.length : Int)) = true := decide_eq_true HI2.out.2.1
    have ci2 : (0 ≤ i) = True := eq_true HI2.out.1
    have ci3 : (i < l2.length) = True := eq_true HI2.out.2.1
    obtain ⟨adw, ew, hy0⟩ := Kd.at_int (Kd.C_below HR2.out HVR.out.below) i HI2.out.1 HI2.out.2.1
    subst ew
    obtain ⟨k, hk⟩ : ∃ k, k = rd l2 i := ⟨_, rfl⟩
    rw [← hk] at hy0
    have HKK := Aside0.mk (show rd l2 (n : Int) = k by rw [hk, hi])
    have hz1 : i + 1 ≤ 9223372036854775807 := by have := HI2.out; have := HN.out; omega
    have hz2 : -9223372036854775808 ≤ i + 1 := by have := HI2.out; omega
    have HLT := Aside0.mk hlt
    have HWA := Aside0.mk (show wantAt rooms l2 n = (decide ((rooms k).getD 0 ≠ 0) && !(seenM l2 n k).getD false) by unfold wantAt; rw [HKK.out])
    have hcrr : wr.cell? ⟨gr, 0, none⟩ = some (.map (some gm)) := (blk_cell HVR.out.rm 0).trans rfl
    clear hi hlt hk
    by_cases c1 : (rooms k).getD 0 = 0
    ·have u1 : ((rooms k).getD 0 == 0) = true := beq_iff_eq.2 c1
     have HF := Aside0.mk (wantsOk_false HLT.out (show wantAt rooms l2 n = false by rw [HWA.out, decide_eq_false (by simpa using c1)]; rfl))
     clear c1
     go_wp2_with (first | ((with_reducible refine gate_ (op := .lookup 65 (.tmp 49) (.tmp 50) false) rfl ?_); refine wpList_lookI _ rfl (.tmp 49) (.tmp 50) 65 false rfl 3 3 Try.underlying65 Try.underlying3 (Try.zeroValue3 _) gm (mapV vInt rooms) rfl HVR.out.mr k rfl ?_; rw [if_neg (by decide), show (Value.int IntKind.i64 0) = vInt 0 from rfl, mapV_get]; dsimp only [vInt]))
     go_ret
     rw [HX.out, HF.out]
     exact ⟨rfl, HVR.out.below, fun h => Bool.noConfusion h⟩
    have u1 : ((rooms k).getD 0 == 0) = false := beq_eq_false_iff_ne.2 c1
    cases c2 : (seenM l2 n k).getD false with
    | true =>
     have HF := Aside0.mk (wantsOk_false HLT.out (show wantAt rooms l2 n = false by rw [HWA.out, c2]; simp))
     have HC2 := Aside0.mk c2
     clear c1 c2
     go_wp2_with (first | ((with_reducible refine gate_ (op := .lookup 65 (.tmp 49) (.tmp 50) false) rfl ?_); refine wpList_lookI _ rfl (.tmp 49) (.tmp 50) 65 false rfl 3 3 Try.underlying65 Try.underlying3 (Try.zeroValue3 _) gm (mapV vInt rooms) rfl HVR.out.mr k rfl ?_; rw [if_neg (by decide), show (Value.int IntKind.i64 0) = vInt 0 from rfl, mapV_get]; dsimp only [vInt]) | ((with_reducible refine gate_ (op := .lookup 66 (.tmp 54) (.tmp 55) false) rfl ?_); (try (refine gate_guard (by rfl) ?_; dsimp only)); refine wpList_lookI _ rfl (.tmp 54) (.tmp 55) 66 false rfl 3 4 Try.underlying66 Try.underlying3 (Try.zeroValue4 _) gs (mapV vBool (seenM l2 n)) rfl HS.out k rfl ?_; rw [if_neg (by decide), show (Value.bool false) = vBool false from rfl, mapV_get, HC2.out]; dsimp only [vBool]))
     go_ret
     rw [HX.out, HF.out]
     exact ⟨rfl, HVR.out.below, fun h => Bool.noConfusion h⟩
    | false =>
     have HF := Aside0.mk (show wantAt rooms l2 n = true by rw [HWA.out, c2, decide_eq_true c1]; rfl)
     have HC2 := Aside0.mk c2
     clear c1 c2
     go_wp2_with (first | ((with_reducible refine gate_ (op := .lookup 65 (.tmp 49) (.tmp 50) false) rfl ?_); refine wpList_lookI _ rfl (.tmp 49) (.tmp 50) 65 false rfl 3 3 Try.underlying65 Try.underlying3 (Try.zeroValue3 _) gm (mapV vInt rooms) rfl HVR.out.mr k rfl ?_; rw [if_neg (by decide), show (Value.int IntKind.i64 0) = vInt 0 from rfl, mapV_get]; dsimp only [vInt]) | ((with_reducible refine gate_ (op := .lookup 66 (.tmp 54) (.tmp 55) false) rfl ?_); (try (refine gate_guard (by rfl) ?_; dsimp only)); refine wpList_lookI _ rfl (.tmp 54) (.tmp 55) 66 false rfl 3 4 Try.underlying66 Try.underlying3 (Try.zeroValue4 _) gs (mapV vBool (seenM l2 n)) rfl HS.out k rfl ?_; rw [if_neg (by decide), show (Value.bool false) = vBool false from rfl, mapV_get, HC2.out]; dsimp only [vBool]) | ((with_reducible refine gate_ (op := .mapUpdate 66 (.tmp 58) (.tmp 59) (.const (.bool true))) rfl ?_); refine wpList_storeI _ rfl (.tmp 58) (.tmp 59) (.const (.bool true)) 66 rfl 3 4 Try.underlying66 Try.underlying3 gs (mapV vBool (seenM l2 n)) rfl HS.out k rfl (.bool true) rfl ?_; intro w14 hm_ hg_; have HS14 := Aside0.mk (show MapI w14 gs (mapV vBool (seenM l2 (n + 1))) from hm_.eq fun x => (mapV_set vBool (seenM l2 n) k true x).trans (by unfold seenM; rw [foldM_succ]; simp only [HKK.out])); have HV14 := Aside0.mk (HVR.out.map HS.out HNE.out.1 HNE.out.2.1 HNE.out.2.2 hg_); clear hm_ hg_))
     go_roundg (gk - 1)
     case measure => have := HK.out; have := HLT.out; omega
     case rel =>
      refine ⟨n + 1, ?_, ⟨by have := HK.out; have := HLT.out; omega⟩, ⟨fun j hj => ?_⟩, HV14, HS14⟩
      ·have := HI2.out
       first | (rw [show ((n + 1 : Nat) : Int) = i + 1 from by omega]; done) | (simp; omega)
      ·by_cases e : j = n
       ·rw [e]; exact HF.out
       ·exact HA.out j (by omega)
   ·have d7 : decide ((n : Int) < (l2.length : Int)) = false := decide_eq_false (by omega)
    have d7' : decide (n < l2.length) = false := decide_eq_false hlt
    have hnl : n = l2.length := by have := HK.out; omega
    rw [hnl] at HA
    have HF := Aside0.mk (wantsOk_true HA.out)
    clear hlt hnl
    go_wp2
    go_ret
    rw [HX.out, HF.out]
    exact ⟨rfl, HVR.out.below, fun _ => HVR.out⟩
 have t3 : (x1 == 0) = false := beq_eq_false_iff_ne.2 b3
 have t3' : (x1 != 0) = true := bne_iff_ne.2 b3
 by_cases b4 : (rooms x1).getD 0 = 0
 ·have t4 : ((rooms x1).getD 0 == 0) = true := beq_iff_eq.2 b4
  have HX := Aside0.mk (show partyOk rooms q T x0 x1 l2 = false by rw [HPO.out, decide_eq_false b3, decide_eq_false (by simpa using b4)]; rfl)
  clear b3 b4
  go_enter Try.func43, Try.ntmps43
  go_wp2_with (first | ((with_reducible refine gate_dst (N := 4) rfl ?_); refine box_event ?hg (N := 4) ?hd (cs := #[.int .i64 x0, .int .i64 x1, .slice A2 l2.length c2]) (t := 46) ?hr ?_; (case hd => rfl); (case hg => rfl); (case hr => first | (go_simp; done) | (go_simp; rfl)); intro gp hg_P wp hbox_ hb_; have n0_ := Aside0.mk (below_step HB0.out hb_); have BP := Aside0.mk hbox_; have GP := Aside0.mk (show w.heap.size ≤ gp by rw [hg_P]; exact below_size HB0.out); have EP := Aside0.mk hg_P; have hcp0 : wp.cell? ⟨gp, 0, none⟩ = some (.int .i64 x0) := (blk_cell hbox_ 0).trans rfl; have hfp0 := blk_frozen hbox_ 0; have hcp1 : wp.cell? ⟨gp, 1, none⟩ = some (.int .i64 x1) := (blk_cell hbox_ 1).trans rfl; have hfp1 := blk_frozen hbox_ 1; have hcp2 : wp.cell? ⟨gp, 2, none⟩ = some (.slice A2 l2.length c2) := (blk_cell hbox_ 2).trans rfl; have hfp2 := blk_frozen hbox_ 2; have HVp := Aside0.mk (HV.out.later hb_); have hcl0 := (blk_cell HVp.out.last 0).trans rfl; have hcr0 := (blk_cell HVp.out.rm 0).trans rfl; have hct0 := (blk_cell HVp.out.tk 0).trans rfl; clear HB0 hg_P hbox_ hb_; have HB0 := n0_; clear n0_) | ((with_reducible refine gate_ (op := .lookup 65 (.tmp 23) (.tmp 25) false) rfl ?_); (try (refine gate_guard (by rfl) ?_; dsimp only)); refine wpList_lookI _ rfl (.tmp 23) (.tmp 25) 65 false rfl 3 3 Try.underlying65 Try.underlying3 (Try.zeroValue3 _) gm (mapV vInt rooms) rfl HVp.out.mr x1 rfl ?_; rw [if_neg (by decide), show (Value.int IntKind.i64 0) = vInt 0 from rfl, mapV_get]; dsimp only [vInt]))
  go_ret
  rw [HX.out]
  exact ⟨rfl, HVp.out.below, fun h => Bool.noConfusion h⟩
 have t4 : ((rooms x1).getD 0 == 0) = false := beq_eq_false_iff_ne.2 b4
 cases b5 : (T x1).getD false with
 | true =>
  have HX := Aside0.mk (show partyOk rooms q T x0 x1 l2 = false by rw [HPO.out, decide_eq_false b3, b5]; simp)
  have HT5 := Aside0.mk b5
  clear b3 b4 b5
  go_enter Try.func43, Try.ntmps43
  go_wp2_with (first | ((with_reducible refine gate_dst (N := 4) rfl ?_); refine box_event ?hg (N := 4) ?hd (cs := #[.int .i64 x0, .int .i64 x1, .slice A2 l2.length c2]) (t := 46) ?hr ?_; (case hd => rfl); (case hg => rfl); (case hr => first | (go_simp; done) | (go_simp; rfl)); intro gp hg_P wp hbox_ hb_; have n0_ := Aside0.mk (below_step HB0.out hb_); have BP := Aside0.mk hbox_; have GP := Aside0.mk (show w.heap.size ≤ gp by rw [hg_P]; exact below_size HB0.out); have EP := Aside0.mk hg_P; have hcp0 : wp.cell? ⟨gp, 0, none⟩ = some (.int .i64 x0) := (blk_cell hbox_ 0).trans rfl; have hfp0 := blk_frozen hbox_ 0; have hcp1 : wp.cell? ⟨gp, 1, none⟩ = some (.int .i64 x1) := (blk_cell hbox_ 1).trans rfl; have hfp1 := blk_frozen hbox_ 1; have hcp2 : wp.cell? ⟨gp, 2, none⟩ = some (.slice A2 l2.length c2) := (blk_cell hbox_ 2).trans rfl; have hfp2 := blk_frozen hbox_ 2; have HVp := Aside0.mk (HV.out.later hb_); have hcl0 := (blk_cell HVp.out.last 0).trans rfl; have hcr0 := (blk_cell HVp.out.rm 0).trans rfl; have hct0 := (blk_cell HVp.out.tk 0).trans rfl; clear HB0 hg_P hbox_ hb_; have HB0 := n0_; clear n0_) | ((with_reducible refine gate_ (op := .lookup 65 (.tmp 23) (.tmp 25) false) rfl ?_); (try (refine gate_guard (by rfl) ?_; dsimp only)); refine wpList_lookI _ rfl (.tmp 23) (.tmp 25) 65 false rfl 3 3 Try.underlying65 Try.underlying3 (Try.zeroValue3 _) gm (mapV vInt rooms) rfl HVp.out.mr x1 rfl ?_; rw [if_neg (by decide), show (Value.int IntKind.i64 0) = vInt 0 from rfl, mapV_get]; dsimp only [vInt]) | ((with_reducible refine gate_ (op := .lookup 66 (.tmp 29) (.tmp 31) false) rfl ?_); (try (refine gate_guard (by rfl) ?_; dsimp only)); refine wpList_lookI _ rfl (.tmp 29) (.tmp 31) 66 false rfl 3 4 Try.underlying66 Try.underlying3 (Try.zeroValue4 _) gj (mapV vBool T) rfl HVp.out.mt x1 rfl ?_; rw [if_neg (by decide), show (Value.bool false) = vBool false from rfl, mapV_get, HT5.out]; dsimp only [vBool]))
  go_ret
  rw [HX.out]
  exact ⟨rfl, HVp.out.below, fun h => Bool.noConfusion h⟩
 | false =>
  have HX := Aside0.mk (show partyOk rooms q T x0 x1 l2 = wantsOk rooms l2 by rw [HPO.out, decide_eq_true b4, b5]; simp)
  have HT5 := Aside0.mk b5
  clear b3 b4 b5
  go_enter Try.func43, Try.ntmps43
  go_upto_region 3 with (first | ((with_reducible refine gate_dst (N := 4) rfl ?_); refine box_event ?hg (N := 4) ?hd (cs := #[.int .i64 x0, .int .i64 x1, .slice A2 l2.length c2]) (t := 46) ?hr ?_; (case hd => rfl); (case hg => rfl); (case hr => first | (go_simp; done) | (go_simp; rfl)); intro gp hg_P wp hbox_ hb_; have n0_ := Aside0.mk (below_step HB0.out hb_); have BP := Aside0.mk hbox_; have GP := Aside0.mk (show w.heap.size ≤ gp by rw [hg_P]; exact below_size HB0.out); have EP := Aside0.mk hg_P; have hcp0 : wp.cell? ⟨gp, 0, none⟩ = some (.int .i64 x0) := (blk_cell hbox_ 0).trans rfl; have hfp0 := blk_frozen hbox_ 0; have hcp1 : wp.cell? ⟨gp, 1, none⟩ = some (.int .i64 x1) := (blk_cell hbox_ 1).trans rfl; have hfp1 := blk_frozen hbox_ 1; have hcp2 : wp.cell? ⟨gp, 2, none⟩ = some (.slice A2 l2.length c2) := (blk_cell hbox_ 2).trans rfl; have hfp2 := blk_frozen hbox_ 2; have HVp := Aside0.mk (HV.out.later hb_); have hcl0 := (blk_cell HVp.out.last 0).trans rfl; have hcr0 := (blk_cell HVp.out.rm 0).trans rfl; have hct0 := (blk_cell HVp.out.tk 0).trans rfl; clear HB0 hg_P hbox_ hb_; have HB0 := n0_; clear n0_) | ((with_reducible refine gate_ (op := .lookup 65 (.tmp 23) (.tmp 25) false) rfl ?_); (try (refine gate_guard (by rfl) ?_; dsimp only)); refine wpList_lookI _ rfl (.tmp 23) (.tmp 25) 65 false rfl 3 3 Try.underlying65 Try.underlying3 (Try.zeroValue3 _) gm (mapV vInt rooms) rfl HVp.out.mr x1 rfl ?_; rw [if_neg (by decide), show (Value.int IntKind.i64 0) = vInt 0 from rfl, mapV_get]; dsimp only [vInt]) | ((with_reducible refine gate_ (op := .lookup 66 (.tmp 29) (.tmp 31) false) rfl ?_); (try (refine gate_guard (by rfl) ?_; dsimp only)); refine wpList_lookI _ rfl (.tmp 29) (.tmp 31) 66 false rfl 3 4 Try.underlying66 Try.underlying3 (Try.zeroValue4 _) gj (mapV vBool T) rfl HVp.out.mt x1 rfl ?_; rw [if_neg (by decide), show (Value.bool false) = vBool false from rfl, mapV_get, HT5.out]; dsimp only [vBool]))
  have hfl0 := blk_frozen HVp.out.last 0
  refine start_ (n := 7) (S := fun w' => w'.cell? ⟨gt, 0, none⟩ = some (.map (some gj)) ∧ w'.cell? ⟨gp, 0, none⟩ = some (.int .i64 x0) ∧ w'.cell? ⟨gp, 1, none⟩ = some (.int .i64 x1)) (ds := [6]) #[n_, n_, n_, n_, n_, n_, n_] (by kernel_rfl) rfl rfl ⟨hct0, hcp0, hcp1⟩ (fun hHeld => ?_)
  refine pv_ 1 37 (w_ 7 2) rfl ?_
  refine pv_ 3 39 (w_ 7 10) rfl ?_
  refine tb_ 0 36 (w_ 7 11) rfl hHeld (by rintro w' ⟨s0, s1, s2⟩; go_simp; with_reducible rfl) ?_
  refine tb_ 2 38 (w_ 7 15) rfl hHeld (by rintro w' ⟨s0, s1, s2⟩; go_simp; with_reducible rfl) ?_
  refine tb_ 4 40 (w_ 7 31) rfl hHeld (by rintro w' ⟨s0, s1, s2⟩; go_simp; with_reducible rfl) ?_
  refine one_ (i := 5) (N := none) (w_ 7 63) rfl rfl (by kernel_rfl) (by decide) (fun K hK => ?_)
  obtain ⟨w11, hrun_, hm_, hg_⟩ := run_storeI (P := Try.prog) (t := 66) (kt := 3) (et := 4) HVp.out.mt.drew Try.underlying66 Try.underlying3 x1 (.bool true)
  have HM11 := Aside0.mk hm_
  have HG11 := Aside0.mk hg_
  refine skip_ (w1 := w11) (by rfl) rfl ?_ ?_
  ·go_simp
   try (first | (rw [hrun_]; done) | (rw [hrun_]; rfl) | rfl)
  clear hrun_ hm_ hg_
  have BT11 := Aside0.mk (blk_grown (show wp.drew.heap[gt]? = _ from HVp.out.tk) HG11.out (HVp.out.mt.ne_blk HVp.out.tk))
  have BP11 := Aside0.mk (blk_grown (show wp.drew.heap[gp]? = _ from BP.out) HG11.out (HVp.out.mt.ne_blk BP.out))
  have BL11 := Aside0.mk (blk_grown (show wp.drew.heap[gl]? = _ from HVp.out.last) HG11.out (HVp.out.mt.ne_blk HVp.out.last))
  have hql0 := (blk_cell BL11.out 0).trans rfl
  have hqf0 := blk_frozen BL11.out 0
  refine hK.out _ _ ⟨(blk_cell BT11.out 0).trans rfl, (blk_cell BP11.out 0).trans rfl, (blk_cell BP11.out 1).trans rfl⟩ (fun hHeld => ?_)
  clear hK K
  refine last_ (i := 6) (N := none) (w_ 7 127) rfl rfl (by kernel_rfl) (by decide) (fun K hK => ?_)
  refine skip_ (w1 := ?_) (by rfl) rfl ?_ ?_
  rotate_left
  ·go_simp
   rfl
  refine hK.out _ _ ?_
  clear hK K
  refine done_ (by kernel_rfl) ?_
  go_upto_region 4 with (fail)
  obtain ⟨w12, hw12⟩ : ∃ w12, w12 = w11.setCell ⟨gl, 0, none⟩ (.int .i64 x0) := ⟨_, rfl⟩
  rw [← hw12]
  have HV12 := Aside0.mk (show VS w0 w12 gl gr gt gm gj rooms x0 (upd T x1 true) by rw [hw12]; exact VS.taken (HVp.out.later (below_drew (Below.refl _ _))) HM11.out HG11.out)
  have BP12 := Aside0.mk (show w12.heap[gp]? = some (.cells #[.int .i64 x0, .int .i64 x1, .slice A2 l2.length c2] 46 (0, 0)) by rw [hw12]; exact (Below.heap_setCell _ _ _ _ (blk_ne BP11.out BL11.out (by decide))).trans BP11.out)
  clear hcp0 hcp1 hcp2 hfp0 hfp1 hfp2 hcl0 hcr0 hct0 hfl0 hql0 hqf0 hHeld hw12
  have hcp2 : (w12.alloc (Obj.map #[] 0)).cell? ⟨gp, 2, none⟩ = some (.slice A2 l2.length c2) := (blk_cell (blk_below BP12.out (below_alloc (Below.refl _ _) _)) 2).trans rfl
  go_wp2
  obtain ⟨gs, hgs⟩ : ∃ gs, gs = w12.heap.size := ⟨_, rfl⟩
  obtain ⟨w13, hw13⟩ : ∃ w13, w13 = w12.alloc (Obj.map #[] 0) := ⟨_, rfl⟩
  rw [← hgs, ← hw13]
  have HV13 := Aside0.mk (show VS w0 w13 gl gr gt gm gj rooms x0 (upd T x1 true) by rw [hw13]; exact HV12.out.later (below_alloc (Below.refl _ _) _))
  have HS13 := Aside0.mk (show MapI w13 gs (mapV vBool (seenM l2 0)) by rw [hw13, hgs]; exact (MapI.made w12).none_ vBool)
  have HNE := Aside0.mk (show gm ≠ gs ∧ gj ≠ gs ∧ w0.heap.size ≤ gs from ⟨by have := HV12.out.mr.lt; omega, by have := HV12.out.mt.lt; omega, by have := below_size HV12.out.below; omega⟩)
  have HCA := Aside0.mk (Kd.C_below HR2.out HV13.out.below)
  clear hw13 hgs HV12 BP12 hcp2
  go_loopg [45] l2.length (fun kq v45 wr => ∃ (n : Nat), v45 = .int .i64 n ∧ Aside0 (kq + n = l2.length) ∧ Aside0 (∀ j, j < n → wantAt rooms l2 j = true) ∧ Aside0 (VS w0 wr gl gr gt gm gj rooms x0 (upd T x1 true)) ∧ Aside0 (MapI wr gs (mapV vBool (seenM l2 n))))
  case atStart => exact ⟨0, rfl, ⟨by omega⟩, ⟨fun j hj => absurd hj (by omega)⟩, HV13, HS13⟩
  case round =>
   clear HV13 HS13 HCA
   obtain ⟨n, rfl, HK, HA, HVR, HS⟩ := hrel
   by_cases hlt : n < l2.length
   ·obtain ⟨i, hi⟩ : ∃ i : Int, i = (n : Int) := ⟨_, rfl⟩
    rw [← hi]
    have HI2 := Aside0.mk (show 0 ≤ i ∧ i < l2.length ∧ i = (n : Int) from ⟨by omega, by omega, hi⟩)
    have d7 : decide (i < (l2.length : Int)) = true := decide_eq_true HI2.out.2.1
    have ci2 : (0 ≤ i) = True := eq_true HI2.out.1
    have ci3 : (i < l2.length) = True := eq_true HI2.out.2.1
    obtain ⟨adw, ew, hy0⟩ := Kd.at_int (Kd.C_below HR2.out HVR.out.below) i HI2.out.1 HI2.out.2.1
    subst ew
    obtain ⟨k, hk⟩ : ∃ k, k = rd l2 i := ⟨_, rfl⟩
    rw [← hk] at hy0
    have HKK := Aside0.mk (show rd l2 (n : Int) = k by rw [hk, hi])
    have hz1 : i + 1 ≤ 9223372036854775807 := by have := HI2.out; have := HN.out; omega
    have hz2 : -9223372036854775808 ≤ i + 1 := by have := HI2.out; omega
    have HLT := Aside0.mk hlt
    have HWA := Aside0.mk (show wantAt rooms l2 n = (decide ((rooms k).getD 0 ≠ 0) && !(seenM l2 n k).getD false) by unfold wantAt; rw [HKK.out])
    have hcrr : wr.cell? ⟨gr, 0, none⟩ = some (.map (some gm)) := (blk_cell HVR.out.rm 0).trans rfl
    clear hi hlt hk
    by_cases c1 : (rooms k).getD 0 = 0
    ·have u1 : ((rooms k).getD 0 == 0) = true := beq_iff_eq.2 c1
     have HF := Aside0.mk (wantsOk_false HLT.out (show wantAt rooms l2 n = false by rw [HWA.out, decide_eq_false (by simpa using c1)]; rfl))
     clear c1
     go_wp2_with (first | ((with_reducible refine gate_ (op := .lookup 65 (.tmp 49) (.tmp 50) false) rfl ?_); refine wpList_lookI _ rfl (.tmp 49) (.tmp 50) 65 false rfl 3 3 Try.underlying65 Try.underlying3 (Try.zeroValue3 _) gm (mapV vInt rooms) rfl HVR.out.mr k rfl ?_; rw [if_neg (by decide), show (Value.int IntKind.i64 0) = vInt 0 from rfl, mapV_get]; dsimp only [vInt]))
     go_ret
     rw [HX.out, HF.out]
     exact ⟨rfl, HVR.out.below, fun h => Bool.noConfusion h⟩
    have u1 : ((rooms k).getD 0 == 0) = false := beq_eq_false_iff_ne.2 c1
    cases c2 : (seenM l2 n k).getD false with
    | true =>
     have HF := Aside0.mk (wantsOk_false HLT.out (show wantAt rooms l2 n = false by rw [HWA.out, c2]; simp))
     have HC2 := Aside0.mk c2
     clear c1 c2
     go_wp2_with (first | ((with_reducible refine gate_ (op := .lookup 65 (.tmp 49) (.tmp 50) false) rfl ?_); refine wpList_lookI _ rfl (.tmp 49) (.tmp 50) 65 false rfl 3 3 Try.underlying65 Try.underlying3 (Try.zeroValue3 _) gm (mapV vInt rooms) rfl HVR.out.mr k rfl ?_; rw [if_neg (by decide), show (Value.int IntKind.i64 0) = vInt 0 from rfl, mapV_get]; dsimp only [vInt]) | ((with_reducible refine gate_ (op := .lookup 66 (.tmp 54) (.tmp 55) false) rfl ?_); (try (refine gate_guard (by rfl) ?_; dsimp only)); refine wpList_lookI _ rfl (.tmp 54) (.tmp 55) 66 false rfl 3 4 Try.underlying66 Try.underlying3 (Try.zeroValue4 _) gs (mapV vBool (seenM l2 n)) rfl HS.out k rfl ?_; rw [if_neg (by decide), show (Value.bool false) = vBool false from rfl, mapV_get, HC2.out]; dsimp only [vBool]))
     go_ret
     rw [HX.out, HF.out]
     exact ⟨rfl, HVR.out.below, fun h => Bool.noConfusion h⟩
    | false =>
     have HF := Aside0.mk (show wantAt rooms l2 n = true by rw [HWA.out, c2, decide_eq_true c1]; rfl)
     have HC2 := Aside0.mk c2
     clear c1 c2
     go_wp2_with (first | ((with_reducible refine gate_ (op := .lookup 65 (.tmp 49) (.tmp 50) false) rfl ?_); refine wpList_lookI _ rfl (.tmp 49) (.tmp 50) 65 false rfl 3 3 Try.underlying65 Try.underlying3 (Try.zeroValue3 _) gm (mapV vInt rooms) rfl HVR.out.mr k rfl ?_; rw [if_neg (by decide), show (Value.int IntKind.i64 0) = vInt 0 from rfl, mapV_get]; dsimp only [vInt]) | ((with_reducible refine gate_ (op := .lookup 66 (.tmp 54) (.tmp 55) false) rfl ?_); (try (refine gate_guard (by rfl) ?_; dsimp only)); refine wpList_lookI _ rfl (.tmp 54) (.tmp 55) 66 false rfl 3 4 Try.underlying66 Try.underlying3 (Try.zeroValue4 _) gs (mapV vBool (seenM l2 n)) rfl HS.out k rfl ?_; rw [if_neg (by decide), show (Value.bool false) = vBool false from rfl, mapV_get, HC2.out]; dsimp only [vBool]) | ((with_reducible refine gate_ (op := .mapUpdate 66 (.tmp 58) (.tmp 59) (.const (.bool true))) rfl ?_); refine wpList_storeI _ rfl (.tmp 58) (.tmp 59) (.const (.bool true)) 66 rfl 3 4 Try.underlying66 Try.underlying3 gs (mapV vBool (seenM l2 n)) rfl HS.out k rfl (.bool true) rfl ?_; intro w14 hm_ hg_; have HS14 := Aside0.mk (show MapI w14 gs (mapV vBool (seenM l2 (n + 1))) from hm_.eq fun x => (mapV_set vBool (seenM l2 n) k true x).trans (by unfold seenM; rw [foldM_succ]; simp only [HKK.out])); have HV14 := Aside0.mk (HVR.out.map HS.out HNE.out.1 HNE.out.2.1 HNE.out.2.2 hg_); clear hm_ hg_))
     go_roundg (gk - 1)
     case measure => have := HK.out; have := HLT.out; omega
     case rel =>
      refine ⟨n + 1, ?_, ⟨by have := HK.out; have := HLT.out; omega⟩, ⟨fun j hj => ?_⟩, HV14, HS14⟩
      ·have := HI2.out
       first | (rw [show ((n + 1 : Nat) : Int) = i + 1 from by omega]; done) | (simp; omega)
      ·by_cases e : j = n
       ·rw [e]; exact HF.out
       ·exact HA.out j (by omega)
   ·have d7 : decide ((n : Int) < (l2.length : Int)) = false := decide_eq_false (by omega)
    have d7' : decide (n < l2.length) = false := decide_eq_false hlt
    have hnl : n = l2.length := by have := HK.out; omega
    rw [hnl] at HA
    have HF := Aside0.mk (wantsOk_true HA.out)
    clear hlt hnl
    go_wp2
    go_ret
    rw [HX.out, HF.out]
    exact ⟨rfl, HVR.out.below, fun _ => HVR.out⟩
def lastP (l : List S46) (n : Nat) : Int := if n = 0 then 0 else (rd_T46 l ((n - 1 : Nat) : Int)).f0
theorem lastP_succ (l : List S46) (n : Nat) : lastP l (n + 1) = (rd_T46 l (n : Int)).f0 := by
 unfold lastP
 rw [if_neg (by omega)]
 rfl
def takenM (l : List S46) (n : Nat) : Int → Option Bool := foldM (fun j => (rd_T46 l (j : Int)).f1) (fun _ => true) n
def partyAt (fl : List S84) (l : List S46) (n : Nat) : Bool := partyOk (roomsM fl fl.length) (lastP l n) (takenM l n) (rd_T46 l (n : Int)).f0 (rd_T46 l (n : Int)).f1 (rd_T46 l (n : Int)).f2
def marketOk (fl : List S84) (l : List S46) : Bool := flatsOk fl && (List.range l.length).all (partyAt fl l)
theorem marketOk_flats {fl : List S84} (l : List S46) (h : flatsOk fl = false) : marketOk fl l = false := by unfold marketOk; rw [h]; rfl
theorem marketOk_false {fl : List S84} {l : List S46} {n : Nat} (hn : n < l.length) (h : partyAt fl l n = false) : marketOk fl l = false := by
 have : (List.range l.length).all (partyAt fl l) = false := by
  rw [List.all_eq_false]
  exact ⟨n, List.mem_range.2 hn, by simp [h]⟩
 unfold marketOk
 rw [this, Bool.and_false]
theorem marketOk_true {fl : List S84} {l : List S46} (hf : flatsOk fl = true) (h : ∀ j, j < l.length → partyAt fl l j = true) : marketOk fl l = true := by
 have : (List.range l.length).all (partyAt fl l) = true := by
  rw [List.all_eq_true]
  exact fun j hj => h j (List.mem_range.1 hj)
 unfold marketOk
 rw [this, hf]
 rfl
def fewM (fl : List S84) (l : List S46) : Bool := decide (fl.length ≤ 1000000000 ∧ l.length ≤ 1000000000) && l.all (fun p => decide (p.f2.length ≤ 1000000000000))
theorem fewM_at {fl : List S84} {l : List S46} (h : fewM fl l = true) : fl.length ≤ 1000000000 ∧ l.length ≤ 1000000000 ∧ ∀ i : Int, 0 ≤ i → i < l.length → (rd_T46 l i).f2.length ≤ 1000000000000 := by
 unfold fewM at h
 rw [Bool.and_eq_true, decide_eq_true_iff, List.all_eq_true] at h
 refine ⟨h.1.1, h.1.2, fun i h0 h1 => ?_⟩
 have h2 : i.toNat < l.length := by omega
 have := h.2 (l[i.toNat]'h2) (List.getElem_mem _)
 simpa [rd_T46, List.getD_eq_getElem?_getD, h2] using this
def market_Valid.f (l0_0 : List (S84)) (l0_1 : List (S46)) : Option Bool := if fewM l0_0 l0_1 = true then some (marketOk l0_0 l0_1) else none
theorem market_Valid.calls (A0 : Option Addr) (c0 : Nat) (l0 : List (S84)) (A1 : Option Addr) (c1 : Nat) (l1 : List (S46)) (r : Bool) (w : World) (hr0 : Kd.C k84 w A0 l0.length l0) (hc0 : l0.length ≤ c0) (hr1 : Kd.C k46 w A1 l1.length l1) (hc1 : l1.length ≤ c1) (h : market_Valid.f l0 l1 = some r) :
  Calls Try.prog 22 #[.agg #[.slice A0 l0.length c0, .slice A1 l1.length c1]] w fun e w' => e = .returned (.bool r) ∧ Below w.heap.size w w' := by
 have hu25 := Try.underlying25
 have hu46 := Try.underlying46
 have hu65 := Try.underlying65
 have hu66 := Try.underlying66
 unfold market_Valid.f at h
 by_cases hf : fewM l0 l1 = true
 case neg => rw [if_neg hf] at h; cases h
 rw [if_pos hf] at h
 have hr := Option.some.inj h
 subst hr
 clear h
 have HFW := Aside0.mk (fewM_at hf)
 have HR0 := Aside0.mk hr0
 have HC0 := Aside0.mk hc0
 have HR1 := Aside0.mk hr1
 have HC1 := Aside0.mk hc1
 have HB := Aside0.mk (Below.refl w.heap.size w)
 have hmm := @run_makeMap Try.prog
 clear hr0 hc0 hr1 hc1 hf
 cases hx : flatsOk l0 with
 | false =>
  have HX := Aside0.mk hx
  have HY := Aside0.mk (marketOk_flats l1 hx)
  clear hx
  go_enter Try.func22, Try.ntmps22
  go_wp2_with (first | ((with_reducible refine gate_dst (N := 1) rfl ?_); refine box_event ?hg (N := 1) ?hd (cs := #[.slice A0 l0.length c0, .slice A1 l1.length c1]) (t := 25) ?hr ?_; (case hd => rfl); (case hg => rfl); (case hr => first | (go_simp; done) | (go_simp; rfl)); intro gM hg_M w1 hbox_ hb_; have n0_ := Aside0.mk (below_step HB.out hb_); have BM := Aside0.mk hbox_; have GM := Aside0.mk (show w.heap.size ≤ gM by rw [hg_M]; exact below_size HB.out); have EM := Aside0.mk hg_M; have hcM0 : w1.cell? ⟨gM, 0, none⟩ = some (.slice A0 l0.length c0) := (blk_cell hbox_ 0).trans rfl; have hfM0 := blk_frozen hbox_ 0; have hcM1 : w1.cell? ⟨gM, 1, none⟩ = some (.slice A1 l1.length c1) := (blk_cell hbox_ 1).trans rfl; have hfM1 := blk_frozen hbox_ 1; have BMk := Aside0.mk hbox_; clear HB hg_M hbox_ hb_; have HB := n0_; clear n0_) | (go_at_call 42; (with_reducible refine (flats_calls A0 c0 l0 _ (Kd.C_below HR0.out HB.out) HC0.out HFW.out.1).mono ?_); rw [HX.out]; rintro e w2 ⟨mv, rfl, hf_, hb_⟩; have n0_ := Aside0.mk (below_step HB.out hb_); clear HB hb_ hf_; have HB := n0_; clear n0_) | ((with_reducible refine gate_dst (N := 3) rfl ?_); refine box_event ?hg (N := 3) ?hd (cs := #[.map none]) (t := 65) ?hr ?_; (case hd => rfl); (case hg => rfl); (case hr => first | (go_simp; done) | (go_simp; rfl)); intro gr hg_R w3 hbox_ hb_; have n0_ := Aside0.mk (below_step HB.out hb_); have BR := Aside0.mk hbox_; have GR := Aside0.mk (show w.heap.size ≤ gr by rw [hg_R]; exact below_size HB.out); have ER := Aside0.mk hg_R; have hcR0 : w3.cell? ⟨gr, 0, none⟩ = some (.map none) := (blk_cell hbox_ 0).trans rfl; have hfR0 := blk_frozen hbox_ 0; clear HB hg_R hbox_ hb_; have HB := n0_; clear n0_))
  go_ret
  rw [HY.out]
  exact ⟨rfl, below_set HB.out GR.out⟩
 | true =>
  have HX := Aside0.mk hx
  clear hx
  go_enter Try.func22, Try.ntmps22
  go_upto_region 2 with (first | ((with_reducible refine gate_dst (N := 1) rfl ?_); refine box_event ?hg (N := 1) ?hd (cs := #[.slice A0 l0.length c0, .slice A1 l1.length c1]) (t := 25) ?hr ?_; (case hd => rfl); (case hg => rfl); (case hr => first | (go_simp; done) | (go_simp; rfl)); intro gM hg_M w1 hbox_ hb_; have n0_ := Aside0.mk (below_step HB.out hb_); have BM := Aside0.mk hbox_; have GM := Aside0.mk (show w.heap.size ≤ gM by rw [hg_M]; exact below_size HB.out); have EM := Aside0.mk hg_M; have hcM0 : w1.cell? ⟨gM, 0, none⟩ = some (.slice A0 l0.length c0) := (blk_cell hbox_ 0).trans rfl; have hfM0 := blk_frozen hbox_ 0; have hcM1 : w1.cell? ⟨gM, 1, none⟩ = some (.slice A1 l1.length c1) := (blk_cell hbox_ 1).trans rfl; have hfM1 := blk_frozen hbox_ 1; have BMk := Aside0.mk hbox_; clear HB hg_M hbox_ hb_; have HB := n0_; clear n0_) | (go_at_call 42; (with_reducible refine (flats_calls A0 c0 l0 _ (Kd.C_below HR0.out HB.out) HC0.out HFW.out.1).mono ?_); rw [HX.out]; rintro e w2 ⟨mv, rfl, hf_, hb_⟩; obtain ⟨gm, rfl, hgm_, hm_⟩ := hf_ rfl; have HM := Aside0.mk hm_; have BMk := Aside0.mk (blk_below BMk.out hb_); replace hcM0 := (hb_.cell (World.block_lt_of_cell? _ _ hcM0)).trans hcM0; replace hcM1 := (hb_.cell (World.block_lt_of_cell? _ _ hcM1)).trans hcM1; have n0_ := Aside0.mk (below_step HB.out hb_); clear HB hb_ hf_ hgm_ hm_; have HB := n0_; clear n0_) | ((with_reducible refine gate_dst (N := 3) rfl ?_); refine box_event ?hg (N := 3) ?hd (cs := #[.map none]) (t := 65) ?hr ?_; (case hd => rfl); (case hg => rfl); (case hr => first | (go_simp; done) | (go_simp; rfl)); intro gr hg_R w3 hbox_ hb_; have n0_ := Aside0.mk (below_step HB.out hb_); have BR := Aside0.mk hbox_; have GR := Aside0.mk (show w.heap.size ≤ gr by rw [hg_R]; exact below_size HB.out); have ER := Aside0.mk hg_R; have hcR0 : w3.cell? ⟨gr, 0, none⟩ = some (.map none) := (blk_cell hbox_ 0).trans rfl; have hfR0 := blk_frozen hbox_ 0; have HM := Aside0.mk (HM.out.below hb_); have NMR := Aside0.mk (show gM ≠ gr by have := blk_lt BMk.out; omega); have BMk := Aside0.mk (blk_below BMk.out hb_); replace hcM0 := (hb_.cell (World.block_lt_of_cell? _ _ hcM0)).trans hcM0; replace hcM1 := (hb_.cell (World.block_lt_of_cell? _ _ hcM1)).trans hcM1; clear HB hg_R hbox_ hb_; have HB := n0_; clear n0_))
  obtain ⟨w4, hw4⟩ : ∃ w4, w4 = w3.setCell ⟨gr, 0, none⟩ (.map (some gm)) := ⟨_, rfl⟩
  rw [← hw4]
  have HB4 := Aside0.mk (show Below w.heap.size w w4 by rw [hw4]; exact below_set HB.out GR.out)
  have BR4 := Aside0.mk (show w4.heap[gr]? = some (.cells #[.map (some gm)] 65 (0, 0)) by rw [hw4]; exact blk_put BR.out 0 _ rfl)
  have HM4 := Aside0.mk (show MapI w4 gm (mapV vInt (roomsM l0 l0.length)) by rw [hw4]; exact HM.out.move (Below.heap_setCell _ _ _ _ (fun e => HM.out.ne_blk BR.out (by rw [e]))))
  have BM4 := Aside0.mk (show w4.heap[gM]? = some (.cells #[.slice A0 l0.length c0, .slice A1 l1.length c1] 25 (0, 0)) by rw [hw4]; exact (Below.heap_setCell _ _ _ _ NMR.out).trans BMk.out)
  clear hw4 HB HM BR BMk hcR0 hfR0 hcM0 hcM1
  go_upto_region 4 with (fail)
  have hb5 : Below w4.heap.size w4 (w4.alloc (Obj.map #[] 0)) := below_alloc (Below.refl _ _) _
  have HB := Aside0.mk (below_step HB4.out hb5)
  have BR := Aside0.mk (blk_below BR4.out hb5)
  have HM := Aside0.mk (HM4.out.below hb5)
  have BMk := Aside0.mk (blk_below BM4.out hb5)
  have HJ := Aside0.mk (show MapI (w4.alloc (Obj.map #[] 0)) w4.heap.size (mapV vBool (takenM l1 0)) from (MapI.made w4).none_ vBool)
  have HNE0 := Aside0.mk (show gm ≠ w4.heap.size ∧ w.heap.size ≤ w4.heap.size from ⟨by have := HM4.out.lt; omega, below_size HB4.out⟩)
  clear HB4 BR4 HM4 BM4 hb5
  go_upto_region 5 with (first | ((with_reducible refine gate_dst (N := 5) rfl ?_); refine box_event ?hg (N := 5) ?hd (cs := #[.map none]) (t := 66) ?hr ?_; (case hd => rfl); (case hg => rfl); (case hr => first | (go_simp; done) | (go_simp; rfl)); intro gt hg_T w6 hbox_ hb_; have n0_ := Aside0.mk (below_step HB.out hb_); have BT := Aside0.mk hbox_; have GT := Aside0.mk (show w.heap.size ≤ gt by rw [hg_T]; exact below_size HB.out); have ET := Aside0.mk hg_T; have hcT0 : w6.cell? ⟨gt, 0, none⟩ = some (.map none) := (blk_cell hbox_ 0).trans rfl; have hfT0 := blk_frozen hbox_ 0; have HM := Aside0.mk (HM.out.below hb_); have HJ := Aside0.mk (HJ.out.below hb_); have BR := Aside0.mk (blk_below BR.out hb_); have BMk := Aside0.mk (blk_below BMk.out hb_); clear HB hg_T hbox_ hb_; have HB := n0_; clear n0_) | ((with_reducible refine gate_dst (N := 6) rfl ?_); refine box_event ?hg (N := 6) ?hd (cs := #[.int .i64 0]) (t := 3) ?hr ?_; (case hd => rfl); (case hg => rfl); (case hr => first | (go_simp; done) | (go_simp; rfl)); intro gl hg_L w7 hbox_ hb_; have n0_ := Aside0.mk (below_step HB.out hb_); have BL := Aside0.mk hbox_; have GL := Aside0.mk (show w.heap.size ≤ gl by rw [hg_L]; exact below_size HB.out); have EL := Aside0.mk hg_L; have hcL0 : w7.cell? ⟨gl, 0, none⟩ = some (.int .i64 0) := (blk_cell hbox_ 0).trans rfl; have hfL0 := blk_frozen hbox_ 0; have HM := Aside0.mk (HM.out.below hb_); have HJ := Aside0.mk (HJ.out.below hb_); have BR := Aside0.mk (blk_below BR.out hb_); have BMk := Aside0.mk (blk_below BMk.out hb_); have BT := Aside0.mk (blk_below BT.out hb_); replace hcT0 := (hb_.cell (World.block_lt_of_cell? _ _ hcT0)).trans hcT0; replace hfT0 := blk_frozen BT.out 0; have hne1_ : (gt = gl) = False := eq_false (by have := blk_lt BT.out; have := blk_ne BT.out hbox_ (by decide); exact this); have hne2_ : (gl = gt) = False := eq_false (fun e => by have := blk_ne BT.out hbox_ (by decide); exact this e.symm); clear HB hg_L hbox_ hb_; have HB := n0_; clear n0_))
  obtain ⟨gj, hgj⟩ : ∃ gj, gj = w4.heap.size := ⟨_, rfl⟩
  rw [← hgj]
  obtain ⟨w8, hw8⟩ : ∃ w8, w8 = (w7.setCell ⟨gt, 0, none⟩ (.map (some gj))).setCell ⟨gl, 0, none⟩ (.int .i64 0) := ⟨_, rfl⟩
  rw [← hw8]
  have HV8 := Aside0.mk (show VS w w8 gl gr gt gm gj (roomsM l0 l0.length) (lastP l1 0) (takenM l1 0) by
   have HJ' := HJ.out
   have hne := HNE0.out
   rw [← hgj] at HJ' hne
   have far : ∀ {g t : Nat} {cs : Array Value}, w7.heap[g]? = some (.cells cs t (0, 0)) → g ≠ gt → g ≠ gl → w8.heap[g]? = some (.cells cs t (0, 0)) := fun h h1 h2 => by
    rw [hw8]
    exact (Below.heap_setCell _ _ _ _ h2).trans ((Below.heap_setCell _ _ _ _ h1).trans h)
   have m8 : ∀ {b : Nat} {m : Int → Option Value}, MapI w7 b m → MapI w8 b m := fun {b m} h => by
    rw [hw8]
    refine (h.move (Below.heap_setCell w7 ⟨gt, 0, none⟩ (.map (some gj)) b (fun e => h.ne_blk BT.out (by rw [e])))).move (Below.heap_setCell _ ⟨gl, 0, none⟩ _ b (fun e => h.ne_blk BL.out (by rw [e])))
   refine ⟨?_, far BR.out (fun e => by have := blk_ne BR.out BT.out (by decide); exact this e) (fun e => by have := blk_ne BR.out BL.out (by decide); exact this e), ?_, m8 HM.out, m8 HJ', hne.1, ⟨GL.out, hne.2⟩, ?_⟩
   ·rw [hw8]
    exact blk_put ((Below.heap_setCell _ _ _ _ (fun e => by have := blk_ne BL.out BT.out (by decide); exact this e)).trans BL.out) 0 _ rfl
   ·rw [hw8]
    exact (Below.heap_setCell _ _ _ _ (fun e => by have := blk_ne BL.out BT.out (by decide); exact this e.symm)).trans (blk_put BT.out 0 _ rfl)
   ·rw [hw8]
    exact below_set (below_set HB.out GT.out) GL.out)
  have BM8 := Aside0.mk (show w8.heap[gM]? = some (.cells #[.slice A0 l0.length c0, .slice A1 l1.length c1] 25 (0, 0)) by
   rw [hw8]
   exact (Below.heap_setCell _ _ _ _ (fun e => by have := blk_ne BMk.out BL.out (by decide); exact this e)).trans ((Below.heap_setCell _ _ _ _ (fun e => by have := blk_ne BMk.out BT.out (by decide); exact this e)).trans BMk.out))
  have hcM1 : w8.cell? ⟨gM, 1, none⟩ = some (.slice A1 l1.length c1) := (blk_cell BM8.out 1).trans rfl
  clear hw8 hgj HB HM BR BMk HJ BT BL HNE0 GT GL
  go_wp2
  go_loopg [23] l1.length (fun kq v23 wr => ∃ (n : Nat), v23 = .int .i64 n ∧ Aside0 (kq + n = l1.length) ∧ Aside0 (∀ j, j < n → partyAt l0 l1 j = true) ∧ Aside0 (VS w wr gl gr gt gm gj (roomsM l0 l0.length) (lastP l1 n) (takenM l1 n)))
  case atStart => exact ⟨0, rfl, ⟨by omega⟩, ⟨fun j hj => absurd hj (by omega)⟩, HV8⟩
  case round =>
   clear HV8 hcM1 BM8
   obtain ⟨n, rfl, HK, HA, HVR⟩ := hrel
   by_cases hlt : n < l1.length
   ·obtain ⟨i, hi⟩ : ∃ i : Int, i = (n : Int) := ⟨_, rfl⟩
    rw [← hi]
    have HI2 := Aside0.mk (show 0 ≤ i ∧ i < l1.length ∧ i = (n : Int) from ⟨by omega, by omega, hi⟩)
    have d7 : decide (i < (l1.length : Int)) = true := decide_eq_true HI2.out.2.1
    have ci2 : (0 ≤ i) = True := eq_true HI2.out.1
    have ci3 : (i < l1.length) = True := eq_true HI2.out.2.1
    obtain ⟨adp, Ap, cp, ep, hx0, hx1, hx2, hpc, hpC⟩ := at_T46 HR1.out i HI2.out.1 HI2.out.2.1
    subst ep
    obtain ⟨p, hp⟩ : ∃ p, p = rd_T46 l1 i := ⟨_, rfl⟩
    have HPL := Aside0.mk (show p.f2.length ≤ 1000000000000 by rw [hp]; exact HFW.out.2.2 i HI2.out.1 HI2.out.2.1)
    rw [← hp] at hx0 hx1 hx2 hpc hpC
    have HPC := Aside0.mk (And.intro hpc hpC)
    replace hx0 := (HVR.out.below.cell (World.block_lt_of_cell? _ _ hx0)).trans hx0
    replace hx1 := (HVR.out.below.cell (World.block_lt_of_cell? _ _ hx1)).trans hx1
    replace hx2 := (HVR.out.below.cell (World.block_lt_of_cell? _ _ hx2)).trans hx2
    have HP := Aside0.mk (show rd_T46 l1 (n : Int) = p by rw [hp, hi])
    have hz1 : i + 1 ≤ 9223372036854775807 := by have := HI2.out; have := HFW.out.2.1; omega
    have hz2 : -9223372036854775808 ≤ i + 1 := by have := HI2.out; omega
    have HLT := Aside0.mk hlt
    have HPA := Aside0.mk (show partyAt l0 l1 n = partyOk (roomsM l0 l0.length) (lastP l1 n) (takenM l1 n) p.f0 p.f1 p.f2 by unfold partyAt; rw [HP.out])
    clear hi hlt hp hpc hpC
    have HB0 := Aside0.mk (Below.refl wr.heap.size wr)
    go_upto_region 9 with (first | ((with_reducible refine gate_dst (N := 9) rfl ?_); refine box_event ?hg (N := 9) ?hd (cs := #[.int .i64 0, .int .i64 0, .slice none 0 0]) (t := 46) ?hr ?_; (case hd => rfl); (case hg => rfl); (case hr => first | (go_simp; done) | (go_simp; rfl)); intro gp hg_P w9 hbox_ hb_; have n0_ := Aside0.mk (below_step HB0.out hb_); have BP := Aside0.mk hbox_; have GP := Aside0.mk (show wr.heap.size ≤ gp by rw [hg_P]; exact below_size HB0.out); have EP := Aside0.mk hg_P; have hcp0 : w9.cell? ⟨gp, 0, none⟩ = some (.int .i64 0) := (blk_cell hbox_ 0).trans rfl; have hfp0 := blk_frozen hbox_ 0; have hcp1 : w9.cell? ⟨gp, 1, none⟩ = some (.int .i64 0) := (blk_cell hbox_ 1).trans rfl; have hfp1 := blk_frozen hbox_ 1; have hcp2 : w9.cell? ⟨gp, 2, none⟩ = some (.slice none 0 0) := (blk_cell hbox_ 2).trans rfl; have hfp2 := blk_frozen hbox_ 2; replace hx0 := (hb_.cell (World.block_lt_of_cell? _ _ hx0)).trans hx0; replace hx1 := (hb_.cell (World.block_lt_of_cell? _ _ hx1)).trans hx1; replace hx2 := (hb_.cell (World.block_lt_of_cell? _ _ hx2)).trans hx2; clear HB0 hg_P hbox_ hb_; have HB0 := n0_; clear n0_))
    obtain ⟨w10, hw10⟩ : ∃ w10, w10 = ((w9.setCell ⟨gp, 0, none⟩ (.int .i64 p.f0)).setCell ⟨gp, 1, none⟩ (.int .i64 p.f1)).setCell ⟨gp, 2, none⟩ (.slice Ap p.f2.length cp) := ⟨_, rfl⟩
    rw [← hw10]
    have BP10 := Aside0.mk (show w10.heap[gp]? = some (.cells #[.int .i64 p.f0, .int .i64 p.f1, .slice Ap p.f2.length cp] 46 (0, 0)) by rw [hw10]; exact blk_put3 BP.out _ _ _)
    have HV10 := Aside0.mk (HVR.out.later (show Below wr.heap.size wr w10 by rw [hw10]; exact below_put3 HB0.out GP.out _ _ _))
    clear hw10 BP HB0 hcp0 hcp1 hcp2 hfp0 hfp1 hfp2 hx0 hx1 hx2
    have hcp0 : w10.cell? ⟨gp, 0, none⟩ = some (.int .i64 p.f0) := (blk_cell BP10.out 0).trans rfl
    have hcp1 : w10.cell? ⟨gp, 1, none⟩ = some (.int .i64 p.f1) := (blk_cell BP10.out 1).trans rfl
    have hcp2 : w10.cell? ⟨gp, 2, none⟩ = some (.slice Ap p.f2.length cp) := (blk_cell BP10.out 2).trans rfl
    cases hb : partyAt l0 l1 n with
    | false =>
     have HQ := Aside0.mk (marketOk_false HLT.out hb)
     rw [HPA.out] at hb
     have HPB := Aside0.mk hb
     clear hb
     go_wp2_with (first | ((with_reducible refine (valid1_calls w _ p.f0 p.f1 Ap cp p.f2 gl gr gt gm gj (roomsM l0 l0.length) (lastP l1 n) (takenM l1 n) HPC.out.2 HPC.out.1 HPL.out HV10.out).mono ?_); rw [HPB.out]; rintro e w11 ⟨rfl, hb_, hv_⟩; have HB11 := Aside0.mk hb_; have HV11 := Aside0.mk hv_; clear hb_ hv_))
     go_ret
     rw [HQ.out]
     exact ⟨rfl, HB11.out⟩
    | true =>
     have HQ := Aside0.mk hb
     rw [HPA.out] at hb
     have HPB := Aside0.mk hb
     clear hb
     go_wp2_with (first | ((with_reducible refine (valid1_calls w _ p.f0 p.f1 Ap cp p.f2 gl gr gt gm gj (roomsM l0 l0.length) (lastP l1 n) (takenM l1 n) HPC.out.2 HPC.out.1 HPL.out HV10.out).mono ?_); rw [HPB.out]; rintro e w11 ⟨rfl, hb_, hv_⟩; have HB11 := Aside0.mk hb_; have HV11 := Aside0.mk hv_; clear hb_ hv_))
     go_roundg (gk - 1)
     case measure => have := HK.out; have := HLT.out; omega
     case rel =>
      refine ⟨n + 1, ?_, ⟨by have := HK.out; have := HLT.out; omega⟩, ⟨fun j hj => ?_⟩, ⟨?_⟩⟩
      ·have := HI2.out
       first | (rw [show ((n + 1 : Nat) : Int) = i + 1 from by omega]; done) | (simp; omega)
      ·by_cases e : j = n
       ·rw [e]; exact HQ.out
       ·exact HA.out j (by omega)
      ·have h1 := HV11.out (by trivial)
       rw [lastP_succ, HP.out]
       unfold takenM
       rw [foldM_succ]
       simp only [HP.out]
       exact h1
   ·have d7 : decide ((n : Int) < (l1.length : Int)) = false := decide_eq_false (by omega)
    have d7' : decide (n < l1.length) = false := decide_eq_false hlt
    have hnl : n = l1.length := by have := HK.out; omega
    rw [hnl] at HA
    have HQ := Aside0.mk (marketOk_true HX.out HA.out)
    clear hlt hnl
    go_wp2
    go_ret
    rw [HQ.out]
    exact ⟨rfl, HVR.out.below⟩
end
section
open Go.Proofs.YtocbiggglnpeoaaH
def homesM (l : List S46) (n : Nat) : Int → Option Int := foldM (fun j => (rd_T46 l (j : Int)).f0) (fun j => (rd_T46 l (j : Int)).f1) n
def knownM (l : List S84) (n : Nat) : Int → Option Bool := foldM (fun j => (rd_T84 l (j : Int)).f0) (fun _ => true) n
def occM (l : List S46) (n : Nat) : Int → Option Bool := foldM (fun j => (rd_T46 l (j : Int)).f1) (fun j => (rd_T46 l (j : Int)).f1 != 0) n
structure Town (w : World) (base g1 g2 g3 : Nat) (H : Int → Option Int) (K T : Int → Option Bool) : Prop where
 flat : MapI w g1 (mapV vInt H)
 known : MapI w g2 (mapV vBool K)
 taken : MapI w g3 (mapV vBool T)
 lo : base ≤ g1 ∧ base ≤ g2 ∧ base ≤ g3
 ne : g1 ≠ g2 ∧ g1 ≠ g3 ∧ g2 ≠ g3
section
variable {w w' : World} {base g1 g2 g3 : Nat} {H : Int → Option Int} {K T : Int → Option Bool}
theorem Town.later (h : Town w base g1 g2 g3 H K T) (hb : Below w.heap.size w w') : Town w' base g1 g2 g3 H K T := ⟨h.flat.below hb, h.known.below hb, h.taken.below hb, h.lo, h.ne⟩
theorem Town.grown (h : Town w base g1 g2 g3 H K T) {row : Option Nat} (hg : w.grownBy w' row) (n1 : some g1 ≠ row) (n2 : some g2 ≠ row) (n3 : some g3 ≠ row) : Town w' base g1 g2 g3 H K T := ⟨h.flat.kept hg n1, h.known.kept hg n2, h.taken.kept hg n3, h.lo, h.ne⟩
theorem Town.put (h : Town w base g1 g2 g3 H K T) {g t : Nat} {cs : Array Value} (hb : w.heap[g]? = some (.cells cs t (0, 0))) (j : Nat) (u : Value) : Town (w.setCell ⟨g, j, none⟩ u) base g1 g2 g3 H K T :=
 ⟨h.flat.move (Below.heap_setCell _ _ _ _ (fun e => h.flat.ne_blk hb (by rw [e]))), h.known.move (Below.heap_setCell _ _ _ _ (fun e => h.known.ne_blk hb (by rw [e]))), h.taken.move (Below.heap_setCell _ _ _ _ (fun e => h.taken.ne_blk hb (by rw [e]))), h.lo, h.ne⟩
theorem Town.low (h : Town w base g1 g2 g3 H K T) {b : Nat} (hb : b ≤ base) : Town w b g1 g2 g3 H K T := ⟨h.flat, h.known, h.taken, ⟨Nat.le_trans hb h.lo.1, Nat.le_trans hb h.lo.2.1, Nat.le_trans hb h.lo.2.2⟩, h.ne⟩
end
structure TS (w0 w : World) (gR gT g1 g2 g3 : Nat) (H : Int → Option Int) (K T : Int → Option Bool) : Prop where
 res : w.heap[gR]? = some (.cells #[.map none, .map none, .map none] 68 (0, 0))
 cell : w.heap[gT]? = some (.cells #[.map (some g1), .map (some g2), .map (some g3)] 68 (0, 0))
 town : Town w w0.heap.size g1 g2 g3 H K T
 below : Below w0.heap.size w0 w
section
variable {w0 w w' : World} {gR gT g1 g2 g3 : Nat} {H : Int → Option Int} {K T : Int → Option Bool}
theorem TS.later (h : TS w0 w gR gT g1 g2 g3 H K T) (hb : Below w.heap.size w w') : TS w0 w' gR gT g1 g2 g3 H K T := ⟨blk_below h.res hb, blk_below h.cell hb, h.town.later hb, below_step h.below hb⟩
theorem TS.flat (h : TS w0 w gR gT g1 g2 g3 H K T) {k v : Int} (hm : MapI w' g1 (setM (mapV vInt H) k (.int .i64 v))) (hg : w.grownBy w' (some g1)) : TS w0 w' gR gT g1 g2 g3 (upd H k v) K T :=
 ⟨blk_grown h.res hg (h.town.flat.ne_blk h.res), blk_grown h.cell hg (h.town.flat.ne_blk h.cell), ⟨hm.eq (mapV_set vInt H k v), h.town.known.kept hg (fun e => h.town.ne.1 (by cases e; rfl)), h.town.taken.kept hg (fun e => h.town.ne.2.1 (by cases e; rfl)), h.town.lo, h.town.ne⟩, grown_below h.below hg (fun k e => by cases e; exact h.town.lo.1)⟩
theorem TS.known (h : TS w0 w gR gT g1 g2 g3 H K T) {k : Int} {v : Bool} (hm : MapI w' g2 (setM (mapV vBool K) k (.bool v))) (hg : w.grownBy w' (some g2)) : TS w0 w' gR gT g1 g2 g3 H (upd K k v) T :=
 ⟨blk_grown h.res hg (h.town.known.ne_blk h.res), blk_grown h.cell hg (h.town.known.ne_blk h.cell), ⟨h.town.flat.kept hg (fun e => h.town.ne.1 (by cases e; rfl)), hm.eq (mapV_set vBool K k v), h.town.taken.kept hg (fun e => h.town.ne.2.2 (by cases e; rfl)), h.town.lo, h.town.ne⟩, grown_below h.below hg (fun k e => by cases e; exact h.town.lo.2.1)⟩
theorem TS.taken (h : TS w0 w gR gT g1 g2 g3 H K T) {k : Int} {v : Bool} (hm : MapI w' g3 (setM (mapV vBool T) k (.bool v))) (hg : w.grownBy w' (some g3)) : TS w0 w' gR gT g1 g2 g3 H K (upd T k v) :=
 ⟨blk_grown h.res hg (h.town.taken.ne_blk h.res), blk_grown h.cell hg (h.town.taken.ne_blk h.cell), ⟨h.town.flat.kept hg (fun e => h.town.ne.2.1 (by cases e; rfl)), h.town.known.kept hg (fun e => h.town.ne.2.2 (by cases e; rfl)), hm.eq (mapV_set vBool T k v), h.town.lo, h.town.ne⟩, grown_below h.below hg (fun k e => by cases e; exact h.town.lo.2.2)⟩
end
theorem read_calls (A0 : Option Addr) (c0 : Nat) (l0 : List (S84)) (A1 : Option Addr) (c1 : Nat) (l1 : List (S46)) (w : World) (hr0 : Kd.C k84 w A0 l0.length l0) (hc0 : l0.length ≤ c0) (hr1 : Kd.C k46 w A1 l1.length l1) (hc1 : l1.length ≤ c1) (hf : fewM l0 l1 = true) :
  Calls Try.prog 30 #[.agg #[.slice A0 l0.length c0, .slice A1 l1.length c1]] w fun e w' => ∃ m1 m2 m3 : Option Nat, e = .returned (.tuple #[.agg #[.map m1, .map m2, .map m3], .bool (marketOk l0 l1)]) ∧ (marketOk l0 l1 = true → ∃ g1 g2 g3, m1 = some g1 ∧ m2 = some g2 ∧ m3 = some g3 ∧ Town w' w.heap.size g1 g2 g3 (homesM l1 l1.length) (knownM l0 l0.length) (occM l1 l1.length)) ∧ Below w.heap.size w w' := by
 have hu25 := Try.underlying25
 have hu46 := Try.underlying46
 have hu84 := Try.underlying84
 have hu68 := Try.underlying68
 have hu65 := Try.underlying65
 have hu66 := Try.underlying66
 have HFW := Aside0.mk (fewM_at hf)
 have HVF := Aside0.mk (show market_Valid.f l0 l1 = some (marketOk l0 l1) by unfold market_Valid.f; rw [if_pos hf])
 have HR0 := Aside0.mk hr0
 have HC0 := Aside0.mk hc0
 have HR1 := Aside0.mk hr1
 have HC1 := Aside0.mk hc1
 have HB := Aside0.mk (Below.refl w.heap.size w)
 have hmm := @run_makeMap Try.prog
 clear hr0 hc0 hr1 hc1 hf
 cases hx : marketOk l0 l1 with
 | false =>
  rw [hx] at HVF
  clear hx
  go_enter Try.func30, Try.ntmps30
  go_wp2_with (first | ((with_reducible refine gate_dst (N := 1) rfl ?_); refine box_event ?hg (N := 1) ?hd (cs := #[.slice A0 l0.length c0, .slice A1 l1.length c1]) (t := 25) ?hr ?_; (case hd => rfl); (case hg => rfl); (case hr => first | (go_simp; done) | (go_simp; rfl)); intro gM hg_M w1 hbox_ hb_; have n0_ := Aside0.mk (below_step HB.out hb_); have BM := Aside0.mk hbox_; have GM := Aside0.mk (show w.heap.size ≤ gM by rw [hg_M]; exact below_size HB.out); have EM := Aside0.mk hg_M; have hcM0 : w1.cell? ⟨gM, 0, none⟩ = some (.slice A0 l0.length c0) := (blk_cell hbox_ 0).trans rfl; have hfM0 := blk_frozen hbox_ 0; have hcM1 : w1.cell? ⟨gM, 1, none⟩ = some (.slice A1 l1.length c1) := (blk_cell hbox_ 1).trans rfl; have hfM1 := blk_frozen hbox_ 1; have BMk := Aside0.mk hbox_; clear HB hg_M hbox_ hb_; have HB := n0_; clear n0_) | ((with_reducible refine gate_dst (N := 2) rfl ?_); refine box_event ?hg (N := 2) ?hd (cs := #[.map none, .map none, .map none]) (t := 68) ?hr ?_; (case hd => rfl); (case hg => rfl); (case hr => first | (go_simp; done) | (go_simp; rfl)); intro gR hg_R w2 hbox_ hb_; have n0_ := Aside0.mk (below_step HB.out hb_); have BR := Aside0.mk hbox_; have GR := Aside0.mk (show w.heap.size ≤ gR by rw [hg_R]; exact below_size HB.out); have ER := Aside0.mk hg_R; have hcR0 : w2.cell? ⟨gR, 0, none⟩ = some (.map none) := (blk_cell hbox_ 0).trans rfl; have hfR0 := blk_frozen hbox_ 0; have hcR1 : w2.cell? ⟨gR, 1, none⟩ = some (.map none) := (blk_cell hbox_ 1).trans rfl; have hfR1 := blk_frozen hbox_ 1; have hcR2 : w2.cell? ⟨gR, 2, none⟩ = some (.map none) := (blk_cell hbox_ 2).trans rfl; have hfR2 := blk_frozen hbox_ 2; have BRr := Aside0.mk hbox_; have BMk := Aside0.mk (blk_below BMk.out hb_); replace hcM0 := (hb_.cell (World.block_lt_of_cell? _ _ hcM0)).trans hcM0; replace hcM1 := (hb_.cell (World.block_lt_of_cell? _ _ hcM1)).trans hcM1; clear HB hg_R hbox_ hb_; have HB := n0_; clear n0_) | (go_at_call 22; (with_reducible refine (market_Valid.calls A0 c0 l0 A1 c1 l1 _ _ (Kd.C_below HR0.out HB.out) HC0.out (Kd.C_below HR1.out HB.out) HC1.out HVF.out).mono ?_); rintro e w3 ⟨rfl, hb_⟩; have BMk := Aside0.mk (blk_below BMk.out hb_); have BRr := Aside0.mk (blk_below BRr.out hb_); replace hcR0 := (hb_.cell (World.block_lt_of_cell? _ _ hcR0)).trans hcR0; have hfR0 := blk_frozen BRr.out 0; replace hcR1 := (hb_.cell (World.block_lt_of_cell? _ _ hcR1)).trans hcR1; have hfR1 := blk_frozen BRr.out 1; replace hcR2 := (hb_.cell (World.block_lt_of_cell? _ _ hcR2)).trans hcR2; have hfR2 := blk_frozen BRr.out 2; have n0_ := Aside0.mk (below_step HB.out hb_); clear HB hb_; have HB := n0_; clear n0_))
  refine bodyPost_ret (results_ct rfl _ _ gR 68 #[.map none, .map none, .map none] (0, 0) _ rfl (blk_put3 BRr.out _ _ _) Try.underlying68 rfl (by kernel_rfl)) rfl ?_
  exact ⟨none, none, none, rfl, fun h => Bool.noConfusion h, below_put3 HB.out GR.out _ _ _⟩
 | true =>
  rw [hx] at HVF
  clear hx
  go_enter Try.func30, Try.ntmps30
  go_upto_region 3 with (first | ((with_reducible refine gate_dst (N := 1) rfl ?_); refine box_event ?hg (N := 1) ?hd (cs := #[.slice A0 l0.length c0, .slice A1 l1.length c1]) (t := 25) ?hr ?_; (case hd => rfl); (case hg => rfl); (case hr => first | (go_simp; done) | (go_simp; rfl)); intro gM hg_M w1 hbox_ hb_; have n0_ := Aside0.mk (below_step HB.out hb_); have BM := Aside0.mk hbox_; have GM := Aside0.mk (show w.heap.size ≤ gM by rw [hg_M]; exact below_size HB.out); have EM := Aside0.mk hg_M; have hcM0 : w1.cell? ⟨gM, 0, none⟩ = some (.slice A0 l0.length c0) := (blk_cell hbox_ 0).trans rfl; have hfM0 := blk_frozen hbox_ 0; have hcM1 : w1.cell? ⟨gM, 1, none⟩ = some (.slice A1 l1.length c1) := (blk_cell hbox_ 1).trans rfl; have hfM1 := blk_frozen hbox_ 1; have BMk := Aside0.mk hbox_; clear HB hg_M hbox_ hb_; have HB := n0_; clear n0_) | ((with_reducible refine gate_dst (N := 2) rfl ?_); refine box_event ?hg (N := 2) ?hd (cs := #[.map none, .map none, .map none]) (t := 68) ?hr ?_; (case hd => rfl); (case hg => rfl); (case hr => first | (go_simp; done) | (go_simp; rfl)); intro gR hg_R w2 hbox_ hb_; have n0_ := Aside0.mk (below_step HB.out hb_); have BR := Aside0.mk hbox_; have GR := Aside0.mk (show w.heap.size ≤ gR by rw [hg_R]; exact below_size HB.out); have ER := Aside0.mk hg_R; have hcR0 : w2.cell? ⟨gR, 0, none⟩ = some (.map none) := (blk_cell hbox_ 0).trans rfl; have hfR0 := blk_frozen hbox_ 0; have hcR1 : w2.cell? ⟨gR, 1, none⟩ = some (.map none) := (blk_cell hbox_ 1).trans rfl; have hfR1 := blk_frozen hbox_ 1; have hcR2 : w2.cell? ⟨gR, 2, none⟩ = some (.map none) := (blk_cell hbox_ 2).trans rfl; have hfR2 := blk_frozen hbox_ 2; have BRr := Aside0.mk hbox_; have BMk := Aside0.mk (blk_below BMk.out hb_); replace hcM0 := (hb_.cell (World.block_lt_of_cell? _ _ hcM0)).trans hcM0; replace hcM1 := (hb_.cell (World.block_lt_of_cell? _ _ hcM1)).trans hcM1; clear HB hg_R hbox_ hb_; have HB := n0_; clear n0_) | (go_at_call 22; (with_reducible refine (market_Valid.calls A0 c0 l0 A1 c1 l1 _ _ (Kd.C_below HR0.out HB.out) HC0.out (Kd.C_below HR1.out HB.out) HC1.out HVF.out).mono ?_); rintro e w3 ⟨rfl, hb_⟩; have BMk := Aside0.mk (blk_below BMk.out hb_); have BRr := Aside0.mk (blk_below BRr.out hb_); replace hcR0 := (hb_.cell (World.block_lt_of_cell? _ _ hcR0)).trans hcR0; have hfR0 := blk_frozen BRr.out 0; replace hcR1 := (hb_.cell (World.block_lt_of_cell? _ _ hcR1)).trans hcR1; have hfR1 := blk_frozen BRr.out 1; replace hcR2 := (hb_.cell (World.block_lt_of_cell? _ _ hcR2)).trans hcR2; have hfR2 := blk_frozen BRr.out 2; have n0_ := Aside0.mk (below_step HB.out hb_); clear HB hb_; have HB := n0_; clear n0_))
  have hb3 : Below w3.heap.size w3 (((w3.alloc (Obj.map #[] 0)).alloc (Obj.map #[] 0)).alloc (Obj.map #[] 0)) := below_alloc (below_alloc (below_alloc (Below.refl _ _) _) _) _
  have hlo := below_size HB.out
  have HT3 := Aside0.mk (show Town (((w3.alloc (Obj.map #[] 0)).alloc (Obj.map #[] 0)).alloc (Obj.map #[] 0)) w.heap.size w3.heap.size (w3.heap.size + 1) (w3.heap.size + 2) (homesM l1 0) (knownM l0 0) (occM l1 0) from by
   have e1 := World.size_alloc w3 (Obj.map #[] 0)
   have e2 := World.size_alloc (w3.alloc (Obj.map #[] 0)) (Obj.map #[] 0)
   have m1 : MapI ((w3.alloc (Obj.map #[] 0)).alloc (Obj.map #[] 0)) (w3.heap.size + 1) (fun _ => none) := by have := MapI.made (w3.alloc (Obj.map #[] 0)); rwa [e1] at this
   have m2 : MapI (((w3.alloc (Obj.map #[] 0)).alloc (Obj.map #[] 0)).alloc (Obj.map #[] 0)) (w3.heap.size + 2) (fun _ => none) := by have := MapI.made ((w3.alloc (Obj.map #[] 0)).alloc (Obj.map #[] 0)); rwa [e2, e1] at this
   exact ⟨(((MapI.made w3).alloc _).alloc _).none_ vInt, (m1.alloc _).none_ vBool, m2.none_ vBool, ⟨by omega, by omega, by omega⟩, ⟨by omega, by omega, by omega⟩⟩)
  have n0_ := Aside0.mk (below_step HB.out hb3)
  have n1_ := Aside0.mk (blk_below BMk.out hb3)
  have n2_ := Aside0.mk (blk_below BRr.out hb3)
  clear HB BMk BRr hb3 hlo hcM0 hcM1 hfM0 hfM1 hcR0 hcR1 hcR2 hfR0 hfR1 hfR2
  have HB := n0_
  have BMk := n1_
  have BRr := n2_
  clear n0_ n1_ n2_
  have HB0 := Aside0.mk (Below.refl (((w3.alloc (Obj.map #[] 0)).alloc (Obj.map #[] 0)).alloc (Obj.map #[] 0)).heap.size (((w3.alloc (Obj.map #[] 0)).alloc (Obj.map #[] 0)).alloc (Obj.map #[] 0)))
  go_upto_region 4 with (first | ((with_reducible refine gate_dst (N := 4) rfl ?_); refine box_event ?hg (N := 4) ?hd (cs := #[.map none, .map none, .map none]) (t := 68) ?hr ?_; (case hd => rfl); (case hg => rfl); (case hr => first | (go_simp; done) | (go_simp; rfl)); intro gT hg_T w4 hbox_ hb_; have n0_ := Aside0.mk (below_step HB0.out hb_); have BT := Aside0.mk hbox_; have GT := Aside0.mk (show (((w3.alloc (Obj.map #[] 0)).alloc (Obj.map #[] 0)).alloc (Obj.map #[] 0)).heap.size ≤ gT by rw [hg_T]; exact below_size HB0.out); have ET := Aside0.mk hg_T; have hcT0 : w4.cell? ⟨gT, 0, none⟩ = some (.map none) := (blk_cell hbox_ 0).trans rfl; have hfT0 := blk_frozen hbox_ 0; have hcT1 : w4.cell? ⟨gT, 1, none⟩ = some (.map none) := (blk_cell hbox_ 1).trans rfl; have hfT1 := blk_frozen hbox_ 1; have hcT2 : w4.cell? ⟨gT, 2, none⟩ = some (.map none) := (blk_cell hbox_ 2).trans rfl; have hfT2 := blk_frozen hbox_ 2; clear HB0 hg_T hbox_ hb_; have HB0 := n0_; clear n0_))
  obtain ⟨g1, hg1⟩ : ∃ g1, g1 = w3.heap.size := ⟨_, rfl⟩
  obtain ⟨g2, hg2⟩ : ∃ g2, g2 = w3.heap.size + 1 := ⟨_, rfl⟩
  obtain ⟨g3, hg3⟩ : ∃ g3, g3 = w3.heap.size + 2 := ⟨_, rfl⟩
  rw [← hg3, ← hg2, ← hg1]
  obtain ⟨w5, hw5⟩ : ∃ w5, w5 = ((w4.setCell ⟨gT, 0, none⟩ (.map (some g1))).setCell ⟨gT, 1, none⟩ (.map (some g2))).setCell ⟨gT, 2, none⟩ (.map (some g3)) := ⟨_, rfl⟩
  rw [← hw5]
  have HS5 := Aside0.mk (show TS w w5 gR gT g1 g2 g3 (homesM l1 0) (knownM l0 0) (occM l1 0) by
   have hT := HT3.out
   rw [← hg3, ← hg2, ← hg1] at hT
   have hne : gR ≠ gT := by have := blk_lt BRr.out; have := GT.out; omega
   refine ⟨?_, ?_, ?_, ?_⟩
   ·rw [hw5]
    exact (Below.heap_setCell _ _ _ _ hne).trans ((Below.heap_setCell _ _ _ _ hne).trans ((Below.heap_setCell _ _ _ _ hne).trans (blk_below BRr.out HB0.out)))
   ·rw [hw5]
    exact blk_put3 BT.out _ _ _
   ·rw [hw5]
    exact (((hT.later HB0.out).put BT.out 0 _).put (blk_put BT.out 0 _ rfl) 1 _).put (blk_put (blk_put BT.out 0 _ rfl) 1 _ rfl) 2 _
   ·rw [hw5]
    exact below_put3 (below_step HB.out HB0.out) (Nat.le_trans (below_size HB.out) GT.out) _ _ _)
  have BM5 := Aside0.mk (show w5.heap[gM]? = some (.cells #[.slice A0 l0.length c0, .slice A1 l1.length c1] 25 (0, 0)) by
   have hne : gM ≠ gT := by have := blk_lt BMk.out; have := GT.out; omega
   rw [hw5]
   exact (Below.heap_setCell _ _ _ _ hne).trans ((Below.heap_setCell _ _ _ _ hne).trans ((Below.heap_setCell _ _ _ _ hne).trans (blk_below BMk.out HB0.out))))
  clear hw5 hg1 hg2 hg3 HT3 HB HB0 BMk BRr BT GT hcT0 hcT1 hcT2 hfT0 hfT1 hfT2
  have hcM0 : w5.cell? ⟨gM, 0, none⟩ = some (.slice A0 l0.length c0) := (blk_cell BM5.out 0).trans rfl
  go_wp2
  go_loopg [20] l0.length (fun kq v20 wr => ∃ (n : Nat), v20 = .int .i64 n ∧ Aside0 (kq + n = l0.length) ∧ Aside0 (wr.heap[gM]? = some (.cells #[.slice A0 l0.length c0, .slice A1 l1.length c1] 25 (0, 0))) ∧ Aside0 (TS w wr gR gT g1 g2 g3 (homesM l1 0) (knownM l0 n) (occM l1 0)))
  case atStart => exact ⟨0, rfl, ⟨by omega⟩, BM5, HS5⟩
  case round =>
   clear HS5 BM5 hcM0
   obtain ⟨n, rfl, HK, BM, HS⟩ := hrel
   by_cases hlt : n < l0.length
   ·obtain ⟨i, hi⟩ : ∃ i : Int, i = (n : Int) := ⟨_, rfl⟩
    rw [← hi]
    have HI2 := Aside0.mk (show 0 ≤ i ∧ i < l0.length ∧ i = (n : Int) from ⟨by omega, by omega, hi⟩)
    have d7 : decide (i < (l0.length : Int)) = true := decide_eq_true HI2.out.2.1
    have ci2 : (0 ≤ i) = True := eq_true HI2.out.1
    have ci3 : (i < l0.length) = True := eq_true HI2.out.2.1
    obtain ⟨adp, ep, hx0, hx1⟩ := at_T84 (Kd.C_below HR0.out HS.out.below) i HI2.out.1 HI2.out.2.1
    subst ep
    obtain ⟨p, hp⟩ : ∃ p, p = rd_T84 l0 i := ⟨_, rfl⟩
    rw [← hp] at hx0 hx1
    have HP := Aside0.mk (show rd_T84 l0 (n : Int) = p by rw [hp, hi])
    have hz1 : i + 1 ≤ 9223372036854775807 := by have := HI2.out; have := HFW.out.1; omega
    have hz2 : -9223372036854775808 ≤ i + 1 := by have := HI2.out; omega
    have HLT := Aside0.mk hlt
    clear hi hlt hp
    have HB0 := Aside0.mk (Below.refl wr.heap.size wr)
    go_upto_region 7 with (first | ((with_reducible refine gate_dst (N := 6) rfl ?_); refine box_event ?hg (N := 6) ?hd (cs := #[.int .i64 0, .int .i64 0]) (t := 84) ?hr ?_; (case hd => rfl); (case hg => rfl); (case hr => first | (go_simp; done) | (go_simp; rfl)); intro gf hg_F w9 hbox_ hb_; have n0_ := Aside0.mk (below_step HB0.out hb_); have BF := Aside0.mk hbox_; have GF := Aside0.mk (show wr.heap.size ≤ gf by rw [hg_F]; exact below_size HB0.out); have EF := Aside0.mk hg_F; have hcf0 : w9.cell? ⟨gf, 0, none⟩ = some (.int .i64 0) := (blk_cell hbox_ 0).trans rfl; have hff0 := blk_frozen hbox_ 0; have hcf1 : w9.cell? ⟨gf, 1, none⟩ = some (.int .i64 0) := (blk_cell hbox_ 1).trans rfl; have hff1 := blk_frozen hbox_ 1; replace hx0 := (hb_.cell (World.block_lt_of_cell? _ _ hx0)).trans hx0; replace hx1 := (hb_.cell (World.block_lt_of_cell? _ _ hx1)).trans hx1; clear HB0 hg_F hbox_ hb_; have HB0 := n0_; clear n0_))
    obtain ⟨w10, hw10⟩ : ∃ w10, w10 = (w9.setCell ⟨gf, 0, none⟩ (.int .i64 p.f0)).setCell ⟨gf, 1, none⟩ (.int .i64 p.f1) := ⟨_, rfl⟩
    rw [← hw10]
    have BF10 := Aside0.mk (show w10.heap[gf]? = some (.cells #[.int .i64 p.f0, .int .i64 p.f1] 84 (0, 0)) by rw [hw10]; exact blk_put2 BF.out _ _)
    have hb10 : Below wr.heap.size wr w10 := by rw [hw10]; exact below_put2 HB0.out GF.out _ _
    have HS10 := Aside0.mk (HS.out.later hb10)
    have BM10 := Aside0.mk (blk_below BM.out hb10)
    clear hw10 hb10 BF HB0 hcf0 hcf1 hff0 hff1 hx0 hx1
    have hcf0 : w10.cell? ⟨gf, 0, none⟩ = some (.int .i64 p.f0) := (blk_cell BF10.out 0).trans rfl
    have hcT1 : w10.cell? ⟨gT, 1, none⟩ = some (.map (some g2)) := (blk_cell HS10.out.cell 1).trans rfl
    go_wp2_with (first | ((with_reducible refine gate_ (op := .mapUpdate 66 (.tmp 25) (.tmp 27) (.const (.bool true))) rfl ?_); refine wpList_storeI _ rfl (.tmp 25) (.tmp 27) (.const (.bool true)) 66 rfl 3 4 Try.underlying66 Try.underlying3 g2 (mapV vBool (knownM l0 n)) rfl HS10.out.town.known p.f0 rfl (.bool true) rfl ?_; intro w11 hm_ hg_; have BM11 := Aside0.mk (blk_grown BM10.out hg_ (HS10.out.town.known.ne_blk BM10.out)); have HS11 := Aside0.mk (show TS w w11 gR gT g1 g2 g3 (homesM l1 0) (knownM l0 (n + 1)) (occM l1 0) by unfold knownM; rw [foldM_succ]; simp only [HP.out]; exact HS10.out.known hm_ hg_); clear hm_ hg_))
    go_roundg (gk - 1)
    case measure => have := HK.out; have := HLT.out; omega
    case rel =>
     refine ⟨n + 1, ?_, ⟨by have := HK.out; have := HLT.out; omega⟩, BM11, HS11⟩
     ·have := HI2.out
      first | (rw [show ((n + 1 : Nat) : Int) = i + 1 from by omega]; done) | (simp; omega)
   ·have d7 : decide ((n : Int) < (l0.length : Int)) = false := decide_eq_false (by omega)
    have d7' : decide (n < l0.length) = false := decide_eq_false hlt
    have hnl : n = l0.length := by have := HK.out; omega
    rw [hnl] at HS
    clear hlt hnl
    have hcM1 : wr.cell? ⟨gM, 1, none⟩ = some (.slice A1 l1.length c1) := (blk_cell BM.out 1).trans rfl
    go_wp2
    go_loopg [32] l1.length (fun kq v32 wr => ∃ (n : Nat), v32 = .int .i64 n ∧ Aside0 (kq + n = l1.length) ∧ Aside0 (TS w wr gR gT g1 g2 g3 (homesM l1 n) (knownM l0 l0.length) (occM l1 n)))
    case atStart => exact ⟨0, rfl, ⟨by omega⟩, HS⟩
    case round =>
     clear HS BM hcM1 HK d7 d7'
     obtain ⟨n, rfl, HK, HS⟩ := hrel
     by_cases hlt : n < l1.length
     ·obtain ⟨i, hi⟩ : ∃ i : Int, i = (n : Int) := ⟨_, rfl⟩
      rw [← hi]
      have HI2 := Aside0.mk (show 0 ≤ i ∧ i < l1.length ∧ i = (n : Int) from ⟨by omega, by omega, hi⟩)
      have d7 : decide (i < (l1.length : Int)) = true := decide_eq_true HI2.out.2.1
      have ci2 : (0 ≤ i) = True := eq_true HI2.out.1
      have ci3 : (i < l1.length) = True := eq_true HI2.out.2.1
      obtain ⟨adp, Ap, cp, ep, hx0, hx1, hx2, hpc, hpC⟩ := at_T46 (Kd.C_below HR1.out HS.out.below) i HI2.out.1 HI2.out.2.1
      subst ep
      obtain ⟨p, hp⟩ : ∃ p, p = rd_T46 l1 i := ⟨_, rfl⟩
      rw [← hp] at hx0 hx1 hx2
      have HP := Aside0.mk (show rd_T46 l1 (n : Int) = p by rw [hp, hi])
      have hz1 : i + 1 ≤ 9223372036854775807 := by have := HI2.out; have := HFW.out.2.1; omega
      have hz2 : -9223372036854775808 ≤ i + 1 := by have := HI2.out; omega
      have HLT := Aside0.mk hlt
      clear hi hlt hp hpc hpC
      have HB0 := Aside0.mk (Below.refl wr.heap.size wr)
      go_upto_region 12 with (first | ((with_reducible refine gate_dst (N := 8) rfl ?_); refine box_event ?hg (N := 8) ?hd (cs := #[.int .i64 0, .int .i64 0, .slice none 0 0]) (t := 46) ?hr ?_; (case hd => rfl); (case hg => rfl); (case hr => first | (go_simp; done) | (go_simp; rfl)); intro gp hg_P w9 hbox_ hb_; have n0_ := Aside0.mk (below_step HB0.out hb_); have BP := Aside0.mk hbox_; have GP := Aside0.mk (show wr.heap.size ≤ gp by rw [hg_P]; exact below_size HB0.out); have EP := Aside0.mk hg_P; have hcp0 : w9.cell? ⟨gp, 0, none⟩ = some (.int .i64 0) := (blk_cell hbox_ 0).trans rfl; have hfp0 := blk_frozen hbox_ 0; have hcp1 : w9.cell? ⟨gp, 1, none⟩ = some (.int .i64 0) := (blk_cell hbox_ 1).trans rfl; have hfp1 := blk_frozen hbox_ 1; have hcp2 : w9.cell? ⟨gp, 2, none⟩ = some (.slice none 0 0) := (blk_cell hbox_ 2).trans rfl; have hfp2 := blk_frozen hbox_ 2; replace hx0 := (hb_.cell (World.block_lt_of_cell? _ _ hx0)).trans hx0; replace hx1 := (hb_.cell (World.block_lt_of_cell? _ _ hx1)).trans hx1; replace hx2 := (hb_.cell (World.block_lt_of_cell? _ _ hx2)).trans hx2; clear HB0 hg_P hbox_ hb_; have HB0 := n0_; clear n0_))
      obtain ⟨w10, hw10⟩ : ∃ w10, w10 = ((w9.setCell ⟨gp, 0, none⟩ (.int .i64 p.f0)).setCell ⟨gp, 1, none⟩ (.int .i64 p.f1)).setCell ⟨gp, 2, none⟩ (.slice Ap p.f2.length cp) := ⟨_, rfl⟩
      rw [← hw10]
      have hb10 : Below wr.heap.size wr w10 := by rw [hw10]; exact below_put3 HB0.out GP.out _ _ _
      have BP10 := Aside0.mk (blk_put3 BP.out (.int .i64 p.f0) (.int .i64 p.f1) (.slice Ap p.f2.length cp))
      rw [← hw10] at BP10
      have HS10 := Aside0.mk (HS.out.later hb10)
      clear hw10 hb10 BP HB0 hcp0 hcp1 hcp2 hfp0 hfp1 hfp2 hx0 hx1 hx2
      have hcp0 : w10.cell? ⟨gp, 0, none⟩ = some (.int .i64 p.f0) := (blk_cell BP10.out 0).trans rfl
      have hcp1 : w10.cell? ⟨gp, 1, none⟩ = some (.int .i64 p.f1) := (blk_cell BP10.out 1).trans rfl
      have hcT0 : w10.cell? ⟨gT, 0, none⟩ = some (.map (some g1)) := (blk_cell HS10.out.cell 0).trans rfl
      go_upto_region 13 with (first | ((with_reducible refine gate_ (op := .mapUpdate 65 (.tmp 37) (.tmp 39) (.tmp 41)) rfl ?_); refine wpList_storeI _ rfl (.tmp 37) (.tmp 39) (.tmp 41) 65 rfl 3 3 Try.underlying65 Try.underlying3 g1 (mapV vInt (homesM l1 n)) rfl HS10.out.town.flat p.f0 rfl (.int .i64 p.f1) rfl ?_; intro w11 hm_ hg_; have BP11 := Aside0.mk (blk_grown BP10.out hg_ (HS10.out.town.flat.ne_blk BP10.out)); have HS11 := Aside0.mk (HS10.out.flat hm_ hg_); clear hm_ hg_))
      clear hcp0 hcp1 hcT0
      have hcp1 : w11.cell? ⟨gp, 1, none⟩ = some (.int .i64 p.f1) := (blk_cell BP11.out 1).trans rfl
      have hcT2 : w11.cell? ⟨gT, 2, none⟩ = some (.map (some g3)) := (blk_cell HS11.out.cell 2).trans rfl
      go_wp2_with (first | ((with_reducible refine gate_ (op := .mapUpdate 66 (.tmp 43) (.tmp 45) (.tmp 48)) rfl ?_); refine wpList_storeI _ rfl (.tmp 43) (.tmp 45) (.tmp 48) 66 rfl 3 4 Try.underlying66 Try.underlying3 g3 (mapV vBool (occM l1 n)) rfl HS11.out.town.taken p.f1 rfl (.bool (p.f1 != 0)) rfl ?_; intro w12 hm_ hg_; have HS12 := Aside0.mk (HS11.out.taken hm_ hg_); clear hm_ hg_))
      go_roundg (gk - 1)
      case measure => have := HK.out; have := HLT.out; omega
      case rel =>
       refine ⟨n + 1, ?_, ⟨by have := HK.out; have := HLT.out; omega⟩, ⟨?_⟩⟩
       ·have := HI2.out
        first | (rw [show ((n + 1 : Nat) : Int) = i + 1 from by omega]; done) | (simp; omega)
       ·unfold homesM occM
        rw [foldM_succ, foldM_succ]
        simp only [HP.out]
        exact HS12.out
     ·have d7 : decide ((n : Int) < (l1.length : Int)) = false := decide_eq_false (by omega)
      have d7' : decide (n < l1.length) = false := decide_eq_false hlt
      have hnl : n = l1.length := by have := HK.out; omega
      rw [hnl] at HS
      clear hlt hnl
      have hcT0 : wr.cell? ⟨gT, 0, none⟩ = some (.map (some g1)) := (blk_cell HS.out.cell 0).trans rfl
      have hcT1 : wr.cell? ⟨gT, 1, none⟩ = some (.map (some g2)) := (blk_cell HS.out.cell 1).trans rfl
      have hcT2 : wr.cell? ⟨gT, 2, none⟩ = some (.map (some g3)) := (blk_cell HS.out.cell 2).trans rfl
      have hcR0 : wr.cell? ⟨gR, 0, none⟩ = some (.map none) := (blk_cell HS.out.res 0).trans rfl
      have hcR1 : wr.cell? ⟨gR, 1, none⟩ = some (.map none) := (blk_cell HS.out.res 1).trans rfl
      have hcR2 : wr.cell? ⟨gR, 2, none⟩ = some (.map none) := (blk_cell HS.out.res 2).trans rfl
      have hfR0 := blk_frozen HS.out.res 0
      have hfR1 := blk_frozen HS.out.res 1
      have hfR2 := blk_frozen HS.out.res 2
      go_wp2
      refine bodyPost_ret (results_ct rfl _ _ gR 68 #[.map (some g1), .map (some g2), .map (some g3)] (0, 0) _ rfl (blk_put3 HS.out.res _ _ _) Try.underlying68 rfl (by kernel_rfl)) rfl ?_
      exact ⟨some g1, some g2, some g3, rfl, fun _ => ⟨g1, g2, g3, rfl, rfl, rfl, (((HS.out.town.put HS.out.res 0 _).put (blk_put HS.out.res 0 _ rfl) 1 _).put (blk_put (blk_put HS.out.res 0 _ rfl) 1 _ rfl) 2 _)⟩, below_put3 HS.out.below GR.out _ _ _⟩
end
end Go.Proofs.Ytocbiggglnpeoaa.P
end
