/- Part 1 of the base that the seat's proofs share: words, walks and plain laws. -/
import Derived.ArgAppend
import Derived.Below
import Derived.BigQuiet
import Derived.ChangeOld
import Derived.ChangeSlices
import Derived.Deep.AppendLies
import Derived.Deep.CutBlock
import Derived.Deep.DeepCutAuto
import Derived.Deep.Draws
import Derived.Deep.LoopGhost
import Derived.Deep.OwnRows
import Derived.Deep.QuietTactic
import Derived.Deep.RegionHeld3
import Derived.Deep.Slices
import Derived.KernelRfl
import Derived.Laws.BitsLemmas
import Derived.Laws.BytesArg
import Derived.Laws.IdiomCopy
import Derived.Laws.MakeOwn
import Derived.Laws.OwnMore
import Derived.Laws.Rows
import Derived.Laws.Slices
import Derived.Laws.StructEq
import Derived.Lib.AppendStr
import Derived.Lib.BufferOwn
import Derived.Lib.ConvBytes
import Derived.Lib.SliceRun
import Derived.LoopIn
import Derived.LoopNIn
import Derived.Maps.AppendAt
import Derived.Maps.Own
import Derived.OpenShut
import Derived.OrdersHeld
import Derived.OwnWalk
import Derived.OwnWalkIn
import Derived.ProofKit
import Derived.RangeFuncBound
import Derived.RangeFuncCalls
import Derived.RangeFuncLeaves
import Derived.RangeFuncNested
import Derived.RowKit
import Derived.RowKit3
import Derived.ShutString
import Derived.SizedLaws
import Derived.Tactics
import Derived.TacticsInMore
import Derived.Test.YtocbiggglnpeoaaProg
import Derived.WalkKit
import Derived.WideLaws
set_option linter.unusedVariables false
set_option linter.unusedSimpArgs false
namespace Go.Proofs.Ytocbiggglnpeoaa
theorem sI_ {α : Type _} (l : List α) (i : Nat) (a : α) : l.toArray.setIfInBounds i a = (l.set i a).toArray := List.setIfInBounds_toArray l i a
theorem s0_ {α : Type _} (x : α) (xs : List α) (a : α) : (x :: xs).set 0 a = a :: xs := List.set_cons_zero
theorem sS_ {α : Type _} (x : α) (xs : List α) (n : Nat) (a : α) : (x :: xs).set (n + 1) a = x :: xs.set n a := List.set_cons_succ
abbrev y_ : Bool := true
abbrev n_ : Bool := false
end Go.Proofs.Ytocbiggglnpeoaa
section
set_option linter.unusedVariables false
set_option linter.unusedSimpArgs false
namespace Go.Proofs.YtocbiggglnpeoaaW.PrintWords
open Go.RowKit
structure Aside0 (p : Prop) : Prop where mk :: (out : p)
structure Drawn0 (w w' : World) : Prop where mk :: (out : ∃ n, w' = w.drewN n)
theorem Drawn0.refl (w : World) : Drawn0 w w := ⟨⟨0, rfl⟩⟩
theorem Drawn0.step {w w' : World} (h : Drawn0 w w') (n : Nat) : Drawn0 w (w'.drewN n) := by
 obtain ⟨m, rfl⟩ := h
 exact ⟨⟨m + n, World.drewN_drewN ..⟩⟩
theorem Drawn0.grown {w w' : World} (h : Drawn0 w w') : Grown w w' := by
 obtain ⟨n, rfl⟩ := h
 induction n with
 | zero => exact Grown.refl _
 | succ n ih => rw [← World.drew_drewN]; exact Grown.drew ih
theorem Drawn0.below {w w' : World} (h : Drawn0 w w') : Below w.heap.size w w' := by
 obtain ⟨n, rfl⟩ := h
 induction n with
 | zero => exact Below.refl _ _
 | succ n ih => rw [← World.drew_drewN]; exact ih.drew
def rd (xs : List Int) (i : Int) : Int := xs.getD i.toNat 0
theorem below_alloc {w W : World} (h : Below w.heap.size w W) (o : Obj) : Below w.heap.size w (W.alloc o) := h.alloc h.size o
theorem below_drew {B : Nat} {w W : World} (h : Below B w W) : Below B w W.drew := ⟨h.os, h.tape, h.output, h.size, h.block⟩
theorem pw_below_drewN {B : Nat} {w W : World} (h : Below B w W) (n : Nat) : Below B w (W.drewN n) := ⟨h.os, h.tape, h.output, h.size, h.block⟩
theorem below_then {B : Nat} {w w1 w2 : World} (h : Below B w w1) (hB : B ≤ w1.heap.size) (k : Below w1.heap.size w1 w2) : Below B w w2 :=
 h.trans ⟨k.os, k.tape, k.output, k.size, fun i hi => k.block i (Nat.lt_of_lt_of_le hi hB)⟩
theorem pw_below_grown {B : Nat} {w w1 : World} (h : Below B w w1) (row : Option Nat) (hB : B ≤ w1.heap.size) {w2 : World} (hg : w1.grownBy w2 row) (hr : ∀ k, row = some k → B ≤ k) : Below B w w2 := h.grown hg hB hr
theorem grown_of_below {w w1 : World} (h : Below w.heap.size w w1) (row : Option Nat) : w.grownBy w1 row := ⟨h.os, h.tape, h.output, h.size, fun i hi _ => h.block i hi⟩
theorem pw_cell_below {w w1 : World} (h : Below w.heap.size w w1) {a : Addr} {v : Value} (hc : w.cell? a = some v) : w1.cell? a = some v := (h.cell (World.block_lt_of_cell? w a hc)).trans hc
theorem add_plain (g j : Nat) : (⟨g, 0, none⟩ : Addr).add j = ⟨g, j, none⟩ := by unfold Addr.add; split <;> simp_all
def ReadsInt (w : World) (k : IntKind) (A : Option Addr) (n : Nat) (xs : List Int) : Prop :=
 xs.length = n ∧ n ≤ 9223372036854775807 ∧ (0 < n → ∃ ad, A = some ad ∧ ∀ j, j < n → w.cell? (ad.add j) = some (.int k (xs.getD j 0)))
theorem ReadsInt.at_ {w : World} {k : IntKind} {A : Option Addr} {n : Nat} {xs : List Int} (h : ReadsInt w k A n xs) (i : Int) (h0 : 0 ≤ i) (h1 : i < n) : ∃ ad, A = some ad ∧ w.cell? (ad.add i.toNat) = some (.int k (rd xs i)) := by
 obtain ⟨ad, e, hc⟩ := h.2.2 (by omega)
 exact ⟨ad, e, hc _ (by omega)⟩
theorem ReadsInt.below {w w1 : World} {k : IntKind} {A : Option Addr} {n : Nat} {xs : List Int} (h : ReadsInt w k A n xs) (hb : Below w.heap.size w w1) : ReadsInt w1 k A n xs :=
 ⟨h.1, h.2.1, fun hn => by
  obtain ⟨ad, e, hc⟩ := h.2.2 hn
  exact ⟨ad, e, fun j hj => pw_cell_below hb (hc j hj)⟩⟩
theorem own_nil (W : World) (base : Nat) (e : TypeId) (size : Nat) : W.ownsRow base e size (.slice none 0 0) 0 [] := ⟨by simp, .inl ⟨rfl, rfl⟩⟩
theorem own_base {w : World} {base : Nat} {e : TypeId} {size n : Nat} {v : Value} {xs : List Value} (h : w.ownsRow base e size v n xs) (k : Nat) (hk : v.ownBlock = some k) : base ≤ k := by
 rcases h.2 with ⟨rfl, _⟩ | ⟨g, cap, cur, rfl, hb, _⟩
 ·simp [Value.ownBlock] at hk
 ·have : g = k := by simpa [Value.ownBlock] using hk
  omega
theorem own_lt {w : World} {base : Nat} {e : TypeId} {size n : Nat} {v : Value} {xs : List Value} (h : w.ownsRow base e size v n xs) (k : Nat) (hk : v.ownBlock = some k) : k < w.heap.size := by
 rcases h.2 with ⟨rfl, _⟩ | ⟨g, cap, cur, rfl, hb, hh, _⟩
 ·simp [Value.ownBlock] at hk
 ·have : g = k := by simpa [Value.ownBlock] using hk
  subst this
  exact (Array.getElem?_eq_some_iff.1 hh).1
theorem pw_own_below {w w1 : World} {base : Nat} {e : TypeId} {size n : Nat} {v : Value} {xs : List Value} (h : w.ownsRow base e size v n xs) (hb : Below w.heap.size w w1) : w1.ownsRow base e size v n xs :=
 h.kept (grown_of_below hb none) (by cases v.ownBlock <;> simp)
section
variable {P : Program} {ops : Array Oper} {rest : List Oper} {o : Oper} {a : Act} {Q : Exit → Act → World → Prop}
end
section
variable {P : Program}
end
section
variable {P : Program} {ops : Array Oper} {rest : List Oper} {o : Oper} {a : Act} {Q : Exit → Act → World → Prop}
end
def bytesOf (s : ByteArray) : List Int := s.data.toList.map fun b => (b.toNat : Int)
theorem ReadsInt.take_ {w : World} {k : IntKind} {A : Option Addr} {n : Nat} {xs : List Int} (h : ReadsInt w k A n xs) (i : Nat) (hi : i ≤ n) : ReadsInt w k A i (xs.take i) := by
 refine ⟨by rw [List.length_take, h.1]; omega, by have := h.2.1; omega, fun hp => ?_⟩
 obtain ⟨ad, e, hc⟩ := h.2.2 (by omega)
 refine ⟨ad, e, fun j hj => ?_⟩
 rw [hc j (by omega)]
 simp [List.getD_eq_getElem?_getD, hj]
def LeO {α : Type} (a b : Option α) : Prop := ∀ r, a = some r → b = some r
theorem LeO.refl {α : Type} (a : Option α) : LeO a a := fun _ h => h
theorem LeO.none {α : Type} (b : Option α) : LeO Option.none b := fun _ h => by cases h
theorem LeO.trans {α : Type} {a b c : Option α} (h : LeO a b) (k : LeO b c) : LeO a c := fun r hr => k r (h r hr)
theorem LeO.ite {α : Type} {c : Prop} [Decidable c] {a a' b b' : Option α} (h : LeO a a') (k : LeO b b') : LeO (if c then a else b) (if c then a' else b') := by
 split
 ·exact h
 ·exact k
theorem LeO.bind {α β : Type} {a a' : Option α} {f f' : α → Option β} (h : LeO a a') (k : ∀ x, LeO (f x) (f' x)) : LeO (a.bind f) (a'.bind f') := by
 intro r hr
 obtain ⟨x, hx, hf⟩ := Option.bind_eq_some_iff.1 hr
 exact Option.bind_eq_some_iff.2 ⟨x, h x hx, k x r hf⟩
theorem LeO.map {α β : Type} {a a' : Option α} (f : α → β) (h : LeO a a') : LeO (a.map f) (a'.map f) := by
 intro r hr
 obtain ⟨x, hx, hf⟩ := Option.map_eq_some_iff.1 hr
 exact Option.map_eq_some_iff.2 ⟨x, h x hx, hf⟩
def Reps {α : Type} (R : α → List Value → Prop) (size : Nat) (ps : List α) (cs : List Value) : Prop :=
 cs.length = ps.length * size ∧ ∀ j p, ps[j]? = some p → R p ((cs.drop (j * size)).take size)
theorem Reps.none {α : Type} (R : α → List Value → Prop) (size : Nat) : Reps R size [] [] := ⟨by simp, fun j p h => by simp at h⟩
theorem Reps.snoc {α : Type} {R : α → List Value → Prop} {size : Nat} {ps : List α} {cs c : List Value} {p : α} (h : Reps R size ps cs) (hp : R p c) (hc : c.length = size) : Reps R size (ps ++ [p]) (cs ++ c) := by
 refine ⟨by rw [List.length_append, h.1, hc, List.length_append, List.length_singleton, Nat.add_mul, Nat.one_mul], fun j q hq => ?_⟩
 rcases Nat.lt_or_ge j ps.length with hj | hj
 ·rw [List.getElem?_append_left hj] at hq
  have h1 : j * size + size ≤ cs.length := by rw [h.1, ← Nat.succ_mul]; exact Nat.mul_le_mul_right _ hj
  have h2 := h.2 j q hq
  rw [List.drop_append_of_le_length (by omega), List.take_append_of_le_length (by rw [List.length_drop]; omega)]
  exact h2
 ·have hj' : j = ps.length := by
   have := (List.getElem?_eq_some_iff.1 hq).1
   rw [List.length_append, List.length_singleton] at this
   omega
  subst hj'
  have hq' : p = q := by simpa using hq
  subst hq'
  rw [← h.1, List.drop_left, ← hc, List.take_length]
  exact hp
theorem Reps.imp_ {α : Type} {R R' : α → List Value → Prop} {size : Nat} {ps : List α} {cs : List Value} (h : Reps R size ps cs) (hR : ∀ p c, R p c → R' p c) : Reps R' size ps cs := ⟨h.1, fun j p hj => hR _ _ (h.2 j p hj)⟩
def ReadsRow {α : Type} (R : α → List Value → Prop) (size : Nat) (w : World) (A : Option Addr) (n : Nat) (ps : List α) : Prop :=
 ps.length = n ∧ n ≤ 9223372036854775807 ∧ (0 < n → ∃ ad, A = some ad ∧ ∀ j p, ps[j]? = some p → ∃ c, c.length = size ∧ R p c ∧ ∀ i u, c[i]? = some u → w.cell? (ad.add (j * size + i)) = some u)
theorem ReadsRow.get_ {α : Type} {R : α → List Value → Prop} {size : Nat} {w : World} {A : Option Addr} {n : Nat} {ps : List α} (h : ReadsRow R size w A n ps) (d : α) (i : Int) (h0 : 0 ≤ i) (h1 : i < n) :
  ∃ ad c, A = some ad ∧ c.length = size ∧ R (ps.getD i.toNat d) c ∧ ∀ j u, c[j]? = some u → w.cell? (ad.add (i.toNat * size + j)) = some u := by
 obtain ⟨ad, e, hc⟩ := h.2.2 (by omega)
 have hl : i.toNat < ps.length := by have := h.1; omega
 obtain ⟨c, hs, hr, hcell⟩ := hc i.toNat _ (List.getElem?_eq_getElem hl)
 refine ⟨ad, c, e, hs, ?_, hcell⟩
 rw [List.getD_eq_getElem?_getD, List.getElem?_eq_getElem hl]
 exact hr
theorem ReadsRow.imp_ {α : Type} {R R' : α → List Value → Prop} {size : Nat} {w w1 : World} {A : Option Addr} {n : Nat} {ps : List α} (h : ReadsRow R size w A n ps) (hb : Below w.heap.size w w1) (hR : ∀ p c, R p c → R' p c) : ReadsRow R' size w1 A n ps :=
 ⟨h.1, h.2.1, fun hn => by
  obtain ⟨ad, e, hc⟩ := h.2.2 hn
  refine ⟨ad, e, fun j p hj => ?_⟩
  obtain ⟨c, hs, hr, hcell⟩ := hc j p hj
  exact ⟨c, hs, hR _ _ hr, fun i u hu => pw_cell_below hb (hcell i u hu)⟩⟩
theorem own_reads_row {α : Type} {R : α → List Value → Prop} {w : World} {base n size : Nat} {e : TypeId} {v : Value} {ps : List α} {cs : List Value} (h : w.ownsRow base e size v n cs) (hR : Reps R size ps cs) (hn : ps.length = n) :
  ∃ A c, v = .slice A n c ∧ ReadsRow R size w A n ps := by
 rcases Nat.eq_zero_or_pos n with h0 | h0
 ·rcases h.2 with ⟨rfl, rfl⟩ | ⟨g, cap, cur, rfl, _⟩
  ·exact ⟨none, 0, rfl, hn, by omega, fun hp => absurd hp (by omega)⟩
  ·exact ⟨_, cap, rfl, hn, by omega, fun hp => absurd hp (by omega)⟩
 ·obtain ⟨g, cap, rfl, _, _⟩ := h.form h0
  have hm : n ≤ 9223372036854775807 := by
   rcases h.2 with ⟨_, h1⟩ | ⟨g', cap', cur, he, _, _, h1, h2, _⟩
   ·omega
   ·simp only [maxLen] at h2
    omega
  refine ⟨_, cap, rfl, hn, hm, fun _ => ⟨_, rfl, fun j p hj => ⟨(cs.drop (j * size)).take size, ?_, hR.2 j p hj, fun i u hu => ?_⟩⟩⟩
  ·have hjl := (List.getElem?_eq_some_iff.1 hj).1
   have h1 : j * size + size ≤ cs.length := by rw [hR.1, ← Nat.succ_mul]; exact Nat.mul_le_mul_right _ hjl
   rw [List.length_take, List.length_drop]
   omega
  ·refine h.cells (g := g) rfl _ u ?_
   rw [List.getElem?_take] at hu
   split at hu
   ·rw [List.getElem?_drop] at hu
    exact hu
   ·cases hu
theorem add_field (ad : Addr) (m j : Nat) (hj : 0 < j) : ad.add (m + j) = ⟨(ad.add m).block, (ad.add m).off + j, none⟩ := by
 unfold Addr.add
 by_cases hm : m = 0
 ·subst hm
  simp [Nat.ne_of_gt hj]
 ·simp [hm, Nat.add_assoc]
section
variable {P : Program} {ops : Array Oper} {rest : List Oper} {o : Oper} {a : Act} {Q : Exit → Act → World → Prop}
theorem print_append_cells {w0 W : World} (base : Nat) (hgd : o.guard = none) (s x : Operand) (t e : TypeId) (z : Value) (size bytes : Nat)
  (ho : o.op = .call { callee := .builtin .append, args := #[s, x], argTypes := #[t, t] })
  (ht : P.underlying t = some (.slice e)) (hinfo : (P.info? e).map (fun i => (i.zero, i.size, i.bytes)) = some (some z, size, bytes)) (hz : z.cells.size = size) (hs0 : 0 < size) (hb0 : 0 < bytes)
  (v : Value) (n : Nat) (xs ys : List Value) (hs : a.eval s = v) (hx : a.eval x = .slice (some ⟨W.heap.size, 0, none⟩) 1 1) (hys : ys.length = size) (h1 : ∀ u ∈ ys, u.oneCell' = true)
  (HO : W.ownsRow base e size v n xs) (HB : Below base w0 W) (hbase : base ≤ W.heap.size) (hl : (n + 1) * bytes ≤ 140737488355328)
  (h : ∀ v1 w1, w1.ownsRow base e size v1 (n + 1) (xs ++ ys) → Below base w0 w1 → W.grownBy w1 v.ownBlock → (v1.ownBlock = v.ownBlock ∨ ∃ b, v1.ownBlock = some b ∧ W.heap.size ≤ b) → wpList P ops Q rest (a.put o.dst v1) w1) :
  wpList P ops Q (o :: rest) a (W.alloc (.cells ys.toArray e)) := by
 obtain ⟨i0, hi, hzz⟩ := Option.map_eq_some_iff.1 hinfo
 simp only [Prod.mk.injEq] at hzz
 obtain ⟨hz0, hz1, hz2⟩ := hzz
 have hlen : n + 1 ≤ 140737488355328 := Nat.le_trans (Nat.le_mul_of_pos_right _ hb0) hl
 refine wpList_append_own_at (W.alloc (.cells ys.toArray e)) hgd s x t ho base e i0 z size bytes ht hi hz0 hz1 hz2 hz hs0 v n xs hs (HO.alloc _) ⟨W.heap.size, 0, none⟩ 1 1 ys hx (by rw [hys]; simp)
  (by simpa using World.news_of_block (cs := ys.toArray) (t := e) (fr := (0, 0)) (heap_alloc_new W (.cells ys.toArray e))) h1 (by simp only [maxLen]; omega) hl (by simp; omega) ?_
 intro v1 w1 hown hg _ hat
 refine h v1 w1 hown ((HB.alloc hbase _).grown hg (by simp; omega) (own_base HO)) (World.grownBy.trans (World.grownBy_alloc W _ _) hg) ?_
 rcases hat with hat | hat
 ·exact .inl hat
 ·exact .inr ⟨_, hat, by simp⟩
end
theorem own_ne {w : World} {base : Nat} {e t : TypeId} {size n g : Nat} {v : Value} {xs : List Value} {cs : Array Value} (h : w.ownsRow base e size v n xs) (hg : w.heap[g]? = some (.cells cs t (0, 0))) (hne : e ≠ t) : some g ≠ v.ownBlock := by
 rcases h.2 with ⟨rfl, _⟩ | ⟨g', cap, cur, rfl, _, hh, _⟩
 ·simp [Value.ownBlock]
 ·intro he
  have : g = g' := by simpa [Value.ownBlock] using he
  subst this
  rw [hg] at hh
  injection hh with hh
  injection hh with _ ht
  exact hne ht.symm
theorem blk_set {w : World} {g : Nat} {t : TypeId} {cs : Array Value} (h : w.heap[g]? = some (.cells cs t (0, 0))) (i : Nat) (u : Value) : (w.setCell ⟨g, i, none⟩ u).heap[g]? = some (.cells (cs.setIfInBounds i u) t (0, 0)) := by
 simp [World.setCell, Array.getElem?_modify, h]
theorem blk_far {w : World} {g : Nat} {t : TypeId} {cs : Array Value} (h : w.heap[g]? = some (.cells cs t (0, 0))) {p : Addr} (hp : g ≠ p.block) (u : Value) : (w.setCell p u).heap[g]? = some (.cells cs t (0, 0)) := (Below.heap_setCell w p u g hp).trans h
theorem blk_lt {w : World} {g : Nat} {o : Obj} (h : w.heap[g]? = some o) : g < w.heap.size := (Array.getElem?_eq_some_iff.1 h).1
theorem blk_cell {w : World} {g : Nat} {t : TypeId} {cs : Array Value} (h : w.heap[g]? = some (.cells cs t (0, 0))) (i : Nat) : w.cell? ⟨g, i, none⟩ = cs[i]? := cell_of_row w g i cs t (0, 0) h
theorem blk_frozen {w : World} {g : Nat} {t : TypeId} {cs : Array Value} (h : w.heap[g]? = some (.cells cs t (0, 0))) (i : Nat) : w.frozen? ⟨g, i, none⟩ = false := by simp [World.frozen?, h]
theorem blk_grown {w w1 : World} {g : Nat} {o : Obj} {row : Option Nat} (h : w.heap[g]? = some o) (hg : w.grownBy w1 row) (hne : some g ≠ row) : w1.heap[g]? = some o := (hg.block g (blk_lt h) hne).trans h
theorem blk_ne {w : World} {g g' : Nat} {t t' : TypeId} {cs cs' : Array Value} (h : w.heap[g]? = some (.cells cs t (0, 0))) (h' : w.heap[g']? = some (.cells cs' t' (0, 0))) (hne : t ≠ t') : g ≠ g' := by
 rintro rfl
 rw [h] at h'
 injection h' with h'
 injection h' with _ ht
 exact hne ht
def KeepBut (w w' : World) (g : Nat) (row : Option Nat) : Prop := w.heap.size ≤ w'.heap.size ∧ ∀ i, i < w.heap.size → i ≠ g → some i ≠ row → w'.heap[i]? = w.heap[i]?
theorem KeepBut.refl (w : World) (g : Nat) (row : Option Nat) : KeepBut w w g row := ⟨Nat.le_refl _, fun _ _ _ _ => rfl⟩
theorem KeepBut.of_below {w w1 : World} (h : Below w.heap.size w w1) (g : Nat) (row : Option Nat) : KeepBut w w1 g row := ⟨h.size, fun i hi _ _ => h.block i hi⟩
theorem KeepBut.trans {w w1 w2 : World} {g : Nat} {row row1 : Option Nat} (h : KeepBut w w1 g row) (k : KeepBut w1 w2 g row1) (hr : row1 = row ∨ ∃ b, row1 = some b ∧ w.heap.size ≤ b) : KeepBut w w2 g row :=
 ⟨Nat.le_trans h.1 k.1, fun i hi hg hn => by
  refine (k.2 i (Nat.lt_of_lt_of_le hi h.1) hg ?_).trans (h.2 i hi hg hn)
  rcases hr with rfl | ⟨b, rfl, hb⟩
  ·exact hn
  ·intro e
   injection e with e
   omega⟩
theorem KeepBut.blk {w w1 : World} {g g' : Nat} {row : Option Nat} {o : Obj} (h : KeepBut w w1 g row) (hb : w.heap[g']? = some o) (hg : g' ≠ g) (hr : some g' ≠ row) : w1.heap[g']? = some o := (h.2 g' (blk_lt hb) hg hr).trans hb
theorem KeepBut.own {w w1 : World} {g : Nat} {row : Option Nat} {base : Nat} {e : TypeId} {size n : Nat} {v : Value} {xs : List Value} (h : KeepBut w w1 g row) (ho : w.ownsRow base e size v n xs) (hg : v.ownBlock ≠ some g) (hr : v.ownBlock = none ∨ v.ownBlock ≠ row) : w1.ownsRow base e size v n xs := by
 obtain ⟨h1, h2⟩ := ho
 refine ⟨h1, ?_⟩
 rcases h2 with h2 | ⟨b, cap, cur, rfl, hb, hh, r⟩
 ·exact .inl h2
 ·refine .inr ⟨b, cap, cur, rfl, hb, h.blk hh ?_ ?_, r⟩
  ·intro e
   exact hg (by rw [← e]; rfl)
  ·rcases hr with hr | hr
   ·simp [Value.ownBlock] at hr
   ·exact hr
def Ev {α : Type} (g : Nat → Option α) (r : α) : Prop := ∃ K, ∀ k, K ≤ k → g k = some r
theorem Ev.bind {α β : Type} {g : Nat → Option α} {f : Nat → α → Option β} {a : α} {r : β} (h : Ev g a) (k : Ev (fun n => f n a) r) : Ev (fun n => (g n).bind (f n)) r := by
 obtain ⟨K, h⟩ := h
 obtain ⟨K', k⟩ := k
 refine ⟨max K K', fun n hn => ?_⟩
 have h1 := h n (by omega)
 have h2 := k n (by omega)
 simp only [h1, Option.bind_some]
 exact h2
theorem Ev.step {α : Type} {g f : Nat → Option α} {r : α} (h : ∀ k, g (k + 1) = f k) (k : Ev f r) : Ev g r := by
 obtain ⟨K, k⟩ := k
 refine ⟨K + 1, fun n hn => ?_⟩
 obtain ⟨m, rfl⟩ : ∃ m, n = m + 1 := ⟨n - 1, by omega⟩
 rw [h]
 exact k m (by omega)
theorem Ev.congr {α : Type} {g f : Nat → Option α} {r : α} (h : ∀ k, g k = f k) (k : Ev f r) : Ev g r := by
 obtain ⟨K, k⟩ := k
 exact ⟨K, fun n hn => (h n).trans (k n hn)⟩
section
variable {P : Program} {ops : Array Oper} {o : Oper} {a : Act} {Q : Exit → Act → World → Prop} {K : Act → World → Prop}
end
theorem own_weaken {w : World} {base base' : Nat} {e : TypeId} {size n : Nat} {v : Value} {xs : List Value} (h : w.ownsRow base e size v n xs) (hb : base' ≤ base) : w.ownsRow base' e size v n xs := by
 obtain ⟨h1, h2⟩ := h
 refine ⟨h1, ?_⟩
 rcases h2 with h2 | ⟨g, cap, cur, rfl, hg, r⟩
 ·exact .inl h2
 ·exact .inr ⟨g, cap, cur, rfl, Nat.le_trans hb hg, r⟩
section
variable {α : Type} {enc : α → Value} {d : α}
def rdOf (d : α) (xs : List α) (i : Int) : α := xs.getD i.toNat d
def ReadsOf (enc : α → Value) (d : α) (w : World) (A : Option Addr) (n : Nat) (xs : List α) : Prop :=
 xs.length = n ∧ n ≤ 9223372036854775807 ∧ (0 < n → ∃ ad, A = some ad ∧ ∀ j, j < n → w.cell? (ad.add j) = some (enc (xs.getD j d)))
theorem ReadsOf.at_ {w : World} {A : Option Addr} {n : Nat} {xs : List α} (h : ReadsOf enc d w A n xs) (i : Int) (h0 : 0 ≤ i) (h1 : i < n) : ∃ ad, A = some ad ∧ w.cell? (ad.add i.toNat) = some (enc (rdOf d xs i)) := by
 obtain ⟨ad, e, hc⟩ := h.2.2 (by omega)
 exact ⟨ad, e, hc _ (by omega)⟩
theorem ReadsOf.below {w w1 : World} {A : Option Addr} {n : Nat} {xs : List α} (h : ReadsOf enc d w A n xs) (hb : Below w.heap.size w w1) : ReadsOf enc d w1 A n xs :=
 ⟨h.1, h.2.1, fun hn => by
  obtain ⟨ad, e, hc⟩ := h.2.2 hn
  exact ⟨ad, e, fun j hj => pw_cell_below hb (hc j hj)⟩⟩
theorem ReadsOf.take_ {w : World} {A : Option Addr} {n : Nat} {xs : List α} (h : ReadsOf enc d w A n xs) (i : Nat) (hi : i ≤ n) : ReadsOf enc d w A i (xs.take i) := by
 refine ⟨by rw [List.length_take, h.1]; omega, by have := h.2.1; omega, fun hp => ?_⟩
 obtain ⟨ad, e, hc⟩ := h.2.2 (by omega)
 refine ⟨ad, e, fun j hj => ?_⟩
 rw [hc j (by omega)]
 simp [List.getD_eq_getElem?_getD, hj]
end
section
variable {α : Type} {P : Program} {ops : Array Oper} {rest : List Oper} {o : Oper} {a : Act} {Q : Exit → Act → World → Prop}
end
def NeRow (v v' : Value) : Prop := ∀ k, v.ownBlock = some k → v'.ownBlock ≠ some k
theorem ne_below {W w1 : World} {v1 v' : Value} {base n size n1 size1 : Nat} {e e1 : TypeId} {xs xs1 : List Value} (h1 : w1.ownsRow W.heap.size e1 size1 v1 n1 xs1) (ho : W.ownsRow base e size v' n xs) : NeRow v1 v' := by
 intro k hk hk'
 have h2 := own_base h1 k hk
 have h3 := own_lt ho k hk'
 omega
theorem blk_alloc {w : World} {g : Nat} {o : Obj} (h : w.heap[g]? = some o) (o' : Obj) : (w.alloc o').heap[g]? = some o := (Below.heap_alloc w o' g (blk_lt h)).trans h
theorem blk_drew {w : World} {g : Nat} {o : Obj} (h : w.heap[g]? = some o) : w.drew.heap[g]? = some o := h
theorem blk_drewN {w : World} {g : Nat} {o : Obj} (h : w.heap[g]? = some o) (n : Nat) : (w.drewN n).heap[g]? = some o := h
theorem blk_below {w w1 : World} {g : Nat} {o : Obj} (h : w.heap[g]? = some o) (hb : Below w.heap.size w w1) : w1.heap[g]? = some o := (hb.block g (blk_lt h)).trans h
theorem blk_new (w : World) (o : Obj) : (w.alloc o).heap[w.heap.size]? = some o := heap_alloc_new w o
section
variable {P : Program}
theorem results_ct {fn : Func} {p u : Tmp} {ty : TypeId} (h : fn.results = #[.cell p ty, .tmp u]) (tmps : Array Value) (w : World) (g : Nat) (t : TypeId) (cs : Array Value) (fr : Nat × Nat) (d : TypeDesc)
  (hp : tmps.getD p undef = .pointer (some ⟨g, 0, none⟩)) (hg : w.heap[g]? = some (.cells cs t fr))
  (hu : P.underlying ty = some d) (hd : (match d with | .struct _ | .array _ _ => true | _ => false) = true) (hi : (P.info? ty).map (·.size) = some cs.size) :
  (results fn tmps).run P w = .ok (.tuple #[.agg cs, tmps.getD u undef]) w := by
 have hp' : tmps[p]?.getD undef = .pointer (some ⟨g, 0, none⟩) := by simpa using hp
 simp [results, h, hp', asAddr, run_loadVar_row w g t ty cs fr d hg hu hd hi]
end
theorem own_le {w : World} {base n m c size : Nat} {e : TypeId} {A : Option Addr} {xs : List Value} (h : w.ownsRow base e size (.slice A m c) n xs) : m ≤ c := by
 rcases h.2 with ⟨he, _⟩ | ⟨g, cap, cur, he, _, _, hnc, _⟩
 ·injection he with _ h2 h3
  omega
 ·injection he with _ h2 h3
  omega
def OwnRow {α : Type} (R : α → List Value → Prop) (e : TypeId) (size : Nat) (w : World) (base : Nat) (v : Value) (ps : List α) : Prop :=
 ∃ inner, w.ownsRow base e size v ps.length inner ∧ Reps R size ps inner
section
variable {α : Type} {R R' : α → List Value → Prop} {e : TypeId} {size : Nat} {w w1 : World} {base : Nat} {v : Value} {ps : List α}
theorem OwnRow.none_ (R : α → List Value → Prop) (e : TypeId) (size : Nat) (w : World) (base : Nat) : OwnRow R e size w base (.slice none 0 0) [] := ⟨[], own_nil _ _ _ _, Reps.none _ _⟩
theorem OwnRow.imp_ (h : OwnRow R e size w base v ps) (hR : ∀ p c, R p c → R' p c) : OwnRow R' e size w base v ps := by
 obtain ⟨inner, ho, hr⟩ := h
 exact ⟨inner, ho, hr.imp_ hR⟩
theorem OwnRow.below (h : OwnRow R e size w base v ps) (hb : Below w.heap.size w w1) : OwnRow R e size w1 base v ps := by
 obtain ⟨inner, ho, hr⟩ := h
 exact ⟨inner, pw_own_below ho hb, hr⟩
theorem OwnRow.reads (h : OwnRow R e size w base v ps) : ∃ A c, v = .slice A ps.length c ∧ ps.length ≤ c ∧ ReadsRow R size w A ps.length ps := by
 obtain ⟨inner, ho, hr⟩ := h
 obtain ⟨A, c, rfl, hrow⟩ := own_reads_row ho hr rfl
 exact ⟨A, c, rfl, own_le ho, hrow⟩
theorem OwnRow.ne_block (h : OwnRow R e size w base v ps) {g : Nat} {t : TypeId} {cells : Array Value} (hb : w.heap[g]? = some (.cells cells t (0, 0))) (ht : e ≠ t) : some g ≠ v.ownBlock := by
 obtain ⟨inner, ho, hr⟩ := h
 exact own_ne ho hb ht
end
section
variable {P : Program} {ops : Array Oper} {rest : List Oper} {o : Oper} {a : Act} {Q : Exit → Act → World → Prop} {α : Type} {R : α → List Value → Prop}
theorem OwnRow.append {w0 W : World} (base : Nat) (hgd : o.guard = none) (s x : Operand) (t e : TypeId) (z : Value) (size bytes : Nat)
  (ho : o.op = .call { callee := .builtin .append, args := #[s, x], argTypes := #[t, t] })
  (ht : P.underlying t = some (.slice e)) (hinfo : (P.info? e).map (fun i => (i.zero, i.size, i.bytes)) = some (some z, size, bytes)) (hz : z.cells.size = size) (hs0 : 0 < size) (hb0 : 0 < bytes)
  (v : Value) (ps : List α) (p : α) (cs : List Value) (hs : a.eval s = v) (hx : a.eval x = .slice (some ⟨W.heap.size, 0, none⟩) 1 1) (hp : R p cs) (hcs : cs.length = size) (h1 : ∀ u ∈ cs, u.oneCell' = true)
  (HO : OwnRow R e size W base v ps) (HB : Below base w0 W) (hbase : base ≤ W.heap.size) (hl : (ps.length + 1) * bytes ≤ 140737488355328)
  (h : ∀ v1 w1, OwnRow R e size w1 base v1 (ps ++ [p]) → Below base w0 w1 → W.grownBy w1 v.ownBlock → (v1.ownBlock = v.ownBlock ∨ ∃ b, v1.ownBlock = some b ∧ W.heap.size ≤ b) → wpList P ops Q rest (a.put o.dst v1) w1) :
  wpList P ops Q (o :: rest) a (W.alloc (.cells cs.toArray e)) := by
 obtain ⟨inner, hown, hr⟩ := HO
 refine print_append_cells base hgd s x t e z size bytes ho ht hinfo hz hs0 hb0 v ps.length inner cs hs hx hcs h1 hown HB hbase hl ?_
 intro v1 w1 hown1 hb1 hg1 hat1
 exact h v1 w1 ⟨inner ++ cs, by rw [List.length_append, List.length_singleton]; exact hown1, hr.snoc hp hcs⟩ hb1 hg1 hat1
end
section
variable {P : Program} {ops : Array Oper} {o : Oper} {a : Act} {Q : Exit → Act → World → Prop} {K : Act → World → Prop} {α : Type} {R : α → List Value → Prop}
end
theorem ReadsRow.inner_ {α : Type} {R : α → List Value → Prop} {size : Nat} {w : World} {ad : Addr} {n : Nat} {ps : List α} (h : ReadsRow R size w (some ad) n ps) :
  ∃ inner, Reps R size ps inner ∧ ∀ j u, inner[j]? = some u → w.cell? (ad.add j) = some u := by
 have key : ∀ m, m ≤ ps.length → ∃ inner, Reps R size (ps.take m) inner ∧ ∀ j u, inner[j]? = some u → w.cell? (ad.add j) = some u := by
  intro m
  induction m with
  | zero => exact fun _ => ⟨[], Reps.none _ _, fun j u hu => by simp at hu⟩
  | succ m ih =>
   intro hm
   obtain ⟨inner, hr, hc⟩ := ih (by omega)
   obtain ⟨ad', he, hcell⟩ := h.2.2 (by have := h.1; omega)
   injection he with he
   subst he
   obtain ⟨c, hcl, hp, hcc⟩ := hcell m _ (List.getElem?_eq_getElem (show m < ps.length by omega))
   refine ⟨inner ++ c, ?_, fun j u hu => ?_⟩
   ·rw [List.take_succ_eq_append_getElem (show m < ps.length by omega)]
    exact hr.snoc hp hcl
   ·have hil : inner.length = m * size := by rw [hr.1, List.length_take, Nat.min_eq_left (by omega)]
    rcases Nat.lt_or_ge j inner.length with hj | hj
    ·rw [List.getElem?_append_left hj] at hu
     exact hc j u hu
    ·rw [List.getElem?_append_right hj] at hu
     have := hcc (j - inner.length) u hu
     rwa [hil, Nat.add_sub_cancel' (by omega)] at this
 obtain ⟨inner, hr, hc⟩ := key ps.length (Nat.le_refl _)
 rw [List.take_length] at hr
 exact ⟨inner, hr, hc⟩
section
variable {α : Type} {P : Program}
end
section
variable {P : Program} {ops : Array Oper} {rest : List Oper} {o : Oper} {a : Act} {Q : Exit → Act → World → Prop}
end
structure Kd (α : Type) where
 sz : Nat
 E : List Nat
 K : World → α → List Value → Prop
 M : World → Nat → (Nat → Prop) → α → List Value → Prop
 K_len : ∀ {w x cs}, K w x cs → cs.length = sz
 K_one : ∀ {w x cs}, K w x cs → ∀ u ∈ cs, u.oneCell' = true
 K_below : ∀ {w w1 : World} {x cs}, Below w.heap.size w w1 → K w x cs → K w1 x cs
 K_of_M : ∀ {w base ok x cs}, M w base ok x cs → K w x cs
 M_mono : ∀ {w base ok ok' x cs}, (∀ k, ok k → ok' k) → M w base ok x cs → M w base ok' x cs
 M_bound : ∀ {w : World} {base ok x cs}, M w base ok x cs → M w base (fun k => ok k ∧ base ≤ k ∧ k < w.heap.size ∧ ∃ q, q ∈ E ∧ ∃ cells, w.heap[k]? = some (.cells cells q (0, 0))) x cs
 M_move : ∀ {w w1 : World} {base ok x cs}, (∀ k, ok k → w1.heap[k]? = w.heap[k]?) → M w base ok x cs → M w1 base ok x cs
 M_lower : ∀ {w base base' ok x cs}, base' ≤ base → M w base ok x cs → M w base' ok x cs
theorem own_move {w w1 : World} {base : Nat} {e : TypeId} {size n : Nat} {v : Value} {xs : List Value} (h : w.ownsRow base e size v n xs) (hm : ∀ k, v.ownBlock = some k → w1.heap[k]? = w.heap[k]?) : w1.ownsRow base e size v n xs := by
 obtain ⟨h1, h2⟩ := h
 refine ⟨h1, ?_⟩
 rcases h2 with h2 | ⟨g, cap, cur, rfl, hg, hh, r⟩
 ·exact .inl h2
 ·exact .inr ⟨g, cap, cur, rfl, hg, (hm g (by simp [Value.ownBlock])).trans hh, r⟩
theorem own_typed {w : World} {base : Nat} {e : TypeId} {size n : Nat} {v : Value} {xs : List Value} (h : w.ownsRow base e size v n xs) (k : Nat) (hk : v.ownBlock = some k) : ∃ cells, w.heap[k]? = some (.cells cells e (0, 0)) := by
 rcases h.2 with ⟨rfl, _⟩ | ⟨g, cap, cur, rfl, hg, hh, r⟩
 ·simp [Value.ownBlock] at hk
 ·have : g = k := by simpa [Value.ownBlock] using hk
  subst this
  exact ⟨cur, hh⟩
namespace Kd
def C {α : Type} (d : Kd α) (w : World) (A : Option Addr) (n : Nat) (xs : List α) : Prop := ReadsRow (d.K w) d.sz w A n xs
def R {α : Type} (d : Kd α) (e : Nat) (w : World) (base : Nat) (ok : Nat → Prop) (v : Value) (xs : List α) : Prop :=
 (∀ k, v.ownBlock = some k → ok k) ∧ OwnRow (d.M w base (fun k => ok k ∧ some k ≠ v.ownBlock)) e d.sz w base v xs
section
variable {α : Type} {d : Kd α} {e : Nat} {w w1 : World} {base : Nat} {ok ok' : Nat → Prop} {v : Value} {xs : List α}
theorem C_below {A : Option Addr} {n : Nat} (h : d.C w A n xs) (hb : Below w.heap.size w w1) : d.C w1 A n xs := ReadsRow.imp_ h hb (fun _ _ hp => d.K_below hb hp)
theorem R_nil (d : Kd α) (e : Nat) (w : World) (base : Nat) (ok : Nat → Prop) : d.R e w base ok (.slice none 0 0) [] := ⟨fun k hk => by simp [Value.ownBlock] at hk, OwnRow.none_ _ _ _ _ _⟩
theorem R_mono (h : d.R e w base ok v xs) (hok : ∀ k, ok k → ok' k) : d.R e w base ok' v xs := ⟨fun k hk => hok k (h.1 k hk), h.2.imp_ (fun _ _ hp => d.M_mono (fun k hk => ⟨hok k hk.1, hk.2⟩) hp)⟩
theorem R_bound (h : d.R e w base ok v xs) : d.R e w base (fun k => ok k ∧ base ≤ k ∧ k < w.heap.size ∧ ∃ q, q ∈ e :: d.E ∧ ∃ cells, w.heap[k]? = some (.cells cells q (0, 0))) v xs := by
 obtain ⟨h0, inner, ho, hr⟩ := h
 refine ⟨fun k hk => ?_, inner, ho, hr.imp_ (fun _ _ hp => d.M_mono (fun k hk => ?_) (d.M_bound hp))⟩
 ·obtain ⟨cells, hc⟩ := own_typed ho k hk
  exact ⟨h0 k hk, own_base ho k hk, own_lt ho k hk, e, List.mem_cons_self, cells, hc⟩
 ·obtain ⟨⟨h1, h2⟩, h3, h4, q, hq, hc⟩ := hk
  exact ⟨⟨h1, h3, h4, q, List.mem_cons_of_mem _ hq, hc⟩, h2⟩
theorem R_move (h : d.R e w base ok v xs) (hm : ∀ k, ok k → w1.heap[k]? = w.heap[k]?) : d.R e w1 base ok v xs := by
 obtain ⟨h0, inner, ho, hr⟩ := h
 exact ⟨h0, inner, own_move ho (fun k hk => hm k (h0 k hk)), hr.imp_ (fun _ _ hp => d.M_move (fun k hk => hm k hk.1) hp)⟩
theorem R_lower {base' : Nat} (h : d.R e w base ok v xs) (hb : base' ≤ base) : d.R e w base' ok v xs := by
 obtain ⟨h0, inner, ho, hr⟩ := h
 exact ⟨h0, inner, own_weaken ho hb, hr.imp_ (fun _ _ hp => d.M_lower hb hp)⟩
theorem R_step (h : d.R e w base ok v xs) (hm : ∀ k, ok k → k < w.heap.size → w1.heap[k]? = w.heap[k]?) : d.R e w1 base ok v xs :=
 R_mono (R_move (R_bound h) (fun k hk => hm k hk.1 hk.2.2.1)) (fun _ hk => hk.1)
theorem M_step {x : α} {cs : List Value} (h : d.M w base ok x cs) (hm : ∀ k, ok k → k < w.heap.size → w1.heap[k]? = w.heap[k]?) : d.M w1 base ok x cs :=
 d.M_mono (fun _ hk => hk.1) (d.M_move (fun k hk => hm k hk.1 hk.2.2.1) (d.M_bound h))
theorem R_below (h : d.R e w base ok v xs) (hb : Below w.heap.size w w1) : d.R e w1 base ok v xs := R_step h (fun k _ hk => hb.block k hk)
theorem M_below {x : α} {cs : List Value} (h : d.M w base ok x cs) (hb : Below w.heap.size w w1) : d.M w1 base ok x cs := M_step h (fun k _ hk => hb.block k hk)
theorem R_grown (h : d.R e w base ok v xs) {row : Option Nat} (hg : w.grownBy w1 row) (hok : ∀ k, ok k → some k ≠ row) : d.R e w1 base ok v xs := R_step h (fun k ho hk => hg.block k hk (hok k ho))
theorem R_far (h : d.R e w base ok v xs) {p : Addr} (hok : ∀ k, ok k → k ≠ p.block) (u : Value) : d.R e (w.setCell p u) base ok v xs := R_step h (fun k ho _ => Below.heap_setCell w p u k (hok k ho))
theorem R_types (h : d.R e w base ok v xs) {g t : Nat} {cells : Array Value} (hb : w.heap[g]? = some (.cells cells t (0, 0))) (ht : ∀ q, q ∈ e :: d.E → q ≠ t) : d.R e w base (fun k => ok k ∧ k ≠ g) v xs :=
 R_mono (R_bound h) (fun k hk => ⟨hk.1, by
  obtain ⟨_, _, _, q, hq, cells', hc⟩ := hk
  rintro rfl
  rw [hc] at hb
  injection hb with hb
  injection hb with _ hb
  exact ht q hq hb⟩)
theorem R_set (h : d.R e w base ok v xs) {g t : Nat} {cells : Array Value} (hb : w.heap[g]? = some (.cells cells t (0, 0))) (ht : ∀ q, q ∈ e :: d.E → q ≠ t) (j : Nat) (u : Value) : d.R e (w.setCell ⟨g, j, none⟩ u) base ok v xs :=
 R_mono (R_far (p := ⟨g, j, none⟩) (R_types h hb ht) (fun _ hk => hk.2) u) (fun _ hk => hk.1)
theorem R_reads (h : d.R e w base ok v xs) : ∃ A c, v = .slice A xs.length c ∧ xs.length ≤ c ∧ d.C w A xs.length xs := by
 obtain ⟨A, c, he, hl, hr⟩ := OwnRow.reads h.2
 exact ⟨A, c, he, hl, hr.imp_ (Below.refl _ _) (fun _ _ hp => d.K_of_M hp)⟩
theorem R_slice (h : d.R e w base ok v xs) : ∃ A c, v = .slice A xs.length c := by
 obtain ⟨A, c, he, _⟩ := R_reads h
 exact ⟨A, c, he⟩
theorem R_own (h : d.R e w base ok v xs) : ∃ inner, w.ownsRow base e d.sz v xs.length inner := by
 obtain ⟨_, inner, ho, _⟩ := h
 exact ⟨inner, ho⟩
theorem R_ne (h : d.R e w base ok v xs) {g t : Nat} {cells : Array Value} (hb : w.heap[g]? = some (.cells cells t (0, 0))) (ht : e ≠ t) : some g ≠ v.ownBlock := OwnRow.ne_block h.2 hb ht
end
def scalar {α : Type} (enc : α → Value) (h1 : ∀ x, (enc x).oneCell' = true) : Kd α where
 sz := 1
 E := []
 K := fun _ x cs => cs = [enc x]
 M := fun _ _ _ x cs => cs = [enc x]
 K_len := fun h => by rw [h]; rfl
 K_one := fun h u hu => by
  rw [h] at hu
  rw [List.mem_singleton.1 hu]
  exact h1 _
 K_below := fun _ h => h
 K_of_M := fun h => h
 M_mono := fun _ h => h
 M_bound := fun h => h
 M_move := fun _ h => h
 M_lower := fun _ h => h
def int (k : IntKind) : Kd Int := scalar (Value.int k) (fun _ => rfl)
def bool : Kd Bool := scalar Value.bool (fun _ => rfl)
def slice {α : Type} (e : Nat) (d : Kd α) : Kd (List α) where
 sz := 1
 E := e :: d.E
 K := fun w xs cs => ∃ A c, cs = [.slice A xs.length c] ∧ xs.length ≤ c ∧ d.C w A xs.length xs
 M := fun w base ok xs cs => ∃ v, cs = [v] ∧ d.R e w base ok v xs
 K_len := by
  rintro w x cs ⟨A, c, rfl, _⟩
  rfl
 K_one := by
  rintro w x cs ⟨A, c, rfl, _⟩ u hu
  rw [List.mem_singleton.1 hu]
  rfl
 K_below := by
  rintro w w1 x cs hb ⟨A, c, rfl, hl, hr⟩
  exact ⟨A, c, rfl, hl, C_below hr hb⟩
 K_of_M := by
  rintro w base ok x cs ⟨v, rfl, h⟩
  obtain ⟨A, c, rfl, hl, hr⟩ := R_reads h
  exact ⟨A, c, rfl, hl, hr⟩
 M_mono := by
  rintro w base ok ok' x cs hok ⟨v, rfl, h⟩
  exact ⟨v, rfl, R_mono h hok⟩
 M_bound := by
  rintro w base ok x cs ⟨v, rfl, h⟩
  exact ⟨v, rfl, R_bound h⟩
 M_move := by
  rintro w w1 base ok x cs hm ⟨v, rfl, h⟩
  exact ⟨v, rfl, R_move h hm⟩
 M_lower := by
  rintro w base base' ok x cs hb ⟨v, rfl, h⟩
  exact ⟨v, rfl, R_lower h hb⟩
def pair {α β : Type} (a : Kd α) (b : Kd β) : Kd (α × β) where
 sz := a.sz + b.sz
 E := a.E ++ b.E
 K := fun w x cs => ∃ c0 c1, cs = c0 ++ c1 ∧ a.K w x.1 c0 ∧ b.K w x.2 c1
 M := fun w base ok x cs => ∃ c0 c1, cs = c0 ++ c1 ∧ a.M w base ok x.1 c0 ∧ b.M w base ok x.2 c1
 K_len := by
  rintro w x cs ⟨c0, c1, rfl, h0, h1⟩
  rw [List.length_append, a.K_len h0, b.K_len h1]
 K_one := by
  rintro w x cs ⟨c0, c1, rfl, h0, h1⟩ u hu
  rcases List.mem_append.1 hu with hu | hu
  ·exact a.K_one h0 u hu
  ·exact b.K_one h1 u hu
 K_below := by
  rintro w w1 x cs hb ⟨c0, c1, rfl, h0, h1⟩
  exact ⟨c0, c1, rfl, a.K_below hb h0, b.K_below hb h1⟩
 K_of_M := by
  rintro w base ok x cs ⟨c0, c1, rfl, h0, h1⟩
  exact ⟨c0, c1, rfl, a.K_of_M h0, b.K_of_M h1⟩
 M_mono := by
  rintro w base ok ok' x cs hok ⟨c0, c1, rfl, h0, h1⟩
  exact ⟨c0, c1, rfl, a.M_mono hok h0, b.M_mono hok h1⟩
 M_bound := by
  rintro w base ok x cs ⟨c0, c1, rfl, h0, h1⟩
  refine ⟨c0, c1, rfl, a.M_mono ?_ (a.M_bound h0), b.M_mono ?_ (b.M_bound h1)⟩
  ·rintro k ⟨h2, h3, h4, q, hq, hc⟩
   exact ⟨h2, h3, h4, q, List.mem_append_left _ hq, hc⟩
  ·rintro k ⟨h2, h3, h4, q, hq, hc⟩
   exact ⟨h2, h3, h4, q, List.mem_append_right _ hq, hc⟩
 M_move := by
  rintro w w1 base ok x cs hm ⟨c0, c1, rfl, h0, h1⟩
  exact ⟨c0, c1, rfl, a.M_move hm h0, b.M_move hm h1⟩
 M_lower := by
  rintro w base base' ok x cs hb ⟨c0, c1, rfl, h0, h1⟩
  exact ⟨c0, c1, rfl, a.M_lower hb h0, b.M_lower hb h1⟩
def iso {α β : Type} (d : Kd α) (f : β → α) : Kd β where
 sz := d.sz
 E := d.E
 K := fun w x cs => d.K w (f x) cs
 M := fun w base ok x cs => d.M w base ok (f x) cs
 K_len := d.K_len
 K_one := d.K_one
 K_below := d.K_below
 K_of_M := d.K_of_M
 M_mono := d.M_mono
 M_bound := d.M_bound
 M_move := d.M_move
 M_lower := d.M_lower
def bot {α : Type} (sz : Nat) (E : List Nat) : Kd α where
 sz := sz
 E := E
 K := fun _ _ _ => False
 M := fun _ _ _ _ _ => False
 K_len := fun h => h.elim
 K_one := fun h => h.elim
 K_below := fun _ h => h
 K_of_M := fun h => h
 M_mono := fun _ h => h
 M_bound := fun h => h
 M_move := fun _ h => h
 M_lower := fun _ h => h
def upto {α : Type} (F : Kd α → Kd α) (sz : Nat) (E : List Nat) : Nat → Kd α
 | 0 => bot sz E
 | n + 1 => F (upto F sz E n)
theorem C_get {α : Type} {d : Kd α} {w : World} {A : Option Addr} {n : Nat} {xs : List α} (h : d.C w A n xs) (z : α) (i : Int) (h0 : 0 ≤ i) (h1 : i < n) :
  ∃ ad c, A = some ad ∧ c.length = d.sz ∧ d.K w (xs.getD i.toNat z) c ∧ ∀ j u, c[j]? = some u → w.cell? (ad.add (i.toNat * d.sz + j)) = some u := ReadsRow.get_ h z i h0 h1
theorem R_appended {α : Type} {d : Kd α} {e base : Nat} {ok okp : Nat → Prop} {W w1 : World} {v v1 : Value} {xs : List α} {p : α} {inner cs : List Value} (h0 : ∀ k, v.ownBlock = some k → ok k) (hr : Reps (d.M W base (fun k => ok k ∧ some k ≠ v.ownBlock)) d.sz xs inner) (hp : d.M W base okp p cs) (hokp : ∀ k, okp k → ok k ∧ some k ≠ v.ownBlock) (hfresh : ∀ k, W.heap.size ≤ k → ok k)
  (hown : w1.ownsRow base e d.sz v1 (xs.length + 1) (inner ++ cs)) (hg : W.grownBy w1 v.ownBlock) (hat : v1.ownBlock = v.ownBlock ∨ ∃ b, v1.ownBlock = some b ∧ W.heap.size ≤ b) : d.R e w1 base ok v1 (xs ++ [p]) := by
 have hne : ∀ k, some k ≠ v.ownBlock → k < W.heap.size → some k ≠ v1.ownBlock := by
  intro k hk hlt
  rcases hat with hat | ⟨b, hb, hle⟩
  ·rw [hat]; exact hk
  ·rw [hb]
   intro he
   injection he with he
   omega
 have step : ∀ {q : α} {c : List Value} {o : Nat → Prop}, d.M W base o q c → (∀ k, o k → ok k ∧ some k ≠ v.ownBlock) → d.M w1 base (fun k => ok k ∧ some k ≠ v1.ownBlock) q c := by
  intro q c o hq ho
  have h1 := d.M_move (w1 := w1) (fun k hk => hg.block k hk.2.2.1 (ho k hk.1).2) (d.M_bound hq)
  exact d.M_mono (fun k hk => ⟨(ho k hk.1).1, hne k (ho k hk.1).2 hk.2.2.1⟩) h1
 refine ⟨fun k hk => ?_, inner ++ cs, by rw [List.length_append, List.length_singleton]; exact hown, ?_⟩
 ·rcases hat with hat | ⟨b, hb, hle⟩
  ·exact h0 k (hat ▸ hk)
  ·rw [hb] at hk
   injection hk with hk
   exact hfresh k (by omega)
 ·exact (hr.imp_ (fun _ _ hq => step hq (fun _ hk => hk))).snoc (step hp hokp) (d.K_len (d.K_of_M hp))
section
variable {P : Program} {ops : Array Oper} {rest : List Oper} {o : Oper} {a : Act} {Q : Exit → Act → World → Prop} {α : Type}
theorem R_append (d : Kd α) {w0 W : World} (base : Nat) (hgd : o.guard = none) (s x : Operand) (t e : TypeId) (z : Value) (bytes : Nat)
  (ho : o.op = .call { callee := .builtin .append, args := #[s, x], argTypes := #[t, t] })
  (ht : P.underlying t = some (.slice e)) (hinfo : (P.info? e).map (fun i => (i.zero, i.size, i.bytes)) = some (some z, d.sz, bytes)) (hz : z.cells.size = d.sz) (hs0 : 0 < d.sz) (hb0 : 0 < bytes)
  (v : Value) (xs : List α) (p : α) (cs : List Value) (ok okp : Nat → Prop) (hs : a.eval s = v) (hx : a.eval x = .slice (some ⟨W.heap.size, 0, none⟩) 1 1) (hp : d.M W base okp p cs) (hokp : ∀ k, okp k → ok k ∧ some k ≠ v.ownBlock) (hfresh : ∀ k, W.heap.size ≤ k → ok k)
  (HO : d.R e W base ok v xs) (HB : Below base w0 W) (hbase : base ≤ W.heap.size) (hl : (xs.length + 1) * bytes ≤ 140737488355328)
  (h : ∀ v1 w1, d.R e w1 base ok v1 (xs ++ [p]) → Below base w0 w1 → W.grownBy w1 v.ownBlock → (v1.ownBlock = v.ownBlock ∨ ∃ b, v1.ownBlock = some b ∧ W.heap.size ≤ b) → wpList P ops Q rest (a.put o.dst v1) w1) :
  wpList P ops Q (o :: rest) a (W.alloc (.cells cs.toArray e)) := by
 obtain ⟨h0, inner, hown, hr⟩ := HO
 refine print_append_cells base hgd s x t e z d.sz bytes ho ht hinfo hz hs0 hb0 v xs.length inner cs hs hx (d.K_len (d.K_of_M hp)) (d.K_one (d.K_of_M hp)) hown HB hbase hl ?_
 intro v1 w1 hown1 hb1 hg1 hat1
 exact h v1 w1 (R_appended h0 hr hp hokp hfresh hown1 hg1 hat1) hb1 hg1 hat1
end
section
variable {P : Program} {ops : Array Oper} {o : Oper} {a : Act} {Q : Exit → Act → World → Prop} {Kc : Act → World → Prop} {α : Type}
end
theorem reads_of_C {α : Type} {enc : α → Value} {d : α} {h1 : ∀ x, (enc x).oneCell' = true} {w : World} {A : Option Addr} {n : Nat} {xs : List α} (h : (scalar enc h1).C w A n xs) : ReadsOf enc d w A n xs := by
 refine ⟨h.1, h.2.1, fun hn => ?_⟩
 obtain ⟨ad, e, hc⟩ := h.2.2 hn
 refine ⟨ad, e, fun j hj => ?_⟩
 have hl : j < xs.length := by have := h.1; omega
 obtain ⟨c, _, hK, hcell⟩ := hc j _ (List.getElem?_eq_getElem hl)
 have hK' : c = [enc xs[j]] := hK
 subst hK'
 have := hcell 0 _ rfl
 simpa [scalar, List.getD_eq_getElem?_getD, List.getElem?_eq_getElem hl] using this
end Kd
namespace Kd
section
variable {α : Type} {F : Kd α → Kd α} {sz : Nat} {E : List Nat} {hs : ∀ n, (upto F sz E n).sz = sz} {hE : ∀ n q, q ∈ (upto F sz E n).E → q ∈ E}
end
end Kd
namespace Kd
end Kd
namespace Kd
section
variable {α β : Type} {d : Kd α} {d' : Kd β} {e e' : Nat} {w w1 W : World} {base b b' : Nat} {ok ok' okv oku : Nat → Prop} {v u : Value} {xs : List α} {ys : List β}
theorem R_alloc (h : d.R e w base ok v xs) (o : Obj) : d.R e (w.alloc o) base ok v xs := R_below h (below_alloc (Below.refl _ _) o)
theorem R_drew (h : d.R e w base ok v xs) : d.R e w.drew base ok v xs := R_below h (below_drew (Below.refl _ _))
theorem R_drewN (h : d.R e w base ok v xs) (m : Nat) : d.R e (w.drewN m) base ok v xs := R_below h (pw_below_drewN (Below.refl _ _) m)
theorem C_alloc {A : Option Addr} {n : Nat} (h : d.C w A n xs) (o : Obj) : d.C (w.alloc o) A n xs := C_below h (below_alloc (Below.refl _ _) o)
theorem C_drew {A : Option Addr} {n : Nat} (h : d.C w A n xs) : d.C w.drew A n xs := C_below h (below_drew (Below.refl _ _))
theorem C_drewN {A : Option Addr} {n : Nat} (h : d.C w A n xs) (m : Nat) : d.C (w.drewN m) A n xs := C_below h (pw_below_drewN (Below.refl _ _) m)
theorem C_nil (d : Kd α) (w : World) : d.C w none ([] : List α).length [] := ⟨rfl, by simp, fun h => absurd h (Nat.lt_irrefl 0)⟩
theorem R_reads' {A : Option Addr} {n c : Nat} (h : d.R e w base ok (.slice A n c) xs) : n = xs.length ∧ n ≤ c ∧ d.C w A xs.length xs := by
 obtain ⟨A', c', he, hl, hr⟩ := R_reads h
 injection he with h1 h2 h3
 subst h1
 exact ⟨h2, by omega, hr⟩
theorem R_lt (h : d.R e w base ok v xs) : ∀ k, v.ownBlock = some k → k < w.heap.size := by
 obtain ⟨inner, ho⟩ := R_own h
 exact own_lt ho
theorem R_base (h : d.R e w base ok v xs) : ∀ k, v.ownBlock = some k → base ≤ k := by
 obtain ⟨inner, ho⟩ := R_own h
 exact own_base ho
theorem R_elder (hu : d'.R e' W b oku u ys) (h : d.R e w1 W.heap.size okv v xs) (hb : Below W.heap.size W w1) : d'.R e' w1 b (fun k => oku k ∧ some k ≠ v.ownBlock) u ys := by
 obtain ⟨inner, ho⟩ := R_own h
 exact R_mono (R_move (R_bound hu) (fun k hk => hb.block k hk.2.2.1)) (fun k hk => ⟨hk.1, fun he => by have := own_base ho k he.symm; have := hk.2.2.1; omega⟩)
end
section
variable {w W : World} {A : Option Addr} {n : Nat}
theorem at_int {k : IntKind} {xs : List Int} (h : (Kd.int k).C w A n xs) (i : Int) (h0 : 0 ≤ i) (h1 : i < n) : ∃ ad, A = some ad ∧ w.cell? (ad.add i.toNat) = some (.int k (rd xs i)) :=
 ReadsOf.at_ (reads_of_C (enc := Value.int k) (d := (0 : Int)) (h1 := fun _ => rfl) h) i h0 h1
variable {α : Type} {enc : α → Value} {h1 : ∀ x, (enc x).oneCell' = true} {e base g cap : Nat} {ok : Nat → Prop} {xs : List α}
end
section
variable {P : Program} {ops : Array Oper} {rest : List Oper} {o : Oper} {a : Act} {Q : Exit → Act → World → Prop}
theorem event_run {W w1 : World} {v : Value} (hgd : o.guard = none) (hrun : (execOp a.eval o).run P W = .ok (.value v) w1) (h : wpList P ops Q rest (a.put o.dst v) w1) : wpList P ops Q (o :: rest) a W := by
 refine wpList_plain hgd fun K hK => ?_
 unfold Oper.wp
 rw [hrun]
 exact hK _ _ h
variable {α : Type}
theorem R_lit (d : Kd α) {w0 W : World} (base e : Nat) (hgd : o.guard = none) {N : Tmp} (_hd : o.dst = some N) {xs : List α} {inner : List Value} {ok okp : Nat → Prop}
  (hrun : (execOp a.eval o).run P W = .ok (.value (.slice (some ⟨W.heap.size, 0, none⟩) xs.length xs.length)) (W.alloc (.cells inner.toArray e)))
  (hrep : Reps (d.M W base okp) d.sz xs inner) (hok : ∀ k, okp k → ok k) (hfresh : ok W.heap.size) (HB : Below base w0 W) (hbase : base ≤ W.heap.size) (hm : xs.length ≤ 9223372036854775807)
  (h : ∀ v1 w1, d.R e w1 base ok v1 xs → Below base w0 w1 → W.grownBy w1 none → (∃ b, v1.ownBlock = some b ∧ W.heap.size ≤ b) → wpList P ops Q rest (a.put o.dst v1) w1) : wpList P ops Q (o :: rest) a W := by
 refine event_run hgd hrun (h _ _ ⟨fun k hk => ?_, inner, ?_, ?_⟩ (HB.alloc hbase _) (World.grownBy_alloc W _ none) ⟨W.heap.size, by simp [Value.ownBlock], Nat.le_refl _⟩)
 ·have : W.heap.size = k := by simpa [Value.ownBlock] using hk
  subst this
  exact hfresh
 ·have h2 := World.ownsRow_lit (base := base) (e := e) (size := d.sz) W inner.toArray xs.length hbase (by simpa [maxLen] using hm) (by simpa using hrep.1)
  simpa using h2
 ·refine hrep.imp_ (fun p c hp => d.M_mono (fun k hk => ⟨hok k hk.1, fun he => ?_⟩) (M_below (d.M_bound hp) (below_alloc (Below.refl _ _) _)))
  have h3 : k = W.heap.size := by simpa [Value.ownBlock] using he
  have := hk.2.2.1
  omega
end
end Kd
section
variable {P : Program}
theorem cut_to (t e : TypeId) (kh : IntKind) {i : TypeInfo} (ht : P.underlying t = some (.slice e)) (hi : P.info? e = some i) (A : Option Addr) (n c : Nat) (j : Int) (h0 : 0 ≤ j) (hm : j ≤ n) (hc : n ≤ c) :
  ∀ W : World, (Instr.slice t (.slice A n c) none (some (.int kh j)) none).run P W = .ok (.slice A j.toNat c) W := by
 intro W
 have hel : P.elem t = e := by simp [Program.elem, ht]
 have hu : P.underlying t = some (.slice (P.elem t)) := by rw [hel]; exact ht
 have ha : (A.map fun x => x.add 0) = A := by cases A <;> simp [Addr.add]
 rw [run_slice_h W t A n c hu kh j h0 (by omega), hel]
 simp [sizeOf, typeInfo, hi, sliced, Result.andThen, ha]
end
def QRow (w : World) (base : Nat) (e : TypeId) (size : Nat) (v : Value) (n : Nat) (xs : List Value) : Prop :=
 xs.length = n * size ∧
 ((n = 0 ∧ ∃ A, v = .slice A 0 0 ∧ ∀ a, A = some a → base ≤ a.block ∧ ∃ cur, w.heap[a.block]? = some (.cells cur e (0, 0))) ∨
  ∃ g off cap cur, v = .slice (some ⟨g, off * size, none⟩) n cap ∧ base ≤ g ∧ w.heap[g]? = some (.cells cur e (0, 0)) ∧ n ≤ cap ∧ off + cap ≤ maxLen ∧ cur.size = (off + cap) * size ∧ (cur.toList.drop (off * size)).take (n * size) = xs)
section
variable {w w1 : World} {base n size : Nat} {e : TypeId} {v : Value} {xs : List Value}
theorem add_at (g o j : Nat) : (⟨g, o, none⟩ : Addr).add j = ⟨g, o + j, none⟩ := by unfold Addr.add; split <;> simp_all
end
section
variable {P : Program}
end
namespace Kd
def Q {α : Type} (d : Kd α) (e : Nat) (w : World) (base : Nat) (ok : Nat → Prop) (v : Value) (xs : List α) : Prop :=
 (∀ k, v.ownBlock = some k → ok k) ∧ ∃ inner, QRow w base e d.sz v xs.length inner ∧ Reps (d.M w base (fun k => ok k ∧ some k ≠ v.ownBlock)) d.sz xs inner
section
variable {α : Type} {d : Kd α} {e : Nat} {w w1 W : World} {base : Nat} {ok ok' : Nat → Prop} {v : Value} {xs : List α}
end
section
variable {P : Program} {ops : Array Oper} {rest : List Oper} {o : Oper} {a : Act} {Q' : Exit → Act → World → Prop} {Kc : Act → World → Prop} {α : Type}
end
end Kd
namespace Kd
section
variable {α : Type} {d : Kd α} {e e' : Nat} {w w1 W : World} {base : Nat} {ok : Nat → Prop} {u v : Value} {xs : List α}
theorem R_typed (h : d.R e w base ok v xs) : ∀ k, v.ownBlock = some k → ∃ cells, w.heap[k]? = some (.cells cells e (0, 0)) := by
 obtain ⟨inner, ho⟩ := R_own h
 exact fun k hk => own_typed ho k hk
theorem R_over' (h : d.R e W base ok u xs) (hty : ∀ k, v.ownBlock = some k → ∃ cells, W.heap[k]? = some (.cells cells e' (0, 0))) (ht : ∀ q, q ∈ e :: d.E → q ≠ e') (hg : W.grownBy w1 v.ownBlock) : d.R e w1 base ok u xs := by
 refine R_mono (R_move (R_bound h) (fun k hk => hg.block k hk.2.2.1 (fun he => ?_))) (fun _ hk => hk.1)
 obtain ⟨_, _, _, q, hq, cells, hc⟩ := hk
 obtain ⟨cells', hc'⟩ := hty k he.symm
 rw [hc] at hc'
 injection hc' with hc'
 injection hc' with _ hc'
 exact ht q hq hc'
theorem R_apart' (h : d.R e W base ok u xs) (hty : ∀ k, v.ownBlock = some k → ∃ cells, W.heap[k]? = some (.cells cells e' (0, 0))) (ht : ∀ q, q ∈ e :: d.E → q ≠ e') : d.R e W base (fun k => ok k ∧ some k ≠ v.ownBlock) u xs := by
 refine R_mono (R_bound h) (fun k hk => ⟨hk.1, fun he => ?_⟩)
 obtain ⟨_, _, _, q, hq, cells, hc⟩ := hk
 obtain ⟨cells', hc'⟩ := hty k he.symm
 rw [hc] at hc'
 injection hc' with hc'
 injection hc' with _ hc'
 exact ht q hq hc'
theorem R_elder' (hu : d.R e W base ok u xs) (hbase : ∀ k, v.ownBlock = some k → W.heap.size ≤ k) (hb : Below W.heap.size W w1) : d.R e w1 base (fun k => ok k ∧ some k ≠ v.ownBlock) u xs :=
 R_mono (R_move (R_bound hu) (fun k hk => hb.block k hk.2.2.1)) (fun k hk => ⟨hk.1, fun he => by have := hbase k he.symm; have := hk.2.2.1; omega⟩)
theorem R_new' (h : d.R e w1 W.heap.size ok v xs) (hlt : ∀ k, u.ownBlock = some k → k < W.heap.size) : d.R e w1 W.heap.size (fun k => ok k ∧ some k ≠ u.ownBlock) v xs :=
 R_mono (R_bound h) (fun k hk => ⟨hk.1, fun he => by have := hlt k he.symm; have := hk.2.1; omega⟩)
theorem fresh' (hlt : ∀ k, u.ownBlock = some k → k < W.heap.size) : ∀ k, W.heap.size ≤ k → some k ≠ u.ownBlock := fun k hk he => by have := hlt k he.symm; omega
end
end Kd
namespace Kd
section
variable {α : Type} {d : Kd α} {e base g n cap : Nat} {ok okp : Nat → Prop} {W : World} {xs : List α}
theorem R_elem (h : d.R e W base ok (.slice (some ⟨g, 0, none⟩) n cap) xs) (z : α) (i : Int) (h0 : 0 ≤ i) (h1 : i < n) :
  ∃ c, c.length = d.sz ∧ d.M W base (fun k => ok k ∧ k ≠ g) (xs.getD i.toNat z) c ∧ (∀ j u, c[j]? = some u → W.cell? ⟨g, i.toNat * d.sz + j, none⟩ = some u) ∧ ∀ j, W.frozen? ⟨g, i.toNat * d.sz + j, none⟩ = false := by
 obtain ⟨hn, hnc, hC⟩ := R_reads' h
 obtain ⟨_, inner, ho, hr⟩ := h
 have hil : i.toNat < xs.length := by omega
 have hseg : i.toNat * d.sz + d.sz ≤ inner.length := by rw [hr.1, ← Nat.succ_mul]; exact Nat.mul_le_mul_right _ hil
 have hM := hr.2 i.toNat _ (List.getElem?_eq_getElem hil)
 refine ⟨(inner.drop (i.toNat * d.sz)).take d.sz, by rw [List.length_take, List.length_drop]; omega, ?_, fun j u hu => ?_, fun j => ?_⟩
 ·rw [List.getD_eq_getElem?_getD, List.getElem?_eq_getElem hil]
  exact d.M_mono (fun k hk => ⟨hk.1, fun he => hk.2 (by rw [he]; simp [Value.ownBlock])⟩) hM
 ·rw [List.getElem?_take] at hu
  split at hu
  ·rw [List.getElem?_drop] at hu
   have := ho.cells (g := g) (by simp [Value.ownBlock]) _ u hu
   rwa [add_plain] at this
  ·cases hu
 ·obtain ⟨cells, hc⟩ := own_typed ho g (by simp [Value.ownBlock])
  exact blk_frozen hc _
end
end Kd
namespace Kd
section
variable {α : Type} {F : Kd α → Kd α} {sz : Nat} {E : List Nat} {hs : ∀ n, (upto F sz E n).sz = sz} {hE : ∀ n q, q ∈ (upto F sz E n).E → q ∈ E}
end
end Kd
namespace Kd
theorem reps_append {α : Type} {R : α → List Value → Prop} {size : Nat} {ps qs : List α} {cs ds : List Value} (h : Reps R size ps cs) (h' : Reps R size qs ds) : Reps R size (ps ++ qs) (cs ++ ds) := by
 refine ⟨by rw [List.length_append, List.length_append, h.1, h'.1, Nat.add_mul], fun j p hj => ?_⟩
 rcases Nat.lt_or_ge j ps.length with hlt | hge
 ·rw [List.getElem?_append_left hlt] at hj
  have hle : j * size + size ≤ cs.length := by rw [h.1, ← Nat.succ_mul]; exact Nat.mul_le_mul_right _ hlt
  rw [List.drop_append_of_le_length (by omega), List.take_append_of_le_length (by rw [List.length_drop]; omega)]
  exact h.2 j p hj
 ·rw [List.getElem?_append_right hge] at hj
  have h2 := h'.2 (j - ps.length) p hj
  have hle : ps.length * size ≤ j * size := Nat.mul_le_mul_right _ hge
  rw [List.drop_append, List.drop_eq_nil_of_le (by rw [h.1]; exact hle), List.nil_append, h.1, ← Nat.sub_mul]
  exact h2
section
variable {P : Program} {ops : Array Oper} {rest : List Oper} {o : Oper} {a : Act} {Q : Exit → Act → World → Prop} {α : Type}
theorem R_append_rows (d : Kd α) {Rr : α → List Value → Prop} {w0 W : World} (base : Nat) (hgd : o.guard = none) (s x : Operand) (t e : TypeId) (z : Value) (bytes : Nat)
  (ho : o.op = .call { callee := .builtin .append, args := #[s, x], argTypes := #[t, t] })
  (ht : P.underlying t = some (.slice e)) (hinfo : (P.info? e).map (fun i => (i.zero, i.size, i.bytes)) = some (some z, d.sz, bytes)) (hz : z.cells.size = d.sz) (hs0 : 0 < d.sz) (hb0 : 0 < bytes)
  (v : Value) (xs ys : List α) (A : Option Addr) (m c : Nat) (ok okp : Nat → Prop) (hs : a.eval s = v) (hx : a.eval x = .slice A m c)
  (HO : d.R e W base ok v xs) (HR : ReadsRow Rr d.sz W A m ys) (hKM : ∀ x cs, Rr x cs → d.M W base okp x cs) (hokp : ∀ k, okp k → ok k ∧ some k ≠ v.ownBlock) (hfresh : ∀ k, W.heap.size ≤ k → ok k)
  (HB : Below base w0 W) (hbase : base ≤ W.heap.size) (hl : (xs.length + m) * bytes ≤ 140737488355328)
  (h : ∀ v1 w1, d.R e w1 base ok v1 (xs ++ ys) → Below base w0 w1 → W.grownBy w1 v.ownBlock → (v1.ownBlock = v.ownBlock ∨ ∃ b, v1.ownBlock = some b ∧ W.heap.size ≤ b) → wpList P ops Q rest (a.put o.dst v1) w1) :
  wpList P ops Q (o :: rest) a W := by
 obtain ⟨i0, hi, hzz⟩ := Option.map_eq_some_iff.1 hinfo
 simp only [Prod.mk.injEq] at hzz
 obtain ⟨hz0, hz1, hz2⟩ := hzz
 have hm : ys.length = m := HR.1
 have hlen : xs.length + m ≤ 140737488355328 := Nat.le_trans (Nat.le_mul_of_pos_right _ hb0) hl
 obtain ⟨hok, inner, hown, hr⟩ := HO
 have hrun : ∃ v1 w1, (Builtin.append_ #[t, t] o.type #[v, .slice A m c]).run P W = .ok v1 w1 ∧ d.R e w1 base ok v1 (xs ++ ys) ∧ W.grownBy w1 v.ownBlock ∧ (v1.ownBlock = v.ownBlock ∨ ∃ b, v1.ownBlock = some b ∧ W.heap.size ≤ b) := by
  rcases A with _ | ad
  ·have h0 : m = 0 := by
    rcases Nat.eq_zero_or_pos m with h0 | h0
    ·exact h0
    ·obtain ⟨ad, h, _⟩ := HR.2.2 h0
     cases h
   subst h0
   obtain rfl : ys = [] := List.eq_nil_of_length_eq_zero hm
   refine ⟨v, W, ?_, by rw [List.append_nil]; exact ⟨hok, inner, hown, hr⟩, World.grownBy.refl W _, .inl rfl⟩
   rcases hown.2 with ⟨rfl, hn⟩ | ⟨g, cap, cur, rfl, _, _, hnc, _⟩
   ·simp [Builtin.append_, run_underlying ht, sizeOf, typeInfo, hi, Builtin.lenOf, Builtin.firstCells]
   ·simp [Builtin.append_, run_underlying ht, sizeOf, typeInfo, hi, Builtin.lenOf, Builtin.firstCells, hnc, storeCells]
  ·obtain ⟨news, hnr, hnc⟩ := ReadsRow.inner_ HR
   have hnM : Reps (d.M W base okp) d.sz ys news := hnr.imp_ (fun p c hp => hKM p c hp)
   have hone : ∀ u ∈ news, u.oneCell' = true := by
    intro u hu
    obtain ⟨q, hq, rfl⟩ := List.mem_iff_getElem.1 hu
    have hql : q / d.sz < ys.length := by
     rw [Nat.div_lt_iff_lt_mul hs0]
     rw [← hnM.1]
     exact hq
    have hc := hnM.2 (q / d.sz) _ (List.getElem?_eq_getElem hql)
    refine d.K_one (d.K_of_M hc) _ ?_
    rw [List.mem_iff_getElem?]
    refine ⟨q % d.sz, ?_⟩
    rw [List.getElem?_take, if_pos (Nat.mod_lt _ hs0), List.getElem?_drop, Nat.mul_comm, Nat.div_add_mod, List.getElem?_eq_getElem hq]
   obtain ⟨v1, w1, hrun, h2, hg, _, hat⟩ := run_append_own_at (P := P) W base t o.type e i0 z d.sz bytes ht hi hz0 hz1 hz2 hz hs0 v xs.length inner hown ad m c news (by rw [hnM.1, hm]) hnc hone (by simp only [maxLen]; omega) hl hbase
   have hat' : v1.ownBlock = v.ownBlock ∨ ∃ b, v1.ownBlock = some b ∧ W.heap.size ≤ b := by
    rcases hat with hat | hat
    ·exact .inl hat
    ·exact .inr ⟨_, hat, Nat.le_refl _⟩
   have hne : ∀ k, some k ≠ v.ownBlock → k < W.heap.size → some k ≠ v1.ownBlock := by
    intro k hk hlt
    rcases hat' with hat | ⟨b, hb, hle⟩
    ·rw [hat]; exact hk
    ·rw [hb]
     intro he
     injection he with he
     omega
   have step : ∀ {q : α} {c : List Value} {o : Nat → Prop}, d.M W base o q c → (∀ k, o k → ok k ∧ some k ≠ v.ownBlock) → d.M w1 base (fun k => ok k ∧ some k ≠ v1.ownBlock) q c := by
    intro q c o hq ho
    have h1 := d.M_move (w1 := w1) (fun k hk => hg.block k hk.2.2.1 (ho k hk.1).2) (d.M_bound hq)
    exact d.M_mono (fun k hk => ⟨(ho k hk.1).1, hne k (ho k hk.1).2 hk.2.2.1⟩) h1
   refine ⟨v1, w1, hrun, ⟨fun k hk => ?_, inner ++ news, by rw [List.length_append, hm]; exact h2, reps_append (hr.imp_ (fun _ _ hq => step hq (fun _ hk => hk))) (hnM.imp_ (fun _ _ hq => step hq hokp))⟩, hg, hat'⟩
   rcases hat' with hat | ⟨b, hb, hle⟩
   ·exact hok k (hat ▸ hk)
   ·rw [hb] at hk
    injection hk with hk
    exact hfresh k (by omega)
 obtain ⟨v1, w1, hr1, h1, hg, hat⟩ := hrun
 refine wpList_plain hgd fun K hK => ?_
 unfold Oper.wp execOp
 simp only [ho, resolve, invoke, builtin, Sem.run_bind, Sem.run_pure, Result.andThen_ok, List.map_toArray, List.map_cons, List.map_nil, hs, hx, hr1]
 exact hK _ _ (h v1 w1 h1 (HB.grown hg hbase (own_base hown)) hg hat)
end
end Kd
theorem gate_ {P : Program} {ops : Array Oper} {rest : List Oper} {o : Oper} {a : Act} {Q : Exit → Act → World → Prop} {W : World} (op : Op) (_ho : o.op = op) (h : wpList P ops Q (o :: rest) a W) : wpList P ops Q (o :: rest) a W := h
namespace Kd
section
variable {P : Program} {ops : Array Oper} {rest : List Oper} {o : Oper} {a : Act} {Q : Exit → Act → World → Prop} {α : Type}
end
end Kd
theorem add_add (a : Addr) (i j : Nat) : (a.add i).add j = a.add (i + j) := by
 unfold Addr.add
 by_cases h1 : i = 0 <;> by_cases h2 : j = 0 <;> simp [h1, h2, Nat.add_assoc]
namespace Kd
section
variable {α : Type} {k : Kd α} {w : World} {A : Option Addr} {xs : List α} {m c : Nat}
theorem C_take (h : k.C w A xs.length xs) (hm : m ≤ xs.length) : k.C w A (xs.take m).length (xs.take m) := by
 have hl : (xs.take m).length = m := by rw [List.length_take]; omega
 refine ⟨rfl, by rw [hl]; have := h.2.1; omega, fun hp => ?_⟩
 obtain ⟨ad, e, hc⟩ := h.2.2 (by omega)
 refine ⟨ad, e, fun j p hj => hc j p ?_⟩
 rw [List.getElem?_take] at hj
 split at hj
 ·exact hj
 ·cases hj
end
end Kd
section
variable {P : Program}
end
theorem below_size {w W : World} (h : Below w.heap.size w W) : w.heap.size ≤ W.heap.size := h.size
theorem below_step {w W w2 : World} (h : Below w.heap.size w W) (k : Below W.heap.size W w2) : Below w.heap.size w w2 := below_then h h.size k
theorem ReadsInt.drewN {W : World} {k : IntKind} {A : Option Addr} {n : Nat} {xs : List Int} (h : ReadsInt W k A n xs) (m : Nat) : ReadsInt (W.drewN m) k A n xs := h
theorem below_set {w W : World} {g j : Nat} {v : Value} (h : Below w.heap.size w W) (hg : w.heap.size ≤ g) : Below w.heap.size w (W.setCell ⟨g, j, none⟩ v) := h.setCell hg _
theorem add_block (a : Addr) (i : Nat) : (a.add i).block = a.block := by unfold Addr.add; split <;> rfl
theorem ReadsOf.drewN {α : Type} {enc : α → Value} {d : α} {W : World} {A : Option Addr} {n : Nat} {xs : List α} (h : ReadsOf enc d W A n xs) (m : Nat) : ReadsOf enc d (W.drewN m) A n xs := h
theorem cell_far {W : World} {p a : Addr} (h : a.block ≠ p.block) (u : Value) : (W.setCell p u).cell? a = W.cell? a := by
 have := Below.heap_setCell W p u a.block h
 simp [World.cell?, this]
theorem blk_put {w : World} {g : Nat} {t : TypeId} {cs cs' : Array Value} (h : w.heap[g]? = some (.cells cs t (0, 0))) (i : Nat) (u : Value) (e : cs.setIfInBounds i u = cs') : (w.setCell ⟨g, i, none⟩ u).heap[g]? = some (.cells cs' t (0, 0)) := e ▸ blk_set h i u
theorem below_drew1 {base : Nat} {w W : World} (h : Below base w W) : Below base w W.drew := h.drew
namespace Kd
section
variable {α β : Type} {d : Kd α} {d' : Kd β} {e e' base base' n : Nat} {ok ok' : Nat → Prop} {w W w1 W1 : World} {v u : Value} {xs : List α} {ys : List β} {A : Option Addr} {c : Nat}
end
section
variable {α : Type} {enc : α → Value} {h1 : ∀ x, (enc x).oneCell' = true} {w W : World} {A : Option Addr} {n g : Nat} {xs : List α}
end
end Kd
namespace Kd
section
variable {α : Type} {d : Kd α} {e base g : Nat} {ok : Nat → Prop} {w w1 : World} {v : Value} {xs : List α} {o : Obj}
theorem freshB (hb : w.heap[g]? = some o) : ∀ k, w.heap.size ≤ k → k ≠ g := fun k hk => by have := blk_lt hb; omega
end
end Kd
section
variable {P : Program} {ops : Array Oper} {rest : List Oper} {o : Oper} {a : Act} {Q : Exit → Act → World → Prop}
theorem box_event {W : World} (hgd : o.guard = none) {N : Tmp} (_hd : o.dst = some N) {cs : Array Value} {t : TypeId}
  (hrun : (execOp a.eval o).run P W = .ok (.value (.pointer (some ⟨W.heap.size, 0, none⟩))) (W.alloc (.cells cs t (0, 0))))
  (h : ∀ g, g = W.heap.size → ∀ w1, w1.heap[g]? = some (.cells cs t (0, 0)) → Below W.heap.size W w1 → wpList P ops Q rest (a.put o.dst (.pointer (some ⟨g, 0, none⟩))) w1) : wpList P ops Q (o :: rest) a W :=
 Kd.event_run hgd hrun (h _ rfl _ (blk_new W _) (below_alloc (Below.refl _ _) _))
end
namespace Kd
section
variable {α : Type} {enc : α → Value} {h1 : ∀ x, (enc x).oneCell' = true} {e base g n cap : Nat} {ok : Nat → Prop} {W : World} {xs : List α}
end
end Kd
section
variable {P : Program} {ops : Array Oper} {rest : List Oper} {o : Oper} {a : Act} {Q : Exit → Act → World → Prop}
end
namespace Kd
section
variable {α : Type} {enc : α → Value} {h1 : ∀ x, (enc x).oneCell' = true} {e base g n cap : Nat} {ok : Nat → Prop} {W : World} {xs : List α}
end
end Kd
section
variable {P : Program} {ops : Array Oper} {rest : List Oper} {o : Oper} {a : Act} {Q : Exit → Act → World → Prop} {W : World}
theorem gate_dst {N : Tmp} (_hN : o.dst = some N) (h : wpList P ops Q (o :: rest) a W) : wpList P ops Q (o :: rest) a W := h
end
section
variable {P : Program} {ops : Array Oper} {o : Oper} {a : Act} {Q : Exit → Act → World → Prop} {Kc : Act → World → Prop}
namespace Kd
variable {α : Type}
end Kd
end
section
variable {P : Program} {tmps : Array Value} {w : World}
end
namespace Kd
section
variable {P : Program} {α : Type}
end
section
variable {P : Program} {ops : Array Oper} {rest : List Oper} {o : Oper} {a : Act} {Q : Exit → Act → World → Prop} {Kc : Act → World → Prop} {α : Type}
end
end Kd
end Go.Proofs.YtocbiggglnpeoaaW.PrintWords
end
section
namespace Go.Proofs.YtocbiggglnpeoaaW.PrintLast
section
variable {P : Program} {ops : Array Oper} {Q : Exit → Act → World → Prop} {md : Region.Mode} {S : World → Prop} {ds : List Nat}
def Region.reachB (md : Region.Mode) (ops : Array Oper) (i : Nat) : Nat → Nat → Bool
 | 0, _ => false
 | fuel + 1, d => match ops[d]? with
  | some o => o.after.any fun e => Region.binds md e && (e.on == i || Region.reachB md ops i fuel e.on)
  | none => false
def Region.closedB (md : Region.Mode) (ops : Array Oper) (listed : Array Bool) : Bool :=
 (List.range ops.size).all fun j => !listed.getD j false || match ops[j]? with
  | some o => o.after.all fun e => !Region.binds md e || listed.getD e.on false
  | none => true
def Region.lastB (md : Region.Mode) (ops : Array Oper) (listed : Array Bool) (ds : List Nat) (i : Nat) : Bool :=
 ds.all fun d => listed.getD d true || Region.reachB md ops i ops.size d
def ListedClosed (md : Region.Mode) (ops : Array Oper) (listed : Array Bool) : Prop :=
 ∀ j oj, ops[j]? = some oj → listed.getD j false = true → ∀ e ∈ oj.after, Region.binds md e = true → listed.getD e.on false = true
theorem Region.closedB_spec {listed : Array Bool} (h : Region.closedB md ops listed = true) : ListedClosed md ops listed := by
 intro j oj hj hl e he hb
 have hlt : j < ops.size := (Array.getElem?_eq_some_iff.1 hj).1
 have h1 := List.all_eq_true.1 h j (List.mem_range.2 hlt)
 simp only [hl, hj, Bool.not_true, Bool.false_or] at h1
 have h2 := Array.all_eq_true_iff_forall_mem.1 h1 e he
 simpa [hb] using h2
theorem ListedClosed.set {listed : Array Bool} {i : Nat} (h : ListedClosed md ops listed) (hi : i ∈ Region.ready md ops listed) : ListedClosed md ops (listed.setIfInBounds i true) := by
 obtain ⟨_, oi, hoi, hall⟩ := mem_ready.1 hi
 intro j oj hj hl e he hb
 by_cases hij : i = j
 ·subst hij
  have : oj = oi := Option.some.inj (hj.symm.trans hoi)
  subst this
  exact getD_set_true (hall e he hb)
 ·rw [getD_set_ne false hij] at hl
  exact getD_set_true (h j oj hj hl e he hb)
theorem Region.reach_listed {listed : Array Bool} {i : Nat} (hc : ListedClosed md ops listed) : ∀ (fuel d : Nat), Region.reachB md ops i fuel d = true → listed.getD d false = true → listed.getD i false = true
 | 0, _, h, _ => by simp [Region.reachB] at h
 | fuel + 1, d, h, hl => by
  unfold Region.reachB at h
  cases ho : ops[d]? with
  | none => rw [ho] at h; simp at h
  | some o =>
   rw [ho] at h
   obtain ⟨e, he, h1⟩ := Array.any_eq_true'.1 h
   simp only [Bool.and_eq_true, Bool.or_eq_true, beq_iff_eq] at h1
   have hle := hc d o ho hl e he h1.1
   rcases h1.2 with h2 | h2
   ·rw [← h2]; exact hle
   ·exact Region.reach_listed hc fuel e.on h2 hle
theorem Region.reach_not_ready {listed : Array Bool} {i d fuel : Nat} (hc : ListedClosed md ops listed) (hr : Region.reachB md ops i fuel d = true) (hun : listed.getD i true = false) : d ∉ Region.ready md ops listed := by
 intro hd
 obtain ⟨_, o, ho, hall⟩ := mem_ready.1 hd
 have hi : listed.getD i false = true := by
  cases fuel with
  | zero => simp [Region.reachB] at hr
  | succ n =>
   unfold Region.reachB at hr
   rw [ho] at hr
   obtain ⟨e, he, h1⟩ := Array.any_eq_true'.1 hr
   simp only [Bool.and_eq_true, Bool.or_eq_true, beq_iff_eq] at h1
   have hle := hall e he h1.1
   rcases h1.2 with h2 | h2
   ·rw [← h2]; exact hle
   ·exact Region.reach_listed hc n e.on h2 hle
 rcases Nat.lt_or_ge i listed.size with h' | h'
 ·simp [h'] at hun hi
  rw [hun] at hi
  cases hi
 ·simp [Array.getElem?_eq_none h'] at hun
def wpAnyLast (P : Program) (md : Region.Mode) (ops : Array Oper) (Q : Exit → Act → World → Prop) (S : World → Prop) (ds : List Nat) : Nat → Array Bool → Act → World → Prop
 | 0, listed, a, w => Region.ready md ops listed = [] ∧ Q .normal a w
 | fuel + 1, listed, a, w =>
  (Region.ready md ops listed = [] → Q .normal a w) ∧
  ∀ i ∈ Region.ready md ops listed, wpOp P ops Q i (fun a' w' => (i ∉ ds → S w → S w') ∧ wpAnyLast P md ops Q S ds fuel (listed.setIfInBounds i true) a' w') a w
theorem wpAny_of_last : ∀ (fuel : Nat) (listed : Array Bool) (a : Act) (w : World), wpAnyLast P md ops Q S ds fuel listed a w → wpAny P md ops Q fuel listed a w
 | 0, _, _, _, h => h
 | fuel + 1, _, _, _, h => ⟨h.1, fun i hi => wpOp_mono (fun a' w' h' => wpAny_of_last fuel _ a' w' h'.2) (h.2 i hi)⟩
theorem wpAnyLast_first {i : Nat} {oi : Oper} {v : Value} (hi : ops[i]? = some oi) (hsel : ∀ (j : Nat) (o : Oper) cs b, ops[j]? = some o → o.op ≠ .select cs b)
  (hQ : ∀ c a w, Q (.panic c) (a.put oi.dst v) w → Q (.panic c) a w) (n : Nat) :
  ∀ (fuel : Nat) (listed : Array Bool) (a : Act) (w : World),
   (∀ j oj, ops[j]? = some oj → j ≠ i → listed.getD j true = false → (∀ e ∈ oj.after, Region.binds md e = true → e.on ≠ i) → oi.apart ops oj = true) →
   ListedClosed md ops listed → (∀ d ∈ ds, listed.getD d true = false → Region.reachB md ops i n d = true) →
   i ∈ Region.ready md ops listed → YieldsIf P ops S oi v a → S w →
   wpAnyLast P md ops Q S ds fuel (listed.setIfInBounds i true) (a.put oi.dst v) w → wpAnyLast P md ops Q S ds (fuel + 1) listed a w := by
 intro fuel
 induction fuel with
 | zero =>
  intro listed a w _ _ _ hr hy hS H
  refine ⟨fun h => (by rw [h] at hr; cases hr), fun j hj => ?_⟩
  by_cases hji : j = i
  ·subst hji; exact hy.wpOp hi hS ⟨fun _ h => h, H⟩
  ·have := ready_mono hj hji
   rw [H.1] at this
   cases this
 | succ fuel ih =>
  intro listed a w hfree hc hd hr hy hS H
  refine ⟨fun h => (by rw [h] at hr; cases hr), fun j hj => ?_⟩
  by_cases hji : j = i
  ·subst hji; exact hy.wpOp hi hS ⟨fun _ h => h, H⟩
  ·have h1 := H.2 j (ready_mono hj hji)
   obtain ⟨hjun, oj, hoj, hall⟩ := mem_ready.1 hj
   have hiun := (mem_ready.1 hr).1
   have hnot : ∀ e ∈ oj.after, Region.binds md e = true → e.on ≠ i := fun e he hb heq => by
    have h1 := hall e he hb
    rw [heq] at h1
    rcases Nat.lt_or_ge i listed.size with h' | h'
    ·simp [h'] at hiun h1; rw [hiun] at h1; cases h1
    ·simp [Array.getElem?_eq_none h'] at h1
   have hjd : j ∉ ds := fun hm => Region.reach_not_ready hc (hd j hm hjun) hiun hj
   have h2 := wpOp_putIf hoj (hfree j oj hoj hji hjun hnot) (fun cs b => hsel i oi cs b hi) (fun cs b => hsel j oj cs b hoj) hQ hy h1
   have hfree' : ∀ k ok, ops[k]? = some ok → k ≠ i → (listed.setIfInBounds j true).getD k true = false →
     (∀ e ∈ ok.after, Region.binds md e = true → e.on ≠ i) → oi.apart ops ok = true := fun k ok hk hki hun hno => by
    refine hfree k ok hk hki ?_ hno
    by_cases hjk : j = k
    ·subst hjk; exact hjun
    ·rw [getD_set_ne true hjk] at hun; exact hun
   have hd' : ∀ d ∈ ds, (listed.setIfInBounds j true).getD d true = false → Region.reachB md ops i n d = true := fun d hm hun => by
    refine hd d hm ?_
    by_cases hjk : j = d
    ·subst hjk; exact hjun
    ·rw [getD_set_ne true hjk] at hun; exact hun
   refine wpOp_mono (fun a' w' h3 => ⟨h3.2.1, ih (listed.setIfInBounds j true) a' w' hfree' (hc.set hj) hd' (ready_mono hr (Ne.symm hji)) h3.1 (h3.2.1 hjd hS) ?_⟩) h2
   rw [Array.setIfInBounds_comm _ _ hji]
   exact h3.2.2
theorem wpAnyLast_any {i : Nat} {oi : Oper} {v : Value} (hi : ops[i]? = some oi) (hsel : ∀ (j : Nat) (o : Oper) cs b, ops[j]? = some o → o.op ≠ .select cs b)
  (hQ : ∀ c a w, Q (.panic c) (a.put oi.dst v) w → Q (.panic c) a w) :
  ∀ (fuel : Nat) (listed : Array Bool) (a : Act) (w : World),
   (∀ j oj, ops[j]? = some oj → j ≠ i → listed.getD j true = false → (∀ e ∈ oj.after, Region.binds md e = true → e.on ≠ i) → oi.apart ops oj = true) →
   i ∈ Region.ready md ops listed → Yields P ops oi v a →
   wpAnyLast P md ops Q S ds fuel (listed.setIfInBounds i true) (a.put oi.dst v) w → wpAnyLast P md ops Q S ds (fuel + 1) listed a w := by
 intro fuel
 induction fuel with
 | zero =>
  intro listed a w _ hr hy H
  refine ⟨fun h => (by rw [h] at hr; cases hr), fun j hj => ?_⟩
  by_cases hji : j = i
  ·subst hji; exact (hy.yieldsIf (S := fun _ => True)).wpOp hi trivial ⟨fun _ h => h, H⟩
  ·have := ready_mono hj hji
   rw [H.1] at this
   cases this
 | succ fuel ih =>
  intro listed a w hfree hr hy H
  refine ⟨fun h => (by rw [h] at hr; cases hr), fun j hj => ?_⟩
  by_cases hji : j = i
  ·subst hji; exact (hy.yieldsIf (S := fun _ => True)).wpOp hi trivial ⟨fun _ h => h, H⟩
  ·have h1 := H.2 j (ready_mono hj hji)
   obtain ⟨hjun, oj, hoj, hall⟩ := mem_ready.1 hj
   have hiun := (mem_ready.1 hr).1
   have hnot : ∀ e ∈ oj.after, Region.binds md e = true → e.on ≠ i := fun e he hb heq => by
    have h1 := hall e he hb
    rw [heq] at h1
    rcases Nat.lt_or_ge i listed.size with h' | h'
    ·simp [h'] at hiun h1; rw [hiun] at h1; cases h1
    ·simp [Array.getElem?_eq_none h'] at h1
   have h2 := wpOp_put hoj (hfree j oj hoj hji hjun hnot) (fun cs b => hsel i oi cs b hi) (fun cs b => hsel j oj cs b hoj) hQ hy h1
   have hfree' : ∀ k ok, ops[k]? = some ok → k ≠ i → (listed.setIfInBounds j true).getD k true = false →
     (∀ e ∈ ok.after, Region.binds md e = true → e.on ≠ i) → oi.apart ops ok = true := fun k ok hk hki hun hno => by
    refine hfree k ok hk hki ?_ hno
    by_cases hjk : j = k
    ·subst hjk; exact hjun
    ·rw [getD_set_ne true hjk] at hun; exact hun
   refine wpOp_mono (fun a' w' h3 => ⟨h3.2.1, ih (listed.setIfInBounds j true) a' w' hfree' (ready_mono hr (Ne.symm hji)) h3.1 ?_⟩) h2
   rw [Array.setIfInBounds_comm _ _ hji]
   exact h3.2.2
theorem wpAnyLast_take {i : Nat} {oi : Oper} {v : Value} {fuel : Nat} {listed : Array Bool} {a : Act} {w : World} (hi : ops[i]? = some oi)
  (hs : Region.noSelect ops = true) (hf : Region.free md ops listed i = true) (hr : (Region.ready md ops listed).contains i = true)
  (hc : Region.closedB md ops listed = true) (hl : Region.lastB md ops listed ds i = true)
  (hQ : ∀ c a w, Q (.panic c) (a.put oi.dst v) w → Q (.panic c) a w) (hy : YieldsIf P ops S oi v a) (hS : S w)
  (h : wpAnyLast P md ops Q S ds fuel (listed.setIfInBounds i true) (a.put oi.dst v) w) : wpAnyLast P md ops Q S ds (fuel + 1) listed a w :=
 wpAnyLast_first hi (Region.noSelect_spec hs) hQ ops.size fuel listed a w (Region.free_spec hi hf) (Region.closedB_spec hc)
  (fun d hm hun => by have := List.all_eq_true.1 hl d hm; rw [hun] at this; simpa using this) (by simpa using hr) hy hS h
theorem wpAnyLast_all {rs : List Nat} {fuel : Nat} {listed : Array Bool} {a : Act} {w : World} (hr : Region.ready md ops listed = rs) (hne : rs ≠ [])
  (h : ∀ i ∈ rs, wpOp P ops Q i (fun a' w' => (i ∉ ds → S w → S w') ∧ wpAnyLast P md ops Q S ds fuel (listed.setIfInBounds i true) a' w') a w) : wpAnyLast P md ops Q S ds (fuel + 1) listed a w :=
 ⟨fun h0 => absurd (hr ▸ h0) hne, hr ▸ h⟩
theorem wpAnyLast_done {listed : Array Bool} {a : Act} {w : World} (hr : Region.ready md ops listed = []) (h : Q .normal a w) :
  ∀ fuel, wpAnyLast P md ops Q S ds fuel listed a w
 | 0 => ⟨hr, h⟩
 | _ + 1 => ⟨fun _ => h, by rw [hr]; simp⟩
theorem wp_region_last {id : Nat} {a : Act} {w : World} (hm : P.follows .mixedOrders = true)
  (h : wpAnyLast P .any ops Q S ds ops.size (Array.replicate ops.size false) a { w with drawn := w.drawn + 1 }) : (Code.region id ops true).wp P Q a w :=
 wp_region_any hm (wpAny_of_last _ _ _ _ h)
end
section
variable {P : Program} {ops : Array Oper} {Q : Exit → Act → World → Prop} {md : Region.Mode} {S : World → Prop} {ds : List Nat}
def AllReadyL (P : Program) (md : Region.Mode) (ops : Array Oper) (Q : Exit → Act → World → Prop) (S : World → Prop) (ds : List Nat) (fuel : Nat) (listed : Array Bool) (a : Act) (w : World) (rs : List Nat) : Prop :=
 ∀ i ∈ rs, wpOp P ops Q i (fun a' w' => (i ∉ ds → S w → S w') ∧ wpAnyLast P md ops Q S ds fuel (listed.setIfInBounds i true) a' w') a w
theorem AllReadyL.nil {fuel : Nat} {listed : Array Bool} {a : Act} {w : World} : AllReadyL P md ops Q S ds fuel listed a w [] := fun _ h => by cases h
theorem AllReadyL.cons {fuel : Nat} {listed : Array Bool} {a : Act} {w : World} {i : Nat} {o : Oper} {rs : List Nat} (ho : ops[i]? = some o) (hd : i ∉ ds)
  (h : ∀ K' : Act → World → Prop, Shut (∀ a w, S w → (S w → wpAnyLast P md ops Q S ds fuel (listed.setIfInBounds i true) a w) → K' a w) → if Region.wanted o (yielded ops a.tmps) = true then Oper.wp P o a w K' Q else K' (a.put o.dst undef) w)
  (hs : AllReadyL P md ops Q S ds fuel listed a w rs) : AllReadyL P md ops Q S ds fuel listed a w (i :: rs) := fun j hj => by
 rcases List.mem_cons.1 hj with rfl | hj
 ·exact wpOp_step ho (fun K' hK => h K' (fun a w hS hW => hK a w ⟨fun _ _ => hS, hW hS⟩))
 ·exact hs j hj
theorem AllReadyL.cons_last {fuel : Nat} {listed : Array Bool} {a : Act} {w : World} {i : Nat} {o : Oper} {rs : List Nat} (ho : ops[i]? = some o) (hd : i ∈ ds)
  (h : ∀ K' : Act → World → Prop, Shut (∀ a w, wpAnyLast P md ops Q S ds fuel (listed.setIfInBounds i true) a w → K' a w) → if Region.wanted o (yielded ops a.tmps) = true then Oper.wp P o a w K' Q else K' (a.put o.dst undef) w)
  (hs : AllReadyL P md ops Q S ds fuel listed a w rs) : AllReadyL P md ops Q S ds fuel listed a w (i :: rs) := fun j hj => by
 rcases List.mem_cons.1 hj with rfl | hj
 ·exact wpOp_step ho (fun K' hK => h K' (fun a w hW => hK a w ⟨fun hn => absurd hd hn, hW⟩))
 ·exact hs j hj
theorem wpAnyLast_ready {rs : List Nat} {fuel : Nat} {listed : Array Bool} {a : Act} {w : World} (hr : Region.ready md ops listed = rs) (hne : rs ≠ [])
  (h : AllReadyL P md ops Q S ds fuel listed a w rs) : wpAnyLast P md ops Q S ds (fuel + 1) listed a w := wpAnyLast_all hr hne h
theorem start_ {id n : Nat} {a : Act} {w : World} (l : Array Bool) (hm : P.follows .mixedOrders = true) (hn : ops.size = n) (hl : Array.replicate n false = l) (hS : S w.drew)
  (h : S w.drew → wpAnyLast P .any ops Q S ds n l a w.drew) : (Code.region id ops true).wp P Q a w := by
 subst hn
 subst hl
 exact wp_region_last hm (h hS)
def takeB (md : Region.Mode) (ops : Array Oper) (ds : List Nat) (l l' : Array Bool) (i : Nat) : Bool :=
 Region.noSelect ops && Region.free md ops l i && (Region.ready md ops l).contains i && Region.closedB md ops l && Region.lastB md ops l ds i && (l.setIfInBounds i true == l')
theorem take_ {i : Nat} {N : Option Tmp} {oi : Oper} {v : Value} {fuel : Nat} {l : Array Bool} {a : Act} {w : World} (l' : Array Bool) (hi : ops[i]? = some oi) (hN : oi.dst = N) (hc : takeB md ops ds l l' i = true)
  (hQ : ∀ c a w, Q (.panic c) (a.put oi.dst v) w → Q (.panic c) a w) (hy : YieldsIf P ops S oi v a) (hS : S w) {a' : Act} (ha : a.put N v = a')
  (h : wpAnyLast P md ops Q S ds fuel l' a' w) : wpAnyLast P md ops Q S ds (fuel + 1) l a w := by
 subst ha
 subst hN
 simp only [takeB, Bool.and_eq_true, beq_iff_eq] at hc
 obtain ⟨⟨⟨⟨⟨h1, h2⟩, h3⟩, h4⟩, h5⟩, h6⟩ := hc
 subst h6
 exact wpAnyLast_take hi h1 h2 h3 h4 h5 hQ hy hS h
def anyB (md : Region.Mode) (ops : Array Oper) (l l' : Array Bool) (i : Nat) : Bool :=
 Region.noSelect ops && Region.free md ops l i && (Region.ready md ops l).contains i && (l.setIfInBounds i true == l')
theorem pure_ {i : Nat} {N : Option Tmp} {oi : Oper} {v : Value} {fuel : Nat} {l : Array Bool} {a : Act} {w : World} (l' : Array Bool) (hi : ops[i]? = some oi) (hN : oi.dst = N) (hc : anyB md ops l l' i = true)
  (hQ : ∀ c a w, Q (.panic c) (a.put oi.dst v) w → Q (.panic c) a w) (hy : Yields P ops oi v a) {a' : Act} (ha : a.put N v = a')
  (h : wpAnyLast P md ops Q S ds fuel l' a' w) : wpAnyLast P md ops Q S ds (fuel + 1) l a w := by
 subst ha
 subst hN
 simp only [anyB, Bool.and_eq_true, beq_iff_eq] at hc
 obtain ⟨⟨⟨h1, h2⟩, h3⟩, h6⟩ := hc
 subst h6
 exact wpAnyLast_any hi (Region.noSelect_spec h1) hQ fuel l a w (Region.free_spec hi h2) (by simpa using h3) hy h
def readyB (md : Region.Mode) (ops : Array Oper) (l l' : Array Bool) (i : Nat) : Bool := (Region.ready md ops l == [i]) && (l.setIfInBounds i true == l')
theorem one_ {i : Nat} {N : Option Tmp} {oi : Oper} {fuel : Nat} {l : Array Bool} {a : Act} {w : World} (l' : Array Bool) (hi : ops[i]? = some oi) (hN : oi.dst = N) (hc : readyB md ops l l' i = true) (hd : i ∉ ds)
  (h : ∀ K : Act → World → Prop, Shut (∀ a' w', S w' → (S w' → wpAnyLast P md ops Q S ds fuel l' a' w') → K a' w') → if Region.wanted oi (yielded ops a.tmps) = true then Oper.wp P oi a w K Q else K (a.put N undef) w) :
  wpAnyLast P md ops Q S ds (fuel + 1) l a w := by
 subst hN
 simp only [readyB, Bool.and_eq_true, beq_iff_eq] at hc
 obtain ⟨h1, h2⟩ := hc
 subst h2
 exact wpAnyLast_ready h1 (by simp) (AllReadyL.cons hi hd (fun K hK => h K hK) AllReadyL.nil)
theorem last_ {i : Nat} {N : Option Tmp} {oi : Oper} {fuel : Nat} {l : Array Bool} {a : Act} {w : World} (l' : Array Bool) (hi : ops[i]? = some oi) (hN : oi.dst = N) (hc : readyB md ops l l' i = true) (hd : i ∈ ds)
  (h : ∀ K : Act → World → Prop, Shut (∀ a' w', wpAnyLast P md ops Q S ds fuel l' a' w' → K a' w') → if Region.wanted oi (yielded ops a.tmps) = true then Oper.wp P oi a w K Q else K (a.put N undef) w) :
  wpAnyLast P md ops Q S ds (fuel + 1) l a w := by
 subst hN
 simp only [readyB, Bool.and_eq_true, beq_iff_eq] at hc
 obtain ⟨h1, h2⟩ := hc
 subst h2
 exact wpAnyLast_ready h1 (by simp) (AllReadyL.cons_last hi hd (fun K hK => h K hK) AllReadyL.nil)
theorem done_ {l : Array Bool} {a : Act} {w : World} {n : Nat} (hr : (Region.ready md ops l == []) = true) (h : Q .normal a w) : wpAnyLast P md ops Q S ds n l a w := wpAnyLast_done (by simpa using hr) h n
theorem enters_ {f : FuncId} {fn : Func} (hf : P.funcs[f]? = some fn) (hname : (fn.name == "runtime.NumGoroutine") = false) (hb : fn.body.isSome = true) (args : Array Value) (w : World) : (callFunc f args).run P w = .ok (.enter f args) w := by
 have h1 : fn.name ≠ "runtime.NumGoroutine" := by simpa using hname
 obtain ⟨c, hc⟩ := Option.isSome_iff_exists.1 hb
 simp [callFunc, hf, h1, hc]
theorem goesL_ {rest : List Oper} {oi : Oper} {a : Act} {w : World} (N : Option Tmp) (hd : oi.dst = N) (hg : oi.guard = none) {f : FuncId} {fn : Func} {as_ : Array Operand} {ts : Array TypeId} (hf : P.funcs[f]? = some fn) (hname : (fn.name == "runtime.NumGoroutine") = false) (hb : fn.body.isSome = true) (args : Array Value)
  (hop : oi.op = .call { callee := .value (.func f), args := as_, argTypes := ts }) (hargs : as_.map a.eval = args)
  (h : Calls P f args w fun e w' => ∃ v, e = .returned v ∧ wpList P ops Q rest (a.put N v) w') : wpList P ops Q (oi :: rest) a w := by
 refine wpList_plain hg fun K hK => ?_
 have he := enters_ hf hname hb args w
 have hrun : (execOp a.eval oi).run P w = .ok (.enter f args) w := by
  unfold execOp
  simp [hop, resolve, Deferred.ofValue, invoke, Act.eval, hargs, he]
 unfold Oper.wp
 rw [hrun, Oper.upon_enter]
 refine h.mono fun e w'' hh => ?_
 obtain ⟨v, rfl, hk⟩ := hh
 subst hd
 exact hK _ _ hk
theorem skip_ {oi : Oper} {a : Act} {w w1 : World} {K : Act → World → Prop} (hw : Region.wanted oi (yielded ops a.tmps) = true) (hN : oi.dst = none) (hrun : (execOp a.eval oi).run P w = .ok .skip w1)
  (h : K a w1) : if Region.wanted oi (yielded ops a.tmps) = true then Oper.wp P oi a w K Q else K (a.put none undef) w := by
 rw [if_pos hw]
 unfold Oper.wp
 rw [hrun]
 show K (a.put oi.dst undef) w1
 rw [hN]
 exact h
theorem i64_w (n : Int) : IntKind.i64.wrap n = Go.RowKit.wrap64 n := by unfold Go.RowKit.wrap64; exact IntKind.wrap_i64 n
theorem i32_w (n : Int) : IntKind.i32.wrap n = Go.RowKit.wrap32 n := by unfold Go.RowKit.wrap32; exact IntKind.wrap_i32 n
end
end Go.Proofs.YtocbiggglnpeoaaW.PrintLast
end
section
namespace Go.Proofs.YtocbiggglnpeoaaW.PrintWords
open Go.RowKit
namespace Kd
def tag {α : Type} (f : Nat → Nat) (d : Kd α) : Kd (α × Nat) where
 sz := d.sz
 E := d.E
 K := fun w x cs => d.K w x.1 cs
 M := fun w base ok x cs => d.M w base (fun k => ok k ∧ f k = x.2) x.1 cs
 K_len := fun h => d.K_len h
 K_one := fun h => d.K_one h
 K_below := fun hb h => d.K_below hb h
 K_of_M := fun h => d.K_of_M h
 M_mono := fun hok h => d.M_mono (fun k hk => ⟨hok k hk.1, hk.2⟩) h
 M_bound := fun h => d.M_mono (fun _ hk => ⟨⟨hk.1.1, hk.2⟩, hk.1.2⟩) (d.M_bound h)
 M_move := fun hm h => d.M_move (fun k hk => hm k hk.1) h
 M_lower := fun hb h => d.M_lower hb h
def bare {α : Type} (d : Kd α) : Kd α where
 sz := d.sz
 E := d.E
 K := d.K
 M := fun w base _ x cs => d.M w base (fun _ => False) x cs
 K_len := fun h => d.K_len h
 K_one := fun h => d.K_one h
 K_below := fun hb h => d.K_below hb h
 K_of_M := fun h => d.K_of_M h
 M_mono := fun _ h => h
 M_bound := fun h => h
 M_move := fun _ h => d.M_move (fun _ hk => hk.elim) h
 M_lower := fun hb h => d.M_lower hb h
def raw (sz : Nat) : Kd (List Value) where
 sz := sz
 E := []
 K := fun _ x cs => cs = x ∧ cs.length = sz ∧ ∀ u ∈ cs, u.oneCell' = true
 M := fun _ _ _ x cs => cs = x ∧ cs.length = sz ∧ ∀ u ∈ cs, u.oneCell' = true
 K_len := fun h => h.2.1
 K_one := fun h => h.2.2
 K_below := fun _ h => h
 K_of_M := fun h => h
 M_mono := fun _ h => h
 M_bound := fun h => h
 M_move := fun _ h => h
 M_lower := fun _ h => h
def S {α : Type} (d : Kd α) (e : Nat) (w : World) (base : Nat) (ok : Nat → Prop) (v : Value) (xs : List α) : Prop := ∃ f, (tag f d).R e w base ok v xs.zipIdx
section
variable {α β : Type} {d : Kd α} {d' : Kd β} {e e' : Nat} {w w1 W : World} {base b : Nat} {ok ok' okv oku : Nat → Prop} {u v : Value} {xs : List α} {ys : List β}
theorem zip_at {xs : List α} {j : Nat} {p : α} (h : xs[j]? = some p) : xs.zipIdx[j]? = some (p, j) := by rw [List.getElem?_zipIdx, h, Nat.zero_add]; rfl
theorem S_R (h : S d e w base ok v xs) : d.R e w base ok v xs := by
 obtain ⟨f, h0, inner, ho, hr⟩ := h
 rw [List.length_zipIdx] at ho
 exact ⟨h0, inner, ho, by have := hr.1; rw [List.length_zipIdx] at this; exact this, fun j p hj => d.M_mono (fun _ hk => hk.1) (hr.2 j (p, j) (zip_at hj))⟩
theorem R_head {ad : Addr} {n cap : Nat} (h : d.R e w base ok (.slice (some ad) n cap) xs) : ∃ g, ad = ⟨g, 0, none⟩ := by
 obtain ⟨_, inner, ho, hr⟩ := h
 rcases ho.2 with ⟨hv, _⟩ | ⟨g, cap', cur, hv, _⟩
 ·cases hv
 ·injection hv with ha _ _
  injection ha with ha
  exact ⟨g, ha⟩
theorem R_getA {ad : Addr} {n cap : Nat} (h : d.R e W base ok (.slice (some ad) n cap) xs) (z : α) (i : Int) (h0 : 0 ≤ i) (h1 : i < n) :
  ∃ c, c.length = d.sz ∧ d.M W base (fun k => ok k ∧ some k ≠ (Value.slice (some ad) n cap).ownBlock) (xs.getD i.toNat z) c ∧ ∀ j u, c[j]? = some u → W.cell? (ad.add (i.toNat * d.sz + j)) = some u := by
 obtain ⟨g, rfl⟩ := R_head h
 obtain ⟨c, hcl, hM, hcc, _⟩ := R_elem h z i h0 h1
 refine ⟨c, hcl, d.M_mono (fun k hk => ⟨hk.1, fun he => hk.2 (by simpa [Value.ownBlock] using he)⟩) hM, fun j u hu => ?_⟩
 rw [add_at, Nat.zero_add]
 exact hcc j u hu
theorem R_tight (hE : d.E = []) (h : d.R e w base ok v xs) : d.R e w base (fun k => some k = v.ownBlock) v xs := by
 obtain ⟨h0, inner, ho, hr⟩ := h
 refine ⟨fun k hk => hk.symm, inner, ho, hr.imp_ (fun p c hp => d.M_mono (fun k hk => ?_) (d.M_bound hp))⟩
 obtain ⟨_, _, _, q, hq, _⟩ := hk
 rw [hE] at hq
 cases hq
theorem S_nil (d : Kd α) (e : Nat) (w : World) (base : Nat) (ok : Nat → Prop) : S d e w base ok (.slice none 0 0) [] := ⟨fun _ => 0, R_nil _ _ _ _ _⟩
theorem S_mono (h : S d e w base ok v xs) (hok : ∀ k, ok k → ok' k) : S d e w base ok' v xs := by
 obtain ⟨f, h⟩ := h
 exact ⟨f, R_mono h hok⟩
theorem S_bound (h : S d e w base ok v xs) : S d e w base (fun k => ok k ∧ base ≤ k ∧ k < w.heap.size ∧ ∃ q, q ∈ e :: d.E ∧ ∃ cells, w.heap[k]? = some (.cells cells q (0, 0))) v xs := by
 obtain ⟨f, h⟩ := h
 exact ⟨f, R_bound h⟩
theorem S_move (h : S d e w base ok v xs) (hm : ∀ k, ok k → w1.heap[k]? = w.heap[k]?) : S d e w1 base ok v xs := by
 obtain ⟨f, h⟩ := h
 exact ⟨f, R_move h hm⟩
theorem S_lower {base' : Nat} (h : S d e w base ok v xs) (hb : base' ≤ base) : S d e w base' ok v xs := by
 obtain ⟨f, h⟩ := h
 exact ⟨f, R_lower h hb⟩
theorem S_step (h : S d e w base ok v xs) (hm : ∀ k, ok k → k < w.heap.size → w1.heap[k]? = w.heap[k]?) : S d e w1 base ok v xs :=
 S_mono (S_move (S_bound h) (fun k hk => hm k hk.1 hk.2.2.1)) (fun _ hk => hk.1)
theorem S_below (h : S d e w base ok v xs) (hb : Below w.heap.size w w1) : S d e w1 base ok v xs := S_step h (fun k _ hk => hb.block k hk)
theorem S_alloc (h : S d e w base ok v xs) (o : Obj) : S d e (w.alloc o) base ok v xs := S_below h (below_alloc (Below.refl _ _) o)
theorem S_drew (h : S d e w base ok v xs) : S d e w.drew base ok v xs := S_below h (below_drew (Below.refl _ _))
theorem S_drewN (h : S d e w base ok v xs) (m : Nat) : S d e (w.drewN m) base ok v xs := S_below h (pw_below_drewN (Below.refl _ _) m)
theorem S_grown (h : S d e w base ok v xs) {row : Option Nat} (hg : w.grownBy w1 row) (hok : ∀ k, ok k → some k ≠ row) : S d e w1 base ok v xs := S_step h (fun k ho hk => hg.block k hk (hok k ho))
theorem S_far (h : S d e w base ok v xs) {p : Addr} (hok : ∀ k, ok k → k ≠ p.block) (u : Value) : S d e (w.setCell p u) base ok v xs := S_step h (fun k ho _ => Below.heap_setCell w p u k (hok k ho))
theorem S_types (h : S d e w base ok v xs) {g t : Nat} {cells : Array Value} (hb : w.heap[g]? = some (.cells cells t (0, 0))) (ht : ∀ q, q ∈ e :: d.E → q ≠ t) : S d e w base (fun k => ok k ∧ k ≠ g) v xs := by
 obtain ⟨f, h⟩ := h
 exact ⟨f, R_types h hb ht⟩
theorem S_typed (h : S d e w base ok v xs) : ∀ k, v.ownBlock = some k → ∃ cells, w.heap[k]? = some (.cells cells e (0, 0)) := R_typed (S_R h)
theorem S_lt (h : S d e w base ok v xs) : ∀ k, v.ownBlock = some k → k < w.heap.size := R_lt (S_R h)
theorem S_base (h : S d e w base ok v xs) : ∀ k, v.ownBlock = some k → base ≤ k := R_base (S_R h)
theorem S_apart' (h : S d e W base ok u xs) (hty : ∀ k, v.ownBlock = some k → ∃ cells, W.heap[k]? = some (.cells cells e' (0, 0))) (ht : ∀ q, q ∈ e :: d.E → q ≠ e') : S d e W base (fun k => ok k ∧ some k ≠ v.ownBlock) u xs := by
 obtain ⟨f, h⟩ := h
 exact ⟨f, R_apart' h hty ht⟩
theorem S_elder' (h : S d e W base ok u xs) (hbase : ∀ k, v.ownBlock = some k → W.heap.size ≤ k) (hb : Below W.heap.size W w1) : S d e w1 base (fun k => ok k ∧ some k ≠ v.ownBlock) u xs := by
 obtain ⟨f, h⟩ := h
 exact ⟨f, R_elder' h hbase hb⟩
theorem S_new' (h : S d e w1 W.heap.size ok v xs) (hlt : ∀ k, u.ownBlock = some k → k < W.heap.size) : S d e w1 W.heap.size (fun k => ok k ∧ some k ≠ u.ownBlock) v xs := by
 obtain ⟨f, h⟩ := h
 exact ⟨f, R_new' h hlt⟩
theorem R_tag {f f' : Nat → Nat} {zs : List (α × Nat)} (h : (tag f d).R e w base ok v zs) (hf : ∀ k, ok k → k < w.heap.size → f' k = f k) : (tag f' d).R e w base ok v zs := by
 obtain ⟨h0, inner, ho, hr⟩ := R_bound h
 exact ⟨fun k hk => (h0 k hk).1, inner, ho, hr.1, fun j p hj => d.M_mono (fun k hk => ⟨⟨hk.1.1.1, hk.1.2⟩, (hf k hk.1.1.1 hk.1.1.2.2.1).trans hk.2⟩) (hr.2 j p hj)⟩
end
section
variable {α β : Type} {d : Kd α} {d' : Kd β} {e e' g : Nat} {w w1 W : World} {base b : Nat} {ok ok' okv oku : Nat → Prop} {u v : Value} {xs : List α} {ys : List β}
theorem S_slice (h : S d e w base ok v xs) : ∃ A c, v = .slice A xs.length c := R_slice (S_R h)
theorem S_reads' {A : Option Addr} {n c : Nat} (h : S d e w base ok (.slice A n c) xs) : n = xs.length ∧ n ≤ c ∧ d.C w A xs.length xs := R_reads' (S_R h)
theorem S_get {ad : Addr} {n cap : Nat} (h : S d e W base ok (.slice (some ad) n cap) xs) (z : α) (i : Int) (h0 : 0 ≤ i) (h1 : i < n) :
  ∃ c, c.length = d.sz ∧ d.M W base (fun k => ok k ∧ some k ≠ (Value.slice (some ad) n cap).ownBlock) (xs.getD i.toNat z) c ∧ ∀ j u, c[j]? = some u → W.cell? (ad.add (i.toNat * d.sz + j)) = some u := R_getA (S_R h) z i h0 h1
theorem S_elderB (h : S d e w base ok v xs) (a : Nat) (ha : w.heap.size ≤ a) : S d e w base (fun k => ok k ∧ k ≠ a) v xs := S_mono (S_bound h) (fun k hk => ⟨hk.1, by have := hk.2.2.1; omega⟩)
theorem zip_snoc (xs : List α) (p : α) : (xs ++ [p]).zipIdx = xs.zipIdx ++ [(p, xs.length)] := by rw [List.zipIdx_append]; simp
end
section
open Classical in
theorem S_tag {α : Type} {d : Kd α} {e base : Nat} {okv : Nat → Prop} {w : World} {v : Value} {xs : List α} (h : S d e w base okv v xs) (m : Nat) (okp : Nat → Prop) (hap : ∀ k, okp k → ¬ okv k) : ∃ f, (∀ k, okp k → f k = m) ∧ (tag f d).R e w base okv v xs.zipIdx := by
 obtain ⟨f, h⟩ := h
 exact ⟨fun k => if okp k then m else f k, fun k hk => if_pos hk, R_tag h (fun k hk _ => if_neg (fun h2 => hap k h2 hk))⟩
variable {P : Program} {ops : Array Oper} {rest : List Oper} {o : Oper} {a : Act} {Q : Exit → Act → World → Prop} {Kc : Act → World → Prop} {α : Type}
theorem S_append (d : Kd α) {w0 W : World} (base : Nat) (hgd : o.guard = none) (s x : Operand) (t e : TypeId) (z : Value) (bytes : Nat)
  (ho : o.op = .call { callee := .builtin .append, args := #[s, x], argTypes := #[t, t] })
  (ht : P.underlying t = some (.slice e)) (hinfo : (P.info? e).map (fun i => (i.zero, i.size, i.bytes)) = some (some z, d.sz, bytes)) (hz : z.cells.size = d.sz) (hs0 : 0 < d.sz) (hb0 : 0 < bytes)
  (v : Value) (xs : List α) (p : α) (cs : List Value) (ok okp : Nat → Prop) (hs : a.eval s = v) (hx : a.eval x = .slice (some ⟨W.heap.size, 0, none⟩) 1 1) (hp : d.M W base okp p cs) (hokp : ∀ k, okp k → ok k ∧ some k ≠ v.ownBlock) (hfresh : ∀ k, W.heap.size ≤ k → ok k)
  (HO : S d e W base (fun k => ok k ∧ ¬ okp k) v xs) (HB : Below base w0 W) (hbase : base ≤ W.heap.size) (hl : (xs.length + 1) * bytes ≤ 140737488355328)
  (h : ∀ v1 w1, S d e w1 base ok v1 (xs ++ [p]) → Below base w0 w1 → W.grownBy w1 v.ownBlock → (v1.ownBlock = v.ownBlock ∨ ∃ b, v1.ownBlock = some b ∧ W.heap.size ≤ b) → wpList P ops Q rest (a.put o.dst v1) w1) :
  wpList P ops Q (o :: rest) a (W.alloc (.cells cs.toArray e)) := by
 obtain ⟨f, hf, hR⟩ := S_tag HO xs.length okp (fun _ hk h2 => h2.2 hk)
 refine R_append (tag f d) base hgd s x t e z bytes ho ht hinfo hz hs0 hb0 v xs.zipIdx (p, xs.length) cs ok okp hs hx (d.M_mono (fun k hk => ⟨hk, hf k hk⟩) hp) hokp hfresh (R_mono hR (fun _ hk => hk.1)) HB hbase (by rw [List.length_zipIdx]; exact hl) ?_
 intro v1 w1 hr
 rw [← zip_snoc] at hr
 exact h v1 w1 ⟨f, hr⟩
end
def gap {α : Type} (f : Nat → Nat) (d : Kd α) (i : Nat) (c : List Value) : Kd (α × Nat) where
 sz := d.sz
 E := d.E
 K := fun w x cs => (x.2 = i → cs = c ∧ cs.length = d.sz ∧ ∀ u ∈ cs, u.oneCell' = true) ∧ (x.2 ≠ i → d.K w x.1 cs)
 M := fun w base ok x cs => (x.2 = i → cs = c ∧ cs.length = d.sz ∧ ∀ u ∈ cs, u.oneCell' = true) ∧ (x.2 ≠ i → d.M w base (fun k => ok k ∧ f k = x.2) x.1 cs)
 K_len := fun {w x cs} h => by
  by_cases hx : x.2 = i
  ·exact (h.1 hx).2.1
  ·exact d.K_len (h.2 hx)
 K_one := fun {w x cs} h => by
  by_cases hx : x.2 = i
  ·exact (h.1 hx).2.2
  ·exact d.K_one (h.2 hx)
 K_below := fun hb h => ⟨h.1, fun hx => d.K_below hb (h.2 hx)⟩
 K_of_M := fun h => ⟨h.1, fun hx => d.K_of_M (h.2 hx)⟩
 M_mono := fun hok h => ⟨h.1, fun hx => d.M_mono (fun k hk => ⟨hok k hk.1, hk.2⟩) (h.2 hx)⟩
 M_bound := fun h => ⟨h.1, fun hx => d.M_mono (fun _ hk => ⟨⟨hk.1.1, hk.2⟩, hk.1.2⟩) (d.M_bound (h.2 hx))⟩
 M_move := fun hm h => ⟨h.1, fun hx => d.M_move (fun k hk => hm k hk.1) (h.2 hx)⟩
 M_lower := fun hb h => ⟨h.1, fun hx => d.M_lower hb (h.2 hx)⟩
def H {α : Type} (d : Kd α) (e : Nat) (w : World) (base : Nat) (ok : Nat → Prop) (v : Value) (xs : List α) (i : Int) (oki : Nat → Prop) (c : List Value) : Prop :=
 (∀ k, oki k → ok k) ∧ ∃ f, (gap f d i.toNat c).R e w base (fun k => ok k ∧ ¬ oki k) v xs.zipIdx
section
variable {α β : Type} {d : Kd α} {e e' g n cap : Nat} {w w1 W : World} {base : Nat} {ok ok' oki okp : Nat → Prop} {u v : Value} {xs : List α} {i : Int} {c : List Value}
end
section
variable {P : Program} {ops : Array Oper} {rest : List Oper} {o : Oper} {a : Act} {Q : Exit → Act → World → Prop} {α : Type}
end
end Kd
end Go.Proofs.YtocbiggglnpeoaaW.PrintWords
end
section
namespace Go.Proofs.YtocbiggglnpeoaaW.PrintWords
open Go.RowKit
namespace Kd
structure Heap {α : Type} (d : Kd α) : Prop where
 K : ∀ {w w1 : World} {x : α} {cs : List Value}, (∀ k, k < w.heap.size → w1.heap[k]? = w.heap[k]?) → d.K w x cs → d.K w1 x cs
theorem cell_heap {w w1 : World} (hb : ∀ k, k < w.heap.size → w1.heap[k]? = w.heap[k]?) {a : Addr} {v : Value} (h : w.cell? a = some v) : w1.cell? a = some v := by
 have := hb a.block (World.block_lt_of_cell? w a h)
 simpa [World.cell?, this] using h
theorem Heap.C {α : Type} {d : Kd α} (hd : Heap d) {w w1 : World} {A : Option Addr} {n : Nat} {xs : List α} (hb : ∀ k, k < w.heap.size → w1.heap[k]? = w.heap[k]?) (h : d.C w A n xs) : d.C w1 A n xs :=
 ⟨h.1, h.2.1, fun hn => by
  obtain ⟨ad, e, hc⟩ := h.2.2 hn
  refine ⟨ad, e, fun j p hj => ?_⟩
  obtain ⟨c, hs, hr, hcell⟩ := hc j p hj
  exact ⟨c, hs, hd.K hb hr, fun i u hu => cell_heap hb (hcell i u hu)⟩⟩
section
variable {α : Type} {d : Kd α} {e base g n c : Nat} {ok : Nat → Prop} {w w0 W : World} {A : Option Addr} {xs : List α}
end
end Kd
end Go.Proofs.YtocbiggglnpeoaaW.PrintWords
end
section
namespace Go.Proofs.YtocbiggglnpeoaaW.PrintWords
open Go.RowKit
def Kept (w W : World) (S : Nat → Prop) : Prop := w.heap.size ≤ W.heap.size ∧ ∀ i, i < w.heap.size → ¬ S i → W.heap[i]? = w.heap[i]?
section
variable {w W W2 : World} {S S2 S' : Nat → Prop}
theorem Kept.refl (w : World) (S : Nat → Prop) : Kept w w S := ⟨Nat.le_refl _, fun _ _ _ => rfl⟩
theorem Kept.of_below (h : Below w.heap.size w W) (S : Nat → Prop) : Kept w W S := ⟨h.size, fun i hi _ => h.block i hi⟩
theorem Kept.then_ (h : Kept w W S) (k : Kept W W2 S2) (hs : ∀ k, S2 k → S k ∨ w.heap.size ≤ k) : Kept w W2 S :=
 ⟨Nat.le_trans h.1 k.1, fun i hi hn => (k.2 i (Nat.lt_of_lt_of_le hi h.1) (fun h2 => (hs i h2).elim hn (fun h3 => by omega))).trans (h.2 i hi hn)⟩
theorem Kept.below (h : Kept w W S) (hb : Below W.heap.size W W2) : Kept w W2 S := h.then_ (Kept.of_below hb (fun _ => False)) (fun _ hk => hk.elim)
theorem Kept.alloc (h : Kept w W S) (o : Obj) : Kept w (W.alloc o) S := h.below (below_alloc (Below.refl _ _) o)
theorem Kept.drew (h : Kept w W S) : Kept w W.drew S := h
theorem Kept.drewN (h : Kept w W S) (m : Nat) : Kept w (W.drewN m) S := h
theorem Kept.setCell (h : Kept w W S) {p : Addr} (hp : S p.block ∨ w.heap.size ≤ p.block) (u : Value) : Kept w (W.setCell p u) S :=
 h.then_ (S2 := fun k => k = p.block) ⟨by simp [World.setCell], fun i _ hn => Below.heap_setCell W p u i hn⟩ (fun k hk => by rw [hk]; exact hp)
end
namespace Kd
section
variable {α : Type} {d : Kd α} {e base n c : Nat} {ok oki S S2 : Nat → Prop} {w w0 W W1 W2 : World} {v : Value} {A : Option Addr} {xs : List α} {i : Int} {cs : List Value}
end
end Kd
end Go.Proofs.YtocbiggglnpeoaaW.PrintWords
end
section
namespace Go.Proofs.YtocbiggglnpeoaaW.PrintWords
open Go.RowKit
def Foot (P : World → Prop) (W : World) (ok : Nat → Prop) : Prop := ∀ W' : World, (∀ k, ok k → k < W.heap.size → W'.heap[k]? = W.heap[k]?) → P W'
theorem heap_lt {W W1 : World} {k : Nat} (h : W1.heap[k]? = W.heap[k]?) (hlt : k < W.heap.size) : k < W1.heap.size := by
 rw [Array.getElem?_eq_getElem hlt] at h
 exact (Array.getElem?_eq_some_iff.1 h).1
namespace Foot
variable {P Q : World → Prop} {W W1 : World} {ok ok' : Nat → Prop}
theorem now (h : Foot P W ok) : P W := h W (fun _ _ _ => rfl)
theorem mono (h : Foot P W ok) (hok : ∀ k, ok k → ok' k) : Foot P W ok' := fun W' hW => h W' (fun k hk hlt => hW k (hok k hk) hlt)
theorem bound (h : Foot P W ok) : Foot P W (fun k => ok k ∧ k < W.heap.size) := fun W' hW => h W' (fun k hk hlt => hW k ⟨hk, hlt⟩ hlt)
theorem step (h : Foot P W ok) (hm : ∀ k, ok k → k < W.heap.size → W1.heap[k]? = W.heap[k]?) : Foot P W1 ok := fun W' hW => h W' (fun k hk hlt => (hW k hk (heap_lt (hm k hk hlt) hlt)).trans (hm k hk hlt))
end Foot
namespace Kd
def F {α : Type} (d : Kd α) (W : World) (ok : Nat → Prop) (A : Option Addr) (n : Nat) (xs : List α) : Prop := Foot (fun W => d.C W A n xs) W ok
def FK {α : Type} (d : Kd α) (W : World) (ok : Nat → Prop) (x : α) (c : List Value) : Prop := Foot (fun W => d.K W x c) W ok
section
variable {α β : Type} {d : Kd α} {e base n n' cc g N : Nat} {ok ok' okp S : Nat → Prop} {w w0 w1 W W1 : World} {A A' : Option Addr} {u v v1 : Value} {xs : List α} {xs' : List β} {d' : Kd β} {x : α} {c : List Value}
theorem F_nil (d : Kd α) (W : World) (ok : Nat → Prop) : F d W ok none ([] : List α).length [] := fun W' _ => C_nil d W'
theorem R_F (h : d.R e W base ok (.slice A n cc) xs) : F d W ok A n xs := fun W' hW => by
 have h2 := R_reads' (R_step h hW)
 rw [h2.1]
 exact h2.2.2
theorem FK_now (h : FK d W ok x c) : d.K W x c := Foot.now h
theorem FK_mono (h : FK d W ok x c) (hok : ∀ k, ok k → ok' k) : FK d W ok' x c := Foot.mono h hok
theorem FK_bound (h : FK d W ok x c) : FK d W (fun k => ok k ∧ k < W.heap.size) x c := Foot.bound h
theorem FK_step (h : FK d W ok x c) (hm : ∀ k, ok k → k < W.heap.size → W1.heap[k]? = W.heap[k]?) : FK d W1 ok x c := Foot.step h hm
theorem FK_of_M (h : d.M W base ok x c) : FK d W ok x c := fun _ hW => d.K_of_M (M_step h hW)
end
end Kd
end Go.Proofs.YtocbiggglnpeoaaW.PrintWords
end
section
namespace Go.Proofs.YtocbiggglnpeoaaW.PrintWords
open Go.RowKit
namespace Kd
def chunks (sz : Nat) (n : Nat) (inner : List Value) : List (List Value) := (List.range n).map fun j => (inner.drop (j * sz)).take sz
theorem chunks_length (sz n : Nat) (inner : List Value) : (chunks sz n inner).length = n := by simp [chunks]
theorem chunks_at {sz n : Nat} {inner : List Value} {j : Nat} (hj : j < n) : (chunks sz n inner)[j]? = some ((inner.drop (j * sz)).take sz) := by simp [chunks, hj]
theorem chunks_get {sz n : Nat} {inner : List Value} {j : Nat} {c : List Value} (h : (chunks sz n inner)[j]? = some c) : c = (inner.drop (j * sz)).take sz := by
 have hj : j < n := by have := (List.getElem?_eq_some_iff.1 h).1; rwa [chunks_length] at this
 rw [chunks_at hj] at h
 injection h with h
 exact h.symm
theorem reps_raw {α : Type} {Rr : α → List Value → Prop} {sz : Nat} {xs : List α} {inner : List Value} (h : Reps Rr sz xs inner) (hR : ∀ x c, Rr x c → c.length = sz ∧ ∀ u ∈ c, u.oneCell' = true) : Reps (fun x cs => cs = x ∧ cs.length = sz ∧ ∀ u ∈ cs, u.oneCell' = true) sz (chunks sz xs.length inner) inner := by
 refine ⟨by rw [chunks_length]; exact h.1, fun j p hj => ?_⟩
 have hjl : j < xs.length := by have := (List.getElem?_eq_some_iff.1 hj).1; rwa [chunks_length] at this
 have hp := chunks_get hj
 exact ⟨hp.symm, hR _ _ (h.2 j _ (List.getElem?_eq_getElem hjl))⟩
section
variable {α : Type} {d : Kd α} {e base n cc g : Nat} {ok ok' okp S : Nat → Prop} {w w1 W W1 : World} {A : Option Addr} {u v v1 : Value} {xs : List α} {x : α} {c : List Value}
def N {α : Type} (d : Kd α) (e : Nat) (w : World) (base : Nat) (ok : Nat → Prop) (v : Value) (xs : List α) : Prop :=
 (∀ k, v.ownBlock = some k → ok k) ∧ ∃ rows : List (List Value), rows.length = xs.length ∧ (raw d.sz).R e w base (fun k => some k = v.ownBlock) v rows ∧ ∀ (j : Nat) (x : α) (c : List Value), xs[j]? = some x → rows[j]? = some c → FK d w (fun k => ok k ∧ some k ≠ v.ownBlock) x c
theorem raw_tight {sz : Nat} {rows : List (List Value)} (h : (raw sz).R e w base ok v rows) : (raw sz).R e w base (fun k => some k = v.ownBlock) v rows := R_tight rfl h
theorem R_N (h : d.R e w base ok v xs) : N d e w base ok v xs := by
 obtain ⟨h0, inner, ho, hr⟩ := h
 refine ⟨h0, chunks d.sz xs.length inner, chunks_length _ _ _, ⟨fun k hk => hk.symm, inner, by rw [chunks_length]; exact ho, reps_raw hr (fun x c hp => ⟨d.K_len (d.K_of_M hp), d.K_one (d.K_of_M hp)⟩)⟩, fun j x c hx hc => ?_⟩
 rw [chunks_get hc]
 exact FK_of_M (hr.2 j x hx)
theorem S_N (h : Kd.S d e w base ok v xs) : N d e w base ok v xs := R_N (S_R h)
theorem N_mono (h : N d e w base ok v xs) (hok : ∀ k, ok k → ok' k) : N d e w base ok' v xs := by
 obtain ⟨h0, rows, hl, hR, hf⟩ := h
 exact ⟨fun k hk => hok k (h0 k hk), rows, hl, hR, fun j x c hx hc => FK_mono (hf j x c hx hc) (fun k hk => ⟨hok k hk.1, hk.2⟩)⟩
theorem N_lt (h : N d e w base ok v xs) : ∀ k, v.ownBlock = some k → k < w.heap.size := by
 obtain ⟨_, rows, _, hR, _⟩ := h
 exact R_lt hR
theorem N_base (h : N d e w base ok v xs) : ∀ k, v.ownBlock = some k → base ≤ k := by
 obtain ⟨_, rows, _, hR, _⟩ := h
 exact R_base hR
theorem N_typed (h : N d e w base ok v xs) : ∀ k, v.ownBlock = some k → ∃ cells, w.heap[k]? = some (.cells cells e (0, 0)) := by
 obtain ⟨_, rows, _, hR, _⟩ := h
 exact R_typed hR
theorem N_bound (h : N d e w base ok v xs) : N d e w base (fun k => ok k ∧ k < w.heap.size) v xs := by
 have hlt := N_lt h
 obtain ⟨h0, rows, hl, hR, hf⟩ := h
 exact ⟨fun k hk => ⟨h0 k hk, hlt k hk⟩, rows, hl, hR, fun j x c hx hc => FK_mono (FK_bound (hf j x c hx hc)) (fun k hk => ⟨⟨hk.1.1, hk.2⟩, hk.1.2⟩)⟩
theorem N_lower {base' : Nat} (h : N d e w base ok v xs) (hb : base' ≤ base) : N d e w base' ok v xs := by
 obtain ⟨h0, rows, hl, hR, hf⟩ := h
 exact ⟨h0, rows, hl, R_lower hR hb, hf⟩
theorem N_step (h : N d e w base ok v xs) (hm : ∀ k, ok k → k < w.heap.size → w1.heap[k]? = w.heap[k]?) : N d e w1 base ok v xs := by
 obtain ⟨h0, rows, hl, hR, hf⟩ := h
 exact ⟨h0, rows, hl, R_step hR (fun k hk hlt => hm k (h0 k hk.symm) hlt), fun j x c hx hc => FK_step (hf j x c hx hc) (fun k hk hlt => hm k hk.1 hlt)⟩
theorem N_below (h : N d e w base ok v xs) (hb : Below w.heap.size w w1) : N d e w1 base ok v xs := N_step h (fun k _ hk => hb.block k hk)
theorem N_alloc (h : N d e w base ok v xs) (o : Obj) : N d e (w.alloc o) base ok v xs := N_below h (below_alloc (Below.refl _ _) o)
theorem N_drew (h : N d e w base ok v xs) : N d e w.drew base ok v xs := N_below h (below_drew (Below.refl _ _))
theorem N_drewN (h : N d e w base ok v xs) (m : Nat) : N d e (w.drewN m) base ok v xs := N_below h (pw_below_drewN (Below.refl _ _) m)
theorem N_far (h : N d e w base ok v xs) {p : Addr} (hok : ∀ k, ok k → k ≠ p.block) (u : Value) : N d e (w.setCell p u) base ok v xs := N_step h (fun k ho _ => Below.heap_setCell w p u k (hok k ho))
theorem N_elder' (h : N d e W base ok v xs) (hbase : ∀ k, u.ownBlock = some k → W.heap.size ≤ k) (hb : Below W.heap.size W w1) : N d e w1 base (fun k => ok k ∧ some k ≠ u.ownBlock) v xs :=
 N_mono (N_below (N_bound h) hb) (fun k hk => ⟨hk.1, fun he => by have := hbase k he.symm; have := hk.2; omega⟩)
theorem N_elderB (h : N d e w base ok v xs) (a : Nat) (ha : w.heap.size ≤ a) : N d e w base (fun k => ok k ∧ k ≠ a) v xs := N_mono (N_bound h) (fun k hk => ⟨hk.1, by have := hk.2; omega⟩)
theorem N_old (h : N d e W base ok v xs) (hb : Below W.heap.size W w1) : N d e w1 base (fun k => ok k ∧ k < W.heap.size) v xs := N_below (N_bound h) hb
theorem N_told {b : Nat} (h : N d e w1 base (fun k => ok k ∧ k < b) v xs) (hbase : ∀ k, u.ownBlock = some k → b ≤ k) : N d e w1 base (fun k => (ok k ∧ some k ≠ u.ownBlock) ∧ k < b) v xs :=
 N_mono h (fun k hk => ⟨⟨hk.1, fun e => Nat.lt_irrefl _ (Nat.lt_of_lt_of_le hk.2 (hbase k e.symm))⟩, hk.2⟩)
theorem N_slice (h : N d e w base ok v xs) : ∃ A c, v = .slice A xs.length c := by
 obtain ⟨_, rows, hl, hR, _⟩ := h
 obtain ⟨A, c, he⟩ := R_slice hR
 exact ⟨A, c, by rw [he, hl]⟩
theorem N_reads' {n c : Nat} (h : N d e w base ok (.slice A n c) xs) : n = xs.length ∧ n ≤ c ∧ d.C w A xs.length xs := by
 obtain ⟨_, rows, hl, hR, hf⟩ := h
 obtain ⟨hn, hc, hC⟩ := R_reads' hR
 refine ⟨by omega, hc, ?_⟩
 rw [hl] at hC
 refine ⟨rfl, hC.2.1, fun hp => ?_⟩
 obtain ⟨ad, he, hcell⟩ := hC.2.2 hp
 refine ⟨ad, he, fun j p hj => ?_⟩
 have hjl : j < rows.length := by have := (List.getElem?_eq_some_iff.1 hj).1; omega
 obtain ⟨c', hcl, hK, hcc⟩ := hcell j _ (List.getElem?_eq_getElem hjl)
 have hk := FK_now (hf j p _ hj (List.getElem?_eq_getElem hjl))
 refine ⟨c', hcl, ?_, hcc⟩
 rw [show c' = rows[j] from hK.1]
 exact hk
theorem N_elem {n cap : Nat} (h : N d e W base ok (.slice (some ⟨g, 0, none⟩) n cap) xs) (z : α) (i : Int) (h0 : 0 ≤ i) (h1 : i < n) :
  ∃ c, c.length = d.sz ∧ FK d W (fun k => ok k ∧ k ≠ g) (xs.getD i.toNat z) c ∧ (∀ j u, c[j]? = some u → W.cell? ⟨g, i.toNat * d.sz + j, none⟩ = some u) ∧ ∀ j, W.frozen? ⟨g, i.toNat * d.sz + j, none⟩ = false := by
 obtain ⟨_, rows, hl, hR, hf⟩ := h
 have hn := (R_reads' hR).1
 obtain ⟨c, hcl, hM, hcc, hfr⟩ := R_elem hR [] i h0 h1
 have hil : i.toNat < rows.length := by omega
 have hil' : i.toNat < xs.length := by omega
 have hc : c = rows[i.toNat] := by
  have h2 := hM.1
  rwa [List.getD_eq_getElem?_getD, List.getElem?_eq_getElem hil] at h2
 refine ⟨c, hcl, ?_, hcc, hfr⟩
 rw [List.getD_eq_getElem?_getD, List.getElem?_eq_getElem hil']
 exact FK_mono (hf _ _ _ (List.getElem?_eq_getElem hil') (by rw [hc]; exact List.getElem?_eq_getElem hil)) (fun k hk => ⟨hk.1, fun he => hk.2 (by rw [he]; simp [Value.ownBlock])⟩)
theorem N_get {ad : Addr} {n cap : Nat} (h : N d e W base ok (.slice (some ad) n cap) xs) (z : α) (i : Int) (h0 : 0 ≤ i) (h1 : i < n) :
  ∃ c, c.length = d.sz ∧ FK d W (fun k => ok k ∧ some k ≠ (Value.slice (some ad) n cap).ownBlock) (xs.getD i.toNat z) c ∧ ∀ j u, c[j]? = some u → W.cell? (ad.add (i.toNat * d.sz + j)) = some u := by
 obtain ⟨g, rfl⟩ : ∃ g, ad = ⟨g, 0, none⟩ := by
  obtain ⟨_, rows, _, hR, _⟩ := h
  exact R_head hR
 obtain ⟨c, hcl, hM, hcc, _⟩ := N_elem h z i h0 h1
 refine ⟨c, hcl, FK_mono hM (fun k hk => ⟨hk.1, fun he => hk.2 (by simpa [Value.ownBlock] using he)⟩), fun j u hu => ?_⟩
 rw [add_at, Nat.zero_add]
 exact hcc j u hu
end
end Kd
end Go.Proofs.YtocbiggglnpeoaaW.PrintWords
end
section
namespace Go.Proofs.YtocbiggglnpeoaaW.PrintWords
open Go.RowKit
namespace Kd
section
variable {α : Type} {d : Kd α} {e base n cap g : Nat} {ok ok' okp : Nat → Prop} {w w1 W : World} {v v1 : Value} {xs ys : List α}
theorem N_made {rows : List (List Value)} (hR : (raw d.sz).R e w1 base (fun k => k = W.heap.size) v1 rows) (hg : W.grownBy w1 none) (hat : ∃ b, v1.ownBlock = some b ∧ W.heap.size ≤ b) (hl : rows.length = xs.length) (hf : ∀ (j : Nat) (x : α) (c : List Value), xs[j]? = some x → rows[j]? = some c → FK d W okp x c)
  (hok : ∀ k, okp k → ok k) (hfresh : ok W.heap.size) : N d e w1 base ok v1 xs := by
 obtain ⟨b, hb, hle⟩ := hat
 refine ⟨fun k hk => by rw [hR.1 k hk]; exact hfresh, rows, hl, raw_tight hR, fun j x c hx hc => ?_⟩
 refine FK_mono (FK_step (FK_bound (hf j x c hx hc)) (fun k hk hlt => hg.block k hlt (by simp))) (fun k hk => ⟨hok k hk.1, fun he => ?_⟩)
 rw [hb] at he
 injection he with he
 have := hk.2
 omega
end
section
variable {P : Program} {ops : Array Oper} {rest : List Oper} {o : Oper} {a : Act} {Q : Exit → Act → World → Prop} {Kc : Act → World → Prop} {α : Type}
theorem N_lit (d : Kd α) {w0 W : World} (base e : Nat) (hgd : o.guard = none) {N' : Tmp} (_hd : o.dst = some N') {xs : List α} {inner : List Value} {ok okp : Nat → Prop}
  (hrun : (execOp a.eval o).run P W = .ok (.value (.slice (some ⟨W.heap.size, 0, none⟩) xs.length xs.length)) (W.alloc (.cells inner.toArray e)))
  (hrep : Reps (FK d W okp) d.sz xs inner) (hok : ∀ k, okp k → ok k) (hfresh : ok W.heap.size) (HB : Below base w0 W) (hbase : base ≤ W.heap.size) (hm : xs.length ≤ 9223372036854775807)
  (h : ∀ v1 w1, N d e w1 base ok v1 xs → Below base w0 w1 → W.grownBy w1 none → (∃ b, v1.ownBlock = some b ∧ W.heap.size ≤ b) → wpList P ops Q rest (a.put o.dst v1) w1) :
  wpList P ops Q (o :: rest) a W := by
 refine R_lit (raw d.sz) base e hgd _hd (xs := chunks d.sz xs.length inner) (inner := inner) (ok := fun k => k = W.heap.size) (okp := fun _ => False) (by rw [chunks_length]; exact hrun) (reps_raw hrep (fun y c hk => ⟨d.K_len (FK_now hk), d.K_one (FK_now hk)⟩)) (fun _ hk => hk.elim) rfl HB hbase (by rw [chunks_length]; exact hm) ?_
 intro v1 w1 hr hb hg hat
 exact h v1 w1 (N_made hr hg hat (chunks_length _ _ _) (fun j y c hy hc => by rw [chunks_get hc]; exact hrep.2 j y hy) hok hfresh) hb hg hat
end
end Kd
end Go.Proofs.YtocbiggglnpeoaaW.PrintWords
end
section
namespace Go.Proofs.YtocbiggglnpeoaaW.PrintMore
open Go.RowKit Go.Proofs.YtocbiggglnpeoaaW.PrintWords
namespace Kd
open Go.Proofs.YtocbiggglnpeoaaW.PrintWords.Kd
end Kd
namespace Kd
open Go.Proofs.YtocbiggglnpeoaaW.PrintWords.Kd
section
variable {α : Type} {d : Kd α} {e base g N : Nat} {ok : Nat → Prop} {W w1 : World} {u v : Value} {xs : List α}
end
end Kd
theorem max2_int (k k' : IntKind) (x y : Int) : Builtin.max2 (.int k x) (.int k' y) = pure (.int k (if x < y then y else x)) := by simp only [Builtin.max2, gt_iff_lt]
theorem min2_int (k k' : IntKind) (x y : Int) : Builtin.min2 (.int k x) (.int k' y) = pure (.int k (if y < x then y else x)) := by simp only [Builtin.min2]
theorem max_two (ats : Array TypeId) (ty : TypeId) (a b : Value) : Builtin.max_ ats ty #[a, b] = (Builtin.max2 a b >>= fun s => pure s) := by simp only [Builtin.max_, List.foldlM_cons, List.foldlM_nil]
theorem min_two (ats : Array TypeId) (ty : TypeId) (a b : Value) : Builtin.min_ ats ty #[a, b] = (Builtin.min2 a b >>= fun s => pure s) := by simp only [Builtin.min_, List.foldlM_cons, List.foldlM_nil]
theorem max_three (ats : Array TypeId) (ty : TypeId) (a b c : Value) : Builtin.max_ ats ty #[a, b, c] = (Builtin.max2 a b >>= fun s => Builtin.max2 s c >>= fun s => pure s) := by simp only [Builtin.max_, List.foldlM_cons, List.foldlM_nil]
theorem min_three (ats : Array TypeId) (ty : TypeId) (a b c : Value) : Builtin.min_ ats ty #[a, b, c] = (Builtin.min2 a b >>= fun s => Builtin.min2 s c >>= fun s => pure s) := by simp only [Builtin.min_, List.foldlM_cons, List.foldlM_nil]
theorem max_four (ats : Array TypeId) (ty : TypeId) (a b c d : Value) : Builtin.max_ ats ty #[a, b, c, d] = (Builtin.max2 a b >>= fun s => Builtin.max2 s c >>= fun s => Builtin.max2 s d >>= fun s => pure s) := by simp only [Builtin.max_, List.foldlM_cons, List.foldlM_nil]
theorem min_four (ats : Array TypeId) (ty : TypeId) (a b c d : Value) : Builtin.min_ ats ty #[a, b, c, d] = (Builtin.min2 a b >>= fun s => Builtin.min2 s c >>= fun s => Builtin.min2 s d >>= fun s => pure s) := by simp only [Builtin.min_, List.foldlM_cons, List.foldlM_nil]
end Go.Proofs.YtocbiggglnpeoaaW.PrintMore
namespace Go.Proofs.YtocbiggglnpeoaaW.PrintWords
open Go.RowKit
section
variable {P : Program} {ops : Array Oper} {rest : List Oper} {o : Oper} {a : Act} {Q : Exit → Act → World → Prop} {W : World}
theorem gate_callee {f : FuncId} {as_ : Array Operand} {ts : Array TypeId} (_ho : o.op = .call { callee := .value (.func f), args := as_, argTypes := ts }) (h : wpList P ops Q (o :: rest) a W) : wpList P ops Q (o :: rest) a W := h
theorem gate_builtin {b : Builtin} {xs : Array Operand} {ts : Array TypeId} (_ho : o.op = .call { callee := .builtin b, args := xs, argTypes := ts }) (h : wpList P ops Q (o :: rest) a W) : wpList P ops Q (o :: rest) a W := h
end
namespace Kd
section
variable {α : Type} {d : Kd α} {e base : Nat} {ok : Nat → Prop} {W w1 : World} {v : Value} {xs : List α}
end
section
variable {α : Type} {d : Kd α} {e base g n cap : Nat} {ok oki okp : Nat → Prop} {W : World} {xs : List α} {i : Int} {c : List Value}
end
section
variable {α : Type} {d : Kd α} {e base b b' g N : Nat} {ok ok1 : Nat → Prop} {W W2 w1 : World} {u v : Value} {xs ys : List α} {S : Nat → Prop}
end
end Kd
end Go.Proofs.YtocbiggglnpeoaaW.PrintWords
namespace Go.Proofs.YtocbiggglnpeoaaW.PrintWords
open Go.RowKit
namespace Kd
def V {α : Type} (d : Kd α) (_e : Nat) (W : World) (_base : Nat) (ok : Nat → Prop) (v : Value) (xs : List α) : Prop := ∃ A c, v = .slice A xs.length c ∧ xs.length ≤ c ∧ F d W ok A xs.length xs
section
variable {α β : Type} {d : Kd α} {e base base' n m c g N' lo hi : Nat} {ok ok' S : Nat → Prop} {w W w1 : World} {A : Option Addr} {ad : Addr} {u v v1 : Value} {xs : List α}
theorem V_mk (hl : xs.length ≤ c) (hf : F d W ok A xs.length xs) : V d e W base ok (.slice A xs.length c) xs := ⟨A, c, rfl, hl, hf⟩
theorem R_newM {M : Nat → Prop} (h : d.R e w1 W.heap.size ok v xs) (hle : w.heap.size ≤ W.heap.size) (hM : ∀ k, w.heap.size ≤ k → M k) : d.R e w1 W.heap.size (fun k => M k ∧ ok k) v xs := R_mono (R_bound h) (fun k hk => ⟨hM k (Nat.le_trans hle hk.2.1), hk.1⟩)
end
end Kd
end Go.Proofs.YtocbiggglnpeoaaW.PrintWords
end
section
namespace Go.Proofs.YtocbiggglnpeoaaH
open Go.ChangeMaps (setBlock)
open Go.RowKit
def lookL : List MapEntry → Int → Option Value
 | [], _ => none
 | e :: es, k => match e.key with
  | .int .i64 x => if x = k then some e.val else lookL es k
  | _ => lookL es k
def IntKeys (es : List MapEntry) : Prop := ∀ e ∈ es, ∃ x, e.key = .int .i64 x
def MapI (w : World) (b : Nat) (m : Int → Option Value) : Prop :=
 ∃ es clock, w.heap[b]? = some (.map es clock) ∧ IntKeys es.toList ∧ ∀ k, lookL es.toList k = m k
theorem findNow_int (k : Int) : ∀ (es : List MapEntry) (i : Nat), IntKeys es →
  (∃ j v e, Instr.findNow (.int .i64) (.int .i64 k) es i = some (some (i + j, v)) ∧ es[j]? = some e ∧ e.key = .int .i64 k ∧ e.val = v ∧ lookL es k = some v ∧
   (∀ v', ∀ k', lookL (es.modify j fun e => { e with key := .int .i64 k, val := v' }) k' = if k' = k then some v' else lookL es k')) ∨
  (Instr.findNow (.int .i64) (.int .i64 k) es i = some none ∧ lookL es k = none)
 | [], i, _ => .inr ⟨rfl, rfl⟩
 | e :: es, i, h => by
  obtain ⟨x, hx⟩ := h e (by simp)
  by_cases hxk : x = k
  ·subst hxk
   refine .inl ⟨0, e.val, e, ?_, rfl, hx, rfl, ?_, ?_⟩
   ·simp [Instr.findNow, Instr.sameNow, hx]
   ·simp [lookL, hx]
   ·intro v' k'
    simp only [List.modify_zero_cons, lookL, hx]
    by_cases hk : k' = x
    ·simp [hk]
    ·have hk2 : x ≠ k' := fun h => hk h.symm
     simp [hk, hk2]
  ·have hs : Instr.sameNow (.int .i64) (.int .i64 k) e.key = some false := by
    have : k ≠ x := fun h => hxk h.symm
    simp [Instr.sameNow, hx, this]
   rcases findNow_int k es (i + 1) (fun e' he' => h e' (by simp [he'])) with ⟨j, v, e', h1, h2, h3, h4, h5, h6⟩ | ⟨h1, h2⟩
   ·refine .inl ⟨j + 1, v, e', ?_, by simpa using h2, h3, h4, ?_, ?_⟩
    ·simp only [Instr.findNow, hs]
     rw [h1]
     congr 3
     omega
    ·simp [lookL, hx, hxk, h5]
    ·intro v' k'
     simp only [List.modify_succ_cons, lookL, hx]
     rw [h6]
     by_cases hk : k' = k
     ·subst hk
      simp [hxk]
     ·simp [hk]
   ·refine .inr ⟨?_, ?_⟩
    ·simp only [Instr.findNow, hs]
     exact h1
    ·simp [lookL, hx, hxk, h2]
theorem lookL_append (es : List MapEntry) (e : MapEntry) (k k' : Int) (he : e.key = .int .i64 k) (hn : lookL es k = none) : IntKeys es → lookL (es ++ [e]) k' = if k' = k then some e.val else lookL es k' := by
 induction es with
 | nil =>
  intro _
  by_cases hk : k' = k
  ·simp [lookL, he, hk]
  ·have : k ≠ k' := fun h => hk h.symm
   simp [lookL, he, hk, this]
 | cons a es ih =>
  intro h
  obtain ⟨x, hx⟩ := h a (by simp)
  have hxk : x ≠ k := by
   intro hxk
   simp [lookL, hx, hxk] at hn
  have hn' : lookL es k = none := by simpa [lookL, hx, hxk] using hn
  have ih' := ih hn' (fun e' he' => h e' (by simp [he']))
  simp only [List.cons_append, lookL, hx]
  by_cases hk : x = k'
  ·have : k' ≠ k := by omega
   simp [hk, this]
  ·simp [hk, ih']
theorem MapI.kept {w w1 : World} {b : Nat} {m : Int → Option Value} {row : Option Nat} (h : MapI w b m) (hg : w.grownBy w1 row) (hne : some b ≠ row) : MapI w1 b m := by
 obtain ⟨es, clock, hb, hk, hm⟩ := h
 exact ⟨es, clock, (hg.block b (Array.getElem?_eq_some_iff.1 hb).1 hne).trans hb, hk, hm⟩
theorem MapI.lt {w : World} {b : Nat} {m : Int → Option Value} (h : MapI w b m) : b < w.heap.size := by
 obtain ⟨es, clock, hb, hk, hm⟩ := h
 exact (Array.getElem?_eq_some_iff.1 hb).1
theorem MapI.move {w w1 : World} {b : Nat} {m : Int → Option Value} (h : MapI w b m) (e : w1.heap[b]? = w.heap[b]?) : MapI w1 b m := by
 obtain ⟨es, clock, hb, hk, hm⟩ := h
 exact ⟨es, clock, e.trans hb, hk, hm⟩
theorem MapI.below {w w1 : World} {b : Nat} {m : Int → Option Value} (h : MapI w b m) (hb : Below w.heap.size w w1) : MapI w1 b m := h.move (hb.block b h.lt)
theorem MapI.alloc {w : World} {b : Nat} {m : Int → Option Value} (h : MapI w b m) (o : Obj) : MapI (w.alloc o) b m := h.below ((Below.refl _ _).alloc (Nat.le_refl _) o)
theorem MapI.drew {w : World} {b : Nat} {m : Int → Option Value} (h : MapI w b m) : MapI w.drew b m := h
theorem MapI.drewN {w : World} {b : Nat} {m : Int → Option Value} (h : MapI w b m) (n : Nat) : MapI (w.drewN n) b m := h
theorem MapI.made (w : World) : MapI (w.alloc (.map #[] 0)) w.heap.size (fun _ => none) :=
 ⟨#[], 0, heap_alloc_new _ _, by simp [IntKeys], fun k => rfl⟩
theorem MapI.not_cells {w : World} {b : Nat} {m : Int → Option Value} (h : MapI w b m) {cs : Array Value} {t : TypeId} {fr : Nat × Nat} : w.heap[b]? ≠ some (.cells cs t fr) := by
 obtain ⟨es, clock, hb, hk, hm⟩ := h
 rw [hb]
 simp
theorem MapI.ne_blk {w : World} {b : Nat} {m : Int → Option Value} (h : MapI w b m) {g : Nat} {cs : Array Value} {t : TypeId} {fr : Nat × Nat} (hg : w.heap[g]? = some (.cells cs t fr)) : some g ≠ some b := by
 rintro ⟨⟩
 exact h.not_cells hg
theorem MapI.eq {w : World} {b : Nat} {m m' : Int → Option Value} (h : MapI w b m) (e : ∀ k, m k = m' k) : MapI w b m' := by
 obtain ⟨es, clock, hb, hk, hm⟩ := h
 exact ⟨es, clock, hb, hk, fun k => (hm k).trans (e k)⟩
def setM (m : Int → Option Value) (k : Int) (v : Value) : Int → Option Value := fun k' => if k' = k then some v else m k'
section
variable {P : Program}
theorem run_checkI {w : World} {kt : TypeId} (hk : P.underlying kt = some (.int .i64)) (k : Int) (em : Bool) (n : Nat) : (Instr.checkKey em (n + 1) kt (.int .i64 k)).run P w = .ok () w := by
 simp [Instr.checkKey, run_underlying hk]
theorem run_lookI {w : World} {b : Nat} {m : Int → Option Value} (h : MapI w b m) {t kt et : TypeId} (ht : P.underlying t = some (.map kt et)) (hk : P.underlying kt = some (.int .i64)) {z : Value} (hz : (zeroValue et).run P w = .ok z w) (k : Int) (c : Bool) :
  (Instr.lookup t (.map (some b)) (.int .i64 k) c).run P w = .ok (if c then .tuple #[(m k).getD z, .bool (m k).isSome] else (m k).getD z) w := by
 obtain ⟨es, clock, hb, hks, hm⟩ := h
 have hck : (Instr.checkKey es.isEmpty 10000 kt (.int .i64 k)).run P w = .ok () w := run_checkI hk k _ 9999
 rcases findNow_int k es.toList 0 hks with ⟨j, v, e, h1, h2, h3, h4, h5, _⟩ | ⟨h1, h2⟩
 ·have hf : (Instr.findKey kt (.int .i64 k) es.toList).run P w = .ok (some (0 + j, v)) w := by simp [Instr.findKey, run_underlying hk, h1]
  simp [Instr.lookup, run_underlying ht, MapKept.run_getObj_map hb, hck, hf, Result.andThen, ← hm, h5]
 ·have hf : (Instr.findKey kt (.int .i64 k) es.toList).run P w = .ok none w := by simp [Instr.findKey, run_underlying hk, h1]
  simp [Instr.lookup, run_underlying ht, MapKept.run_getObj_map hb, hck, hf, hz, Result.andThen, ← hm, h2]
theorem heap_set_same {w : World} {b : Nat} {o o' : Obj} (h : w.heap[b]? = some o) : (setBlock w b o').heap[b]? = some o' := by
 have := (Array.getElem?_eq_some_iff.1 h).1
 simp [setBlock, this]
theorem heap_set_other {w : World} {b i : Nat} {o' : Obj} (h : i ≠ b) : (setBlock w b o').heap[i]? = w.heap[i]? := by
 have : b ≠ i := fun e => h e.symm
 simp [setBlock, this]
theorem run_storeI {w : World} {b : Nat} {m : Int → Option Value} (h : MapI w b m) {t kt et : TypeId} (ht : P.underlying t = some (.map kt et)) (hk : P.underlying kt = some (.int .i64)) (k : Int) (v : Value) :
  ∃ w', (Instr.mapUpdate t (.map (some b)) (.int .i64 k) v).run P w = .ok () w' ∧ MapI w' b (setM m k v) ∧ w.grownBy w' (some b) := by
 obtain ⟨es, clock, hb, hks, hm⟩ := h
 have hck : (Instr.checkKey false 10000 kt (.int .i64 k)).run P w = .ok () w := run_checkI hk k _ 9999
 have grown : ∀ o', w.grownBy (setBlock w b o') (some b) := fun o' => ⟨rfl, rfl, rfl, by simp [setBlock], fun i _ hi => heap_set_other (fun e => hi (by rw [e]))⟩
 rcases findNow_int k es.toList 0 hks with ⟨j, v0, e, h1, h2, h3, h4, h5, h6⟩ | ⟨h1, h2⟩
 ·have hf : (Instr.findKey kt (.int .i64 k) es.toList).run P w = .ok (some (0 + j, v0)) w := by simp [Instr.findKey, run_underlying hk, h1]
  have h2' : es[j]? = some e := by simpa using h2
  have hst : (Instr.keyThatStays (((es[j]?).map (·.key)).getD (.int .i64 k)) (.int .i64 k)).run P w = .ok (.int .i64 k) w := by
   simp [h2', h3, Instr.keyThatStays, Instr.sameBits]
  refine ⟨setBlock w b (.map (es.modify j fun e => { e with key := .int .i64 k, val := v }) clock), ?_, ⟨_, _, heap_set_same hb, ?_, ?_⟩, grown _⟩
  ·simp only [h2', Option.map_some, Option.getD_some] at hst
   simp [Instr.mapUpdate, run_underlying ht, MapKept.run_getObj_map hb, hck, hf, h2', hst, MapKept.run_setObj_map _ hb, Result.andThen, setBlock]
  ·intro e' he'
   rw [Array.toList_modify] at he'
   obtain ⟨i, hi, rfl⟩ := List.mem_iff_getElem.1 he'
   rw [List.getElem_modify]
   split
   ·exact ⟨k, rfl⟩
   ·exact hks _ (List.getElem_mem _)
  ·intro k'
   rw [Array.toList_modify, h6]
   unfold setM
   rw [← hm]
 ·have hf : (Instr.findKey kt (.int .i64 k) es.toList).run P w = .ok none w := by simp [Instr.findKey, run_underlying hk, h1]
  refine ⟨setBlock w b (.map (es.push { key := .int .i64 k, val := v, born := clock }) (clock + 1)), ?_, ⟨_, _, heap_set_same hb, ?_, ?_⟩, grown _⟩
  ·simp [Instr.mapUpdate, run_underlying ht, MapKept.run_getObj_map hb, hck, hf, MapKept.run_setObj_map _ hb, Result.andThen, setBlock]
  ·intro e' he'
   simp at he'
   rcases he' with he' | rfl
   ·exact hks _ (by simpa using he')
   ·exact ⟨k, rfl⟩
  ·intro k'
   rw [Array.toList_push, lookL_append es.toList _ k k' rfl h2 hks]
   unfold setM
   rw [← hm]
variable (w : World) {ops : Array Oper} {rest : List Oper} {o : Oper} {a : Act} {Q : Exit → Act → World → Prop}
theorem wpList_lookI (hg : o.guard = none) (mo x : Operand) (t : TypeId) (c : Bool) (hop : o.op = Op.lookup t mo x c) (kt et : TypeId) (ht : P.underlying t = some (.map kt et)) (hk : P.underlying kt = some (.int .i64)) {z : Value} (hz : (zeroValue et).run P w = .ok z w)
  (b : Nat) (m : Int → Option Value) (hm : a.eval mo = .map (some b)) (h : MapI w b m) (k : Int) (hx : a.eval x = .int .i64 k)
  (hK : wpList P ops Q rest (a.put o.dst (if c then .tuple #[(m k).getD z, .bool (m k).isSome] else (m k).getD z)) w) : wpList P ops Q (o :: rest) a w := by
 refine wpList_plain hg fun K' hK' => ?_
 have hrun := run_lookI h ht hk hz k c
 unfold Oper.wp
 simp [execOp, hop, hm, hx, hrun, Result.andThen]
 exact hK' _ _ hK
theorem wpList_storeI (hg : o.guard = none) (mo x y : Operand) (t : TypeId) (hop : o.op = Op.mapUpdate t mo x y) (kt et : TypeId) (ht : P.underlying t = some (.map kt et)) (hk : P.underlying kt = some (.int .i64))
  (b : Nat) (m : Int → Option Value) (hm : a.eval mo = .map (some b)) (h : MapI w b m) (k : Int) (hx : a.eval x = .int .i64 k) (v : Value) (hy : a.eval y = v)
  (hK : ∀ w', MapI w' b (setM m k v) → w.grownBy w' (some b) → wpList P ops Q rest (a.put o.dst undef) w') : wpList P ops Q (o :: rest) a w := by
 refine wpList_plain hg fun K' hK' => ?_
 obtain ⟨w', hrun, h1, h2⟩ := run_storeI h ht hk k v
 unfold Oper.wp
 simp [execOp, hop, hm, hx, hy, hrun, Result.andThen]
 exact hK' _ _ (hK w' h1 h2)
end
end Go.Proofs.YtocbiggglnpeoaaH
end
section
namespace Go.Proofs.YtocbiggglnpeoaaH
open Go.RowKit Go.Proofs.YtocbiggglnpeoaaW.PrintWords
theorem blk_put2 {w : World} {g : Nat} {t : TypeId} {x y : Value} (h : w.heap[g]? = some (.cells #[x, y] t (0, 0))) (a b : Value) :
  ((w.setCell ⟨g, 0, none⟩ a).setCell ⟨g, 1, none⟩ b).heap[g]? = some (.cells #[a, b] t (0, 0)) := blk_put (blk_put h 0 a rfl) 1 b rfl
theorem blk_put3 {w : World} {g : Nat} {t : TypeId} {x y z : Value} (h : w.heap[g]? = some (.cells #[x, y, z] t (0, 0))) (a b c : Value) :
  (((w.setCell ⟨g, 0, none⟩ a).setCell ⟨g, 1, none⟩ b).setCell ⟨g, 2, none⟩ c).heap[g]? = some (.cells #[a, b, c] t (0, 0)) := blk_put (blk_put (blk_put h 0 a rfl) 1 b rfl) 2 c rfl
theorem below_put2 {w0 w : World} {g : Nat} (hb : Below w0.heap.size w0 w) (hg : w0.heap.size ≤ g) (a b : Value) :
  Below w0.heap.size w0 ((w.setCell ⟨g, 0, none⟩ a).setCell ⟨g, 1, none⟩ b) := below_set (below_set hb hg) hg
theorem below_put3 {w0 w : World} {g : Nat} (hb : Below w0.heap.size w0 w) (hg : w0.heap.size ≤ g) (a b c : Value) :
  Below w0.heap.size w0 (((w.setCell ⟨g, 0, none⟩ a).setCell ⟨g, 1, none⟩ b).setCell ⟨g, 2, none⟩ c) := below_set (below_put2 hb hg a b) hg
section
variable {α : Type} {d : Kd α} {e : Nat} {w w1 : World} {base b : Nat} {ok : Nat → Prop} {v : Value} {xs : List α} {m : Int → Option Value}
theorem R_notmap (h : Kd.R d e w base ok v xs) (hm : MapI w b m) : Kd.R d e w base (fun k => ok k ∧ some k ≠ some b) v xs :=
 Kd.R_mono (Kd.R_bound h) (fun k hk => ⟨hk.1, by
  rintro ⟨⟩
  obtain ⟨_, _, _, q, hq, cells, hc⟩ := hk
  exact hm.not_cells hc⟩)
theorem R_map (h : Kd.R d e w base ok v xs) (hm : MapI w b m) (hg : w.grownBy w1 (some b)) : Kd.R d e w1 base ok v xs := Kd.R_mono (Kd.R_grown (R_notmap h hm) hg (fun _ hk => hk.2)) (fun _ hk => hk.1)
end
theorem MapI.ne_row {α : Type} {d : Kd α} {e : Nat} {w : World} {base b : Nat} {ok : Nat → Prop} {v : Value} {xs : List α} {m : Int → Option Value} (hm : MapI w b m) (h : Kd.R d e w base ok v xs) : some b ≠ v.ownBlock := by
 intro e1
 obtain ⟨inner, ho⟩ := Kd.R_own h
 obtain ⟨cells, hc⟩ := own_typed ho b e1.symm
 exact hm.not_cells hc
end Go.Proofs.YtocbiggglnpeoaaH
end
section
namespace Go.Proofs.YtocbiggglnpeoaaH
open Go.RowKit Go.Proofs.YtocbiggglnpeoaaW.PrintWords Go.Proofs.YtocbiggglnpeoaaW.PrintLast
theorem grown_below {w0 w w1 : World} {row : Option Nat} (hb : Below w0.heap.size w0 w) (hg : w.grownBy w1 row) (hr : ∀ k, row = some k → w0.heap.size ≤ k) : Below w0.heap.size w0 w1 := pw_below_grown hb row hb.size hg hr
end Go.Proofs.YtocbiggglnpeoaaH
end
section
namespace Go.Proofs.YtocbiggglnpeoaaH
open Go.RowKit
variable {α : Type}
def mapV (f : α → Value) (m : Int → Option α) : Int → Option Value := fun k => (m k).map f
def upd (m : Int → Option α) (k : Int) (v : α) : Int → Option α := fun k' => if k' = k then some v else m k'
theorem mapV_set (f : α → Value) (m : Int → Option α) (k : Int) (v : α) : ∀ x, setM (mapV f m) k (f v) x = mapV f (upd m k v) x := by
 intro x
 unfold setM mapV upd
 by_cases h : x = k <;> simp [h]
theorem mapV_get (f : α → Value) (m : Int → Option α) (k : Int) (d : α) : (mapV f m k).getD (f d) = f ((m k).getD d) := by
 unfold mapV
 cases m k <;> rfl
theorem mapV_some (f : α → Value) (m : Int → Option α) (k : Int) : (mapV f m k).isSome = (m k).isSome := by
 unfold mapV
 cases m k <;> rfl
def foldM (ks : Nat → Int) (vs : Nat → α) : Nat → Int → Option α
 | 0 => fun _ => none
 | n + 1 => upd (foldM ks vs n) (ks n) (vs n)
theorem foldM_succ (ks : Nat → Int) (vs : Nat → α) (n : Nat) : foldM ks vs (n + 1) = upd (foldM ks vs n) (ks n) (vs n) := rfl
theorem foldM_isSome (ks : Nat → Int) (vs : Nat → α) (k : Int) : ∀ n, (foldM ks vs n k).isSome = true ↔ ∃ j, j < n ∧ ks j = k
 | 0 => by simp [foldM]
 | n + 1 => by
  rw [foldM_succ]
  unfold upd
  by_cases h : k = ks n
  ·rw [if_pos h]
   exact ⟨fun _ => ⟨n, by omega, h.symm⟩, fun _ => rfl⟩
  ·rw [if_neg h, foldM_isSome ks vs k n]
   exact ⟨fun ⟨j, hj, e⟩ => ⟨j, by omega, e⟩, fun ⟨j, hj, e⟩ => ⟨j, by
    rcases Nat.lt_succ_iff_lt_or_eq.1 hj with h' | h'
    ·exact h'
    ·subst h'; exact absurd e.symm h, e⟩⟩
theorem MapI.none_ {w : World} {b : Nat} (h : MapI w b (fun _ => none)) (f : α → Value) : MapI w b (mapV f (fun _ => none)) := h.eq (fun _ => rfl)
end Go.Proofs.YtocbiggglnpeoaaH
end
section
namespace Go.Proofs.YtocbiggglnpeoaaW.PrintLast
open Go.Proofs.YtocbiggglnpeoaaW.PrintWords (Aside0)
def needsOf (md : Region.Mode) (o : Oper) : List Nat := (o.after.toList.filter (fun e => Region.binds md e)).map (fun e => e.on)
def clashOf (md : Region.Mode) (ops : Array Oper) (i : Nat) (oi : Oper) : List Nat := (List.range ops.size).filter fun j => !(j == i) && match ops[j]? with
 | some oj => !(oj.after.any (fun e => Region.binds md e && e.on == i) || oi.apart ops oj)
 | none => false
def rtab (md : Region.Mode) (ops : Array Oper) : Bool × List (List Nat × List Nat) := (Region.noSelect ops, (List.range ops.size).map fun i => match ops[i]? with
 | some o => (needsOf md o, clashOf md ops i o)
 | none => ([], []))
def readyAt (T : List (List Nat × List Nat)) (l : List Bool) (i : Nat) : Bool := !l.getD i true && match T[i]? with
 | some r => r.1.all (fun j => l.getD j false)
 | none => false
def readyT (T : List (List Nat × List Nat)) (l : List Bool) : List Nat := (List.range T.length).filter (readyAt T l)
def freeT (T : List (List Nat × List Nat)) (l : List Bool) (i : Nat) : Bool := match T[i]? with
 | some r => r.2.all (fun j => l.getD j true)
 | none => false
def closedT (T : List (List Nat × List Nat)) (l : List Bool) : Bool := (List.range T.length).all fun j => !l.getD j false || match T[j]? with
 | some r => r.1.all (fun k => l.getD k false)
 | none => true
def reachT (T : List (List Nat × List Nat)) (i : Nat) : Nat → Nat → Bool
 | 0, _ => false
 | fuel + 1, d => match T[d]? with
  | some r => r.1.any fun j => j == i || reachT T i fuel j
  | none => false
def lastT (T : List (List Nat × List Nat)) (l : List Bool) (ds : List Nat) (i : Nat) : Bool := ds.all fun d => l.getD d true || reachT T i T.length d
section
variable {md : Region.Mode} {ops : Array Oper} {T : Bool × List (List Nat × List Nat)} {l l' li lj lk : Array Bool} {ds : List Nat} {i j k : Nat}
theorem gd (l : Array Bool) (j : Nat) (b : Bool) : l.getD j b = l.toList.getD j b := by simp [Array.getD_eq_getD_getElem?, List.getD_eq_getElem?_getD]
theorem needs_all (o : Oper) (p : Nat → Bool) : o.after.all (fun e => !Region.binds md e || p e.on) = (needsOf md o).all p := by
 unfold needsOf
 rw [← Array.all_toList]
 induction o.after.toList with
 | nil => rfl
 | cons e r ih =>
  rw [List.all_cons, ih, List.filter_cons]
  cases h : Region.binds md e <;> simp
theorem needs_any (o : Oper) (p : Nat → Bool) : o.after.any (fun e => Region.binds md e && p e.on) = (needsOf md o).any p := by
 unfold needsOf
 rw [← Array.any_toList]
 induction o.after.toList with
 | nil => rfl
 | cons e r ih =>
  rw [List.any_cons, ih, List.filter_cons]
  cases h : Region.binds md e <;> simp
theorem rtab_length : (rtab md ops).2.length = ops.size := by simp [rtab]
theorem rtab_some {o : Oper} (h : ops[i]? = some o) : (rtab md ops).2[i]? = some (needsOf md o, clashOf md ops i o) := by
 have hi := (Array.getElem?_eq_some_iff.1 h).1
 unfold rtab
 rw [List.getElem?_map, List.getElem?_range hi, Option.map_some, h]
theorem rtab_none (h : ops[i]? = none) : (rtab md ops).2[i]? = none := by
 have hi : ops.size ≤ i := Array.getElem?_eq_none_iff.1 h
 exact List.getElem?_eq_none (by rw [rtab_length]; exact hi)
theorem readyAt_eq : readyAt (rtab md ops).2 l.toList i = (!l.getD i true && ((ops[i]?).map (·.after.all fun e => !Region.binds md e || l.getD e.on false)).getD false) := by
 unfold readyAt
 rw [gd]
 cases h : ops[i]? with
 | none => rw [rtab_none h]; rfl
 | some o =>
  rw [rtab_some h]
  simp only [Option.map_some, Option.getD_some]
  rw [← needs_all]
  simp only [gd]
theorem ready_eq : Region.ready md ops l = readyT (rtab md ops).2 l.toList := by
 unfold Region.ready readyT
 rw [rtab_length]
 refine List.filter_congr (fun i _ => ?_)
 rw [readyAt_eq]
theorem free_eq : Region.free md ops l i = freeT (rtab md ops).2 l.toList i := by
 unfold Region.free freeT
 cases h : ops[i]? with
 | none => rw [rtab_none h]
 | some oi =>
  rw [rtab_some h]
  simp only [clashOf]
  rw [List.all_filter]
  congr 1
  funext j
  rw [gd]
  cases hj : ops[j]? with
  | none => cases (j == i) <;> cases (l.toList.getD j true) <;> simp
  | some oj =>
   cases (j == i) <;> cases (l.toList.getD j true) <;> cases (oj.after.any (fun e => Region.binds md e && e.on == i) || oi.apart ops oj) <;> simp_all
theorem closed_eq : Region.closedB md ops l = closedT (rtab md ops).2 l.toList := by
 unfold Region.closedB closedT
 rw [rtab_length]
 congr 1
 funext j
 rw [gd]
 cases h : ops[j]? with
 | none => rw [rtab_none h]
 | some o =>
  rw [rtab_some h]
  simp only
  rw [← needs_all]
  simp only [gd]
theorem reach_eq : ∀ (fuel d : Nat), Region.reachB md ops i fuel d = reachT (rtab md ops).2 i fuel d
 | 0, _ => rfl
 | fuel + 1, d => by
  unfold Region.reachB reachT
  cases h : ops[d]? with
  | none => rw [rtab_none h]
  | some o =>
   rw [rtab_some h]
   simp only
   rw [← needs_any]
   congr 1
   funext e
   rw [reach_eq fuel]
theorem last_eq : Region.lastB md ops l ds i = lastT (rtab md ops).2 l.toList ds i := by
 unfold Region.lastB lastT
 rw [rtab_length]
 congr 1
 funext d
 rw [gd, reach_eq]
theorem readyAt_mem (h : readyAt T.2 l.toList i = true) (hT : rtab md ops = T) : (Region.ready md ops l).contains i = true := by
 subst hT
 rw [ready_eq]
 unfold readyT
 rw [List.contains_iff_mem, List.mem_filter, List.mem_range]
 refine ⟨?_, h⟩
 unfold readyAt at h
 rw [Bool.and_eq_true] at h
 cases hq : (rtab md ops).2[i]? with
 | none => rw [hq] at h; simp at h
 | some r => exact (List.getElem?_eq_some_iff.1 hq).1
theorem set_of (h : (l.toList.set i true == l'.toList) = true) : (l.setIfInBounds i true == l') = true := by
 rw [beq_iff_eq] at h ⊢
 apply Array.ext'
 rw [Array.toList_setIfInBounds]
 exact h
def anyT (T : Bool × List (List Nat × List Nat)) (l l' : List Bool) (i : Nat) : Bool := T.1 && freeT T.2 l i && readyAt T.2 l i && (l.set i true == l')
theorem any_of (hT : rtab md ops = T) (h : anyT T l.toList l'.toList i = true) : anyB md ops l l' i = true := by
 simp only [anyT, Bool.and_eq_true] at h
 obtain ⟨⟨⟨h1, h2⟩, h3⟩, h4⟩ := h
 have h5 := readyAt_mem h3 hT
 have h6 := set_of h4
 subst hT
 simp only [anyB, Bool.and_eq_true]
 exact ⟨⟨⟨h1, by rw [free_eq]; exact h2⟩, h5⟩, h6⟩
def takeT (T : Bool × List (List Nat × List Nat)) (ds : List Nat) (l l' : List Bool) (i : Nat) : Bool := T.1 && freeT T.2 l i && readyAt T.2 l i && closedT T.2 l && lastT T.2 l ds i && (l.set i true == l')
theorem take_of (hT : rtab md ops = T) (h : takeT T ds l.toList l'.toList i = true) : takeB md ops ds l l' i = true := by
 simp only [takeT, Bool.and_eq_true] at h
 obtain ⟨⟨⟨⟨⟨h1, h2⟩, h3⟩, h4⟩, h5⟩, h6⟩ := h
 have h7 := readyAt_mem h3 hT
 have h8 := set_of h6
 subst hT
 simp only [takeB, Bool.and_eq_true]
 exact ⟨⟨⟨⟨⟨h1, by rw [free_eq]; exact h2⟩, h7⟩, by rw [closed_eq]; exact h4⟩, by rw [last_eq]; exact h5⟩, h8⟩
def upM (B : List Nat) (d : Nat) : List Nat → Nat
 | [] => 0
 | n :: r => (2 ^ n ||| (if n < d then B.getD n 0 else 0)) ||| upM B d r
def waitsOk (T : List (List Nat × List Nat)) (B : List Nat) : Bool := (List.range T.length).all fun d => match T[d]? with
 | some r => (B.getD d 0 ||| upM B d r.1) == upM B d r.1
 | none => false
theorem upM_bit {B : List Nat} {d i : Nat} : ∀ {ns : List Nat}, (upM B d ns).testBit i = true → ∃ n ∈ ns, n = i ∨ (n < d ∧ (B.getD n 0).testBit i = true)
 | [], h => by simp [upM] at h
 | n :: r, h => by
  unfold upM at h
  rw [Nat.testBit_or, Nat.testBit_or, Bool.or_eq_true, Bool.or_eq_true] at h
  rcases h with (h | h) | h
  ·rw [Nat.testBit_two_pow] at h
   exact ⟨n, List.mem_cons_self, .inl (by simpa using h)⟩
  ·by_cases hn : n < d
   ·rw [if_pos hn] at h
    exact ⟨n, List.mem_cons_self, .inr ⟨hn, h⟩⟩
   ·rw [if_neg hn] at h
    simp at h
  ·obtain ⟨m, hm, h2⟩ := upM_bit h
   exact ⟨m, List.mem_cons_of_mem _ hm, h2⟩
theorem reach_bit {T : List (List Nat × List Nat)} {B : List Nat} (hB : waitsOk T B = true) : ∀ (fuel d : Nat), d < fuel → d < T.length → (B.getD d 0).testBit i = true → reachT T i fuel d = true
 | 0, d, h, _, _ => by omega
 | fuel + 1, d, h, hd, hb => by
  have h1 := List.all_eq_true.1 hB d (List.mem_range.2 hd)
  cases hr : T[d]? with
  | none => rw [hr] at h1; simp at h1
  | some r =>
   rw [hr] at h1
   simp only [beq_iff_eq] at h1
   have h2 : (upM B d r.1).testBit i = true := by rw [← h1, Nat.testBit_or, hb, Bool.true_or]
   obtain ⟨n, hn, h3⟩ := upM_bit h2
   unfold reachT
   rw [hr]
   simp only
   rw [List.any_eq_true]
   refine ⟨n, hn, ?_⟩
   rcases h3 with rfl | ⟨h4, h5⟩
   ·simp
   ·rw [reach_bit hB fuel n (by omega) (by omega) h5, Bool.or_true]
def lastW (T : List (List Nat × List Nat)) (B : List Nat) (l : List Bool) (ds : List Nat) (i : Nat) : Bool := ds.all fun d => l.getD d true || (decide (d < T.length) && (B.getD d 0).testBit i)
def takeW (T : Bool × List (List Nat × List Nat)) (B : List Nat) (ds : List Nat) (l l' : List Bool) (i : Nat) : Bool := T.1 && freeT T.2 l i && readyAt T.2 l i && closedT T.2 l && lastW T.2 B l ds i && (l.set i true == l')
theorem take_ofW {B : List Nat} (hT : rtab md ops = T) (hB : waitsOk T.2 B = true) (h : takeW T B ds l.toList l'.toList i = true) : takeB md ops ds l l' i = true := by
 refine take_of hT ?_
 simp only [takeW, takeT, Bool.and_eq_true] at h ⊢
 obtain ⟨⟨⟨⟨⟨h1, h2⟩, h3⟩, h4⟩, h5⟩, h6⟩ := h
 refine ⟨⟨⟨⟨⟨h1, h2⟩, h3⟩, h4⟩, ?_⟩, h6⟩
 unfold lastW at h5
 unfold lastT
 rw [List.all_eq_true] at h5 ⊢
 intro d hd
 have h7 := h5 d hd
 rw [Bool.or_eq_true, Bool.and_eq_true, decide_eq_true_eq] at h7
 rcases h7 with h7 | ⟨h8, h9⟩
 ·rw [h7, Bool.true_or]
 ·rw [reach_bit hB _ d h8 h8 h9, Bool.or_true]
end
end Go.Proofs.YtocbiggglnpeoaaW.PrintLast
end
section
namespace Go.Proofs.YtocbiggglnpeoaaW.PrintWords
open Go.RowKit
section
variable {w w' u : World} {m B g : Nat} {o : Obj} {row : Option Nat} {S : Nat → Prop} {a : Addr} {v : Value}
theorem kept_at (hq : w.drewN m = w') (h : Kept u w S) : Kept u w' S := by subst hq; exact Kept.drewN h m
end
namespace Kd
section
variable {α : Type} {d : Kd α} {e base n m : Nat} {ok : Nat → Prop} {w w' : World} {v : Value} {A : Option Addr} {xs : List α}
end
end Kd
end Go.Proofs.YtocbiggglnpeoaaW.PrintWords
end
section
namespace Go.Proofs.YtocbiggglnpeoaaW.PrintWords
open Go.RowKit
section
variable {P : Program} {d : Nat} {xs ys : Array Value} {f : Field} {fs : List Field} {a b : Value} {r s : Bool} {w : World}
theorem eqf_last (hn : (f.name == "_") = false) (ha : (part f.type xs f.offset).run P w = .ok a w) (hb : (part f.type ys f.offset).run P w = .ok b w) (he : (Op.equalIn d f.type a b).run P w = .ok r w) : (Op.eqFields d xs ys [f]).run P w = .ok r w := by
 have hn' : f.name ≠ "_" := by simpa using hn
 simp only [Op.eqFields, if_pos hn', Sem.run_bind, ha, hb, he, Result.andThen_ok]
 cases r <;> simp
theorem eqf_cons (hn : (f.name == "_") = false) (ha : (part f.type xs f.offset).run P w = .ok a w) (hb : (part f.type ys f.offset).run P w = .ok b w) (he : (Op.equalIn d f.type a b).run P w = .ok r w) (hr : (Op.eqFields d xs ys fs).run P w = .ok s w) : (Op.eqFields d xs ys (f :: fs)).run P w = .ok (r && s) w := by
 have hn' : f.name ≠ "_" := by simpa using hn
 rw [Op.eqFields]
 simp only [if_pos hn', Sem.run_bind, ha, hb, he, Result.andThen_ok]
 cases r
 ·simp
 ·simpa using hr
theorem eqA_of {t : TypeId} {fs : Array Field} (hu : P.underlying t = some (.struct fs)) (hp : P.stoodInHeld t = false) (h : (Op.eqFields d xs ys fs.toList).run P w = .ok r w) : (Op.equalIn (d + 1) t (.agg xs) (.agg ys)).run P w = .ok r w := by
 have hf : P.fieldsOf t = fs := by simp [Program.fieldsOf, hu]
 rw [run_equalIn_struct (P := P) w d t xs ys (by rw [hf]; exact hu) hp, hf]
 exact h
end
end Go.Proofs.YtocbiggglnpeoaaW.PrintWords
end
section
namespace Go.Proofs.YtocbiggglnpeoaaW.PrintWords
theorem Reps.one {α : Type} {R : α → List Value → Prop} {ps : List α} {cs : List Value} {p : α} {v : Value} (hp : R p [v]) (h : Reps R 1 ps cs) : Reps R 1 (p :: ps) (v :: cs) := by
 refine ⟨by simp [h.1], fun j q hq => ?_⟩
 cases j with
 | zero =>
  simp only [List.getElem?_cons_zero, Option.some.injEq] at hq
  subst hq
  simpa using hp
 | succ j =>
  simp only [List.getElem?_cons_succ] at hq
  have h1 := h.2 j q hq
  simpa [Nat.mul_one] using h1
theorem Reps.front {α : Type} {R : α → List Value → Prop} {size : Nat} {ps : List α} {cs c all : List Value} {p : α} (hp : R p c) (hc : c.length = size) (h : Reps R size ps cs) (ha : c ++ cs = all) : Reps R size (p :: ps) all := by
 subst ha
 refine ⟨by rw [List.length_append, hc, h.1, List.length_cons, Nat.succ_mul, Nat.add_comm], fun j q hq => ?_⟩
 cases j with
 | zero =>
  simp only [List.getElem?_cons_zero, Option.some.injEq] at hq
  subst hq
  rw [Nat.zero_mul, List.drop_zero, List.take_append_of_le_length (by omega), List.take_of_length_le (by omega)]
  exact hp
 | succ j =>
  simp only [List.getElem?_cons_succ] at hq
  have h1 := h.2 j q hq
  rw [Nat.succ_mul, List.drop_append, List.drop_of_length_le (by rw [hc]; exact Nat.le_add_left _ _), List.nil_append, hc, Nat.add_sub_cancel]
  exact h1
theorem Reps.c2 {α : Type} {R : α → List Value → Prop} {ps : List α} {cs : List Value} {p : α} {va vb : Value} (hp : R p [va, vb]) (h : Reps R 2 ps cs) : Reps R 2 (p :: ps) (va :: vb :: cs) := Reps.front hp rfl h rfl
theorem Reps.c3 {α : Type} {R : α → List Value → Prop} {ps : List α} {cs : List Value} {p : α} {va vb vc : Value} (hp : R p [va, vb, vc]) (h : Reps R 3 ps cs) : Reps R 3 (p :: ps) (va :: vb :: vc :: cs) := Reps.front hp rfl h rfl
theorem Reps.c4 {α : Type} {R : α → List Value → Prop} {ps : List α} {cs : List Value} {p : α} {va vb vc vd : Value} (hp : R p [va, vb, vc, vd]) (h : Reps R 4 ps cs) : Reps R 4 (p :: ps) (va :: vb :: vc :: vd :: cs) := Reps.front hp rfl h rfl
theorem Reps.c5 {α : Type} {R : α → List Value → Prop} {ps : List α} {cs : List Value} {p : α} {va vb vc vd ve : Value} (hp : R p [va, vb, vc, vd, ve]) (h : Reps R 5 ps cs) : Reps R 5 (p :: ps) (va :: vb :: vc :: vd :: ve :: cs) := Reps.front hp rfl h rfl
theorem Reps.c6 {α : Type} {R : α → List Value → Prop} {ps : List α} {cs : List Value} {p : α} {va vb vc vd ve vf : Value} (hp : R p [va, vb, vc, vd, ve, vf]) (h : Reps R 6 ps cs) : Reps R 6 (p :: ps) (va :: vb :: vc :: vd :: ve :: vf :: cs) := Reps.front hp rfl h rfl
theorem Reps.c7 {α : Type} {R : α → List Value → Prop} {ps : List α} {cs : List Value} {p : α} {va vb vc vd ve vf vg : Value} (hp : R p [va, vb, vc, vd, ve, vf, vg]) (h : Reps R 7 ps cs) : Reps R 7 (p :: ps) (va :: vb :: vc :: vd :: ve :: vf :: vg :: cs) := Reps.front hp rfl h rfl
theorem Reps.c8 {α : Type} {R : α → List Value → Prop} {ps : List α} {cs : List Value} {p : α} {va vb vc vd ve vf vg vh : Value} (hp : R p [va, vb, vc, vd, ve, vf, vg, vh]) (h : Reps R 8 ps cs) : Reps R 8 (p :: ps) (va :: vb :: vc :: vd :: ve :: vf :: vg :: vh :: cs) := Reps.front hp rfl h rfl
theorem Reps.c9 {α : Type} {R : α → List Value → Prop} {ps : List α} {cs : List Value} {p : α} {va vb vc vd ve vf vg vh vi : Value} (hp : R p [va, vb, vc, vd, ve, vf, vg, vh, vi]) (h : Reps R 9 ps cs) : Reps R 9 (p :: ps) (va :: vb :: vc :: vd :: ve :: vf :: vg :: vh :: vi :: cs) := Reps.front hp rfl h rfl
theorem Reps.c10 {α : Type} {R : α → List Value → Prop} {ps : List α} {cs : List Value} {p : α} {va vb vc vd ve vf vg vh vi vj : Value} (hp : R p [va, vb, vc, vd, ve, vf, vg, vh, vi, vj]) (h : Reps R 10 ps cs) : Reps R 10 (p :: ps) (va :: vb :: vc :: vd :: ve :: vf :: vg :: vh :: vi :: vj :: cs) := Reps.front hp rfl h rfl
end Go.Proofs.YtocbiggglnpeoaaW.PrintWords
end
section
namespace Go.Proofs.YtocbiggglnpeoaaW.PrintLast
def up (b : Nat → Bool) (i : Nat) : Nat → Bool := fun j => if j = i then true else b j
section
variable {P : Program} {ops : Array Oper} {Q : Exit → Act → World → Prop} {md : Region.Mode} {T : Bool × List (List Nat × List Nat)} {B : List Nat} {O : List Nat} {b : Nat → Bool} {i j n : Nat}
end
end Go.Proofs.YtocbiggglnpeoaaW.PrintLast
end
section
namespace Go.Proofs.YtocbiggglnpeoaaW.PrintWords
open Go.RowKit
section
variable {P : Program} {ops : Array Oper} {rest : List Oper} {o : Oper} {a : Act} {Q : Exit → Act → World → Prop} {W : World}
theorem gate_guard (hw : Region.wanted o (yielded ops a.tmps) = true) (h : wpList P ops Q ({ o with guard := none } :: rest) a W) : wpList P ops Q (o :: rest) a W := by
 have h1 : Region.wanted { o with guard := none } (yielded ops a.tmps) = true := rfl
 unfold wpList at h ⊢
 rw [if_pos h1] at h
 rw [if_pos hw]
 exact h
end
end Go.Proofs.YtocbiggglnpeoaaW.PrintWords
end
namespace Go.Proofs.Ytocbiggglnpeoaa
section
open Go.RowKit Go.Proofs.YtocbiggglnpeoaaW.PrintWords Go.Proofs.YtocbiggglnpeoaaW.PrintLast Go.Proofs.YtocbiggglnpeoaaW.PrintMore
def w_ (n b : Nat) : Array Bool := ((List.range n).map b.testBit).toArray
theorem bb_ {n : Nat} {w W0 W : World} (H : Aside0 (Below n w W0)) (h : Below n w W0 → Below n w W := by intro hB_; repeat (first | (with_reducible first | exact hB_ | apply below_alloc | apply pw_below_drewN | apply below_drew1) | exact hB_)) : Below n w W := h H.out
theorem bs_ {n g : Nat} {w W0 W : World} (H : Aside0 (Below n w W0)) (G : n ≤ g) (h : Below n w W0 → n ≤ g → Below n w W := by intro hB_ hG_; repeat (first | (with_reducible first | exact hB_ | apply below_alloc | apply pw_below_drewN | apply below_drew1 | refine below_set ?_ hG_) | exact hB_)) : Below n w W := h H.out G
theorem rr_ {α : Type} {d : Kd α} {e : Nat} {w0 w : World} {base : Nat} {ok : Nat → Prop} {v : Value} {xs : List α} (H : Aside0 (d.R e w0 base ok v xs)) (h : d.R e w0 base ok v xs → d.R e w base ok v xs := by intro hR_; (with_reducible repeat (first | apply Kd.R_alloc | apply Kd.R_drewN | apply Kd.R_drew)); exact hR_) : d.R e w base ok v xs := h H.out
theorem kk_ {w0 w : World} {g : Nat} {o : Obj} (H : Aside0 (w0.heap[g]? = some o)) (h : w0.heap[g]? = some o → w.heap[g]? = some o := by intro hK_; (with_reducible repeat (first | refine blk_drewN ?_ _ | refine blk_drew ?_ | refine blk_alloc ?_ _)); exact hK_) : w.heap[g]? = some o := h H.out
theorem cc_ {α : Type} {d : Kd α} {w0 w : World} {xs : List α} {A : Option Addr} {n : Nat} (H : d.C w0 A n xs) (h : d.C w0 A n xs → d.C w A n xs := by intro hC_; repeat (first | exact hC_ | (with_reducible refine Kd.C_alloc ?_ _) | (with_reducible refine Kd.C_drewN ?_ _) | (with_reducible refine Kd.C_drew ?_))) : d.C w A n xs := h H
theorem od_ {p : Prop} [Decidable p] (h : decide p = true := by first | (with_reducible assumption) | assumption) : p := of_decide_eq_true h
theorem ew_ {p : Prop} (h : p := by first | rfl | (simp [errW_none, errW_some] <;> rfl) | (simp [*, errW_none, errW_some] <;> rfl)) : p := h
theorem sd_ {p : Prop} (h : p := by first | rfl | (simp; done) | (simp [*]; done)) : p := h
theorem hc_ {n : Nat} {w W : World} {p : Addr} {v : Value} (H : Aside0 (Below n w W)) (h : w.cell? p = some v) (hn : n = w.heap.size := by exact rfl) : W.cell? p = some v := by subst hn; exact (H.out.cell (World.block_lt_of_cell? w _ h)).trans h
theorem gl_ {P : Program} {ops : Array Oper} {Q : Exit → Act → World → Prop} {rest : List Oper} {oi : Oper} {a : Act} {w : World} {f : FuncId} {fn : Func} {as_ : Array Operand} {ts : Array TypeId} (N : Option Tmp) (hf : P.funcs[f]? = some fn) (args : Array Value) (h : Calls P f args w fun e w' => ∃ v, e = .returned v ∧ wpList P ops Q rest (a.put N v) w') (hd : oi.dst = N := by exact rfl) (hg : oi.guard = none := by exact rfl) (hname : (fn.name == "runtime.NumGoroutine") = false := by kernel_rfl) (hb : fn.body.isSome = true := by exact rfl) (hop : oi.op = .call { callee := .value (.func f), args := as_, argTypes := ts } := by exact rfl) (hargs : as_.map a.eval = args := by (try simp only [List.map_toArray, List.map_cons, List.map_nil]); first | done | rfl | (simp only [List.length_drop, List.length_take]; rfl)) : wpList P ops Q (oi :: rest) a w := goesL_ N hd hg hf hname hb args hop hargs h
theorem pu_ {P : Program} {ops : Array Oper} {Q : Exit → Act → World → Prop} {md : Region.Mode} {S : World → Prop} {ds : List Nat} {oi : Oper} {v : Value} {fuel : Nat} {l : Array Bool} {a a' : Act} {w : World} {T : Bool × List (List Nat × List Nat)} (i N : Nat) (l' : Array Bool) (hi : ops[i]? = some oi) (HT : Aside0 (rtab md ops = T)) (h : wpAnyLast P md ops Q S ds fuel l' a' w) (hN : oi.dst = some N := by exact rfl) (hc : anyT T l.toList l'.toList i = true := by kernel_rfl) (hQ : ∀ c a w, Q (.panic c) (a.put oi.dst v) w → Q (.panic c) a w := by exact fun _ _ _ h => h) (hg : Region.wanted oi (yielded ops a.tmps) = true := by rfl) (hy : ∀ w', (execOp a.eval oi).run P w' = .ok (.value v) w' := by intro w'; go_simp; with_reducible rfl) (ha : a.put (some N) v = a' := by simp only [Act.put, sI_, s0_, sS_, i64_w, i32_w]; rfl) : wpAnyLast P md ops Q S ds (fuel + 1) l a w := pure_ l' hi hN (any_of HT.out hc) hQ (.inl ⟨hg, hy⟩) ha h
theorem pv_ {P : Program} {ops : Array Oper} {Q : Exit → Act → World → Prop} {md : Region.Mode} {S : World → Prop} {ds : List Nat} {oi : Oper} {v : Value} {fuel : Nat} {l : Array Bool} {a a' : Act} {w : World} (i N : Nat) (l' : Array Bool) (hi : ops[i]? = some oi) (h : wpAnyLast P md ops Q S ds fuel l' a' w) (hN : oi.dst = some N := by exact rfl) (hc : anyB md ops l l' i = true := by kernel_rfl) (hQ : ∀ c a w, Q (.panic c) (a.put oi.dst v) w → Q (.panic c) a w := by exact fun _ _ _ h => h) (hg : Region.wanted oi (yielded ops a.tmps) = true := by rfl) (hy : ∀ w', (execOp a.eval oi).run P w' = .ok (.value v) w' := by intro w'; go_simp; with_reducible rfl) (ha : a.put (some N) v = a' := by simp only [Act.put, sI_, s0_, sS_, i64_w, i32_w]; rfl) : wpAnyLast P md ops Q S ds (fuel + 1) l a w := pure_ l' hi hN hc hQ (.inl ⟨hg, hy⟩) ha h
theorem pn_ {P : Program} {ops : Array Oper} {Q : Exit → Act → World → Prop} {md : Region.Mode} {S : World → Prop} {ds : List Nat} {oi : Oper} {fuel : Nat} {l : Array Bool} {a a' : Act} {w : World} {T : Bool × List (List Nat × List Nat)} (i N : Nat) (l' : Array Bool) (hi : ops[i]? = some oi) (HT : Aside0 (rtab md ops = T)) (h : wpAnyLast P md ops Q S ds fuel l' a' w) (hN : oi.dst = some N := by exact rfl) (hc : anyT T l.toList l'.toList i = true := by kernel_rfl) (hQ : ∀ c a w, Q (.panic c) (a.put oi.dst undef) w → Q (.panic c) a w := by exact fun _ _ _ h => h) (hg : Region.wanted oi (yielded ops a.tmps) = false := by rfl) (ha : a.put (some N) undef = a' := by simp only [Act.put, sI_, s0_, sS_, i64_w, i32_w]; rfl) : wpAnyLast P md ops Q S ds (fuel + 1) l a w := pure_ l' hi hN (any_of HT.out hc) hQ (.inr ⟨hg, rfl⟩) ha h
theorem po_ {P : Program} {ops : Array Oper} {Q : Exit → Act → World → Prop} {md : Region.Mode} {S : World → Prop} {ds : List Nat} {oi : Oper} {fuel : Nat} {l : Array Bool} {a a' : Act} {w : World} (i N : Nat) (l' : Array Bool) (hi : ops[i]? = some oi) (h : wpAnyLast P md ops Q S ds fuel l' a' w) (hN : oi.dst = some N := by exact rfl) (hc : anyB md ops l l' i = true := by kernel_rfl) (hQ : ∀ c a w, Q (.panic c) (a.put oi.dst undef) w → Q (.panic c) a w := by exact fun _ _ _ h => h) (hg : Region.wanted oi (yielded ops a.tmps) = false := by rfl) (ha : a.put (some N) undef = a' := by simp only [Act.put, sI_, s0_, sS_, i64_w, i32_w]; rfl) : wpAnyLast P md ops Q S ds (fuel + 1) l a w := pure_ l' hi hN hc hQ (.inr ⟨hg, rfl⟩) ha h
theorem ta_ {P : Program} {ops : Array Oper} {Q : Exit → Act → World → Prop} {md : Region.Mode} {S : World → Prop} {ds : List Nat} {oi : Oper} {v : Value} {fuel : Nat} {l : Array Bool} {a a' : Act} {w : World} {T : Bool × List (List Nat × List Nat)} {B : List Nat} (i N : Nat) (l' : Array Bool) (hi : ops[i]? = some oi) (HT : Aside0 (rtab md ops = T)) (HW : Aside0 (waitsOk T.2 B = true)) (hS : S w) (hy : ∀ w', S w' → (execOp a.eval oi).run P w' = .ok (.value v) w') (h : wpAnyLast P md ops Q S ds fuel l' a' w) (hN : oi.dst = some N := by exact rfl) (hc : takeW T B ds l.toList l'.toList i = true := by kernel_rfl) (hQ : ∀ c a w, Q (.panic c) (a.put oi.dst v) w → Q (.panic c) a w := by exact fun _ _ _ h => h) (hg : Region.wanted oi (yielded ops a.tmps) = true := by rfl) (ha : a.put (some N) v = a' := by simp only [Act.put, sI_, s0_, sS_, i64_w, i32_w]; rfl) : wpAnyLast P md ops Q S ds (fuel + 1) l a w := take_ l' hi hN (take_ofW HT.out HW.out hc) hQ (.inl ⟨hg, hy⟩) hS ha h
theorem tb_ {P : Program} {ops : Array Oper} {Q : Exit → Act → World → Prop} {md : Region.Mode} {S : World → Prop} {ds : List Nat} {oi : Oper} {v : Value} {fuel : Nat} {l : Array Bool} {a a' : Act} {w : World} (i N : Nat) (l' : Array Bool) (hi : ops[i]? = some oi) (hS : S w) (hy : ∀ w', S w' → (execOp a.eval oi).run P w' = .ok (.value v) w') (h : wpAnyLast P md ops Q S ds fuel l' a' w) (hN : oi.dst = some N := by exact rfl) (hc : takeB md ops ds l l' i = true := by kernel_rfl) (hQ : ∀ c a w, Q (.panic c) (a.put oi.dst v) w → Q (.panic c) a w := by exact fun _ _ _ h => h) (hg : Region.wanted oi (yielded ops a.tmps) = true := by rfl) (ha : a.put (some N) v = a' := by simp only [Act.put, sI_, s0_, sS_, i64_w, i32_w]; rfl) : wpAnyLast P md ops Q S ds (fuel + 1) l a w := take_ l' hi hN hc hQ (.inl ⟨hg, hy⟩) hS ha h
end
end Go.Proofs.Ytocbiggglnpeoaa
section
namespace Go.Proofs.Ytocbiggglnpeoaa.P
open Go.RowKit Go.Proofs.YtocbiggglnpeoaaW.PrintWords Go.Proofs.YtocbiggglnpeoaaW.PrintLast Go.Proofs.YtocbiggglnpeoaaW.PrintMore
attribute [local go_sem] max2_int min2_int max_two min_two max_three min_three max_four min_four
set_option linter.unusedVariables false
set_option linter.unusedSimpArgs false
set_option maxHeartbeats 8000000
set_option maxRecDepth 100000
section
def errW : Option Int → Value
 | none => .nilIface
 | some c => .iface 0 (.int .i64 c)
theorem errW_none : errW none = .nilIface := rfl
theorem errW_some (c : Int) : errW (some c) = .iface 0 (.int .i64 c) := rfl
theorem info3 : (Try.prog.info? 3).map (fun i => (i.zero, i.size, i.bytes)) = some (some (.int .i64 0), 1, 8) := by kernel_rfl
theorem info46 : (Try.prog.info? 46).map (fun i => (i.zero, i.size, i.bytes)) = some (some (.agg #[(.int .i64 0), (.int .i64 0), (.slice none 0 0)]), 3, 40) := by kernel_rfl
theorem info51 : (Try.prog.info? 51).map (fun i => (i.zero, i.size, i.bytes)) = some (some (.agg #[(.int .i64 0), (.int .i64 0), (.int .i64 0)]), 3, 24) := by kernel_rfl
theorem info84 : (Try.prog.info? 84).map (fun i => (i.zero, i.size, i.bytes)) = some (some (.agg #[(.int .i64 0), (.int .i64 0)]), 2, 16) := by kernel_rfl
structure S84 where
 f0 : Int
 f1 : Int
def z84 : S84 := ⟨(0 : Int), (0 : Int)⟩
def k84 : Kd S84 := Kd.iso (Kd.pair (Kd.int .i64) (Kd.int .i64)) (fun x : S84 => (x.f0, x.f1))
theorem k84_open {w : World} {x : S84} {cs : List Value} (h : k84.K w x cs) : cs = [.int .i64 x.f0, .int .i64 x.f1] := by
 obtain ⟨_, _, rfl, rfl, rfl⟩ := h
 exact rfl
theorem k84_mkM (w : World) (base : Nat) (ok : Nat → Prop) (x : S84)  : k84.M w base ok x [.int .i64 x.f0, .int .i64 x.f1] := ⟨[.int .i64 x.f0], [.int .i64 x.f1], rfl, rfl, rfl⟩
def rd_T84 (xs : List S84) (i : Int) : S84 := xs.getD i.toNat z84
theorem at_T84 {w : World} {A : Option Addr} {n : Nat} {xs : List S84} (h : Kd.C k84 w A n xs) (i : Int) (h0 : 0 ≤ i) (h1 : i < n) : ∃ ad , A = some ad ∧ w.cell? (ad.add (i.toNat * 2)) = some (.int .i64 (rd_T84 xs i).f0) ∧ w.cell? ⟨(ad.add (i.toNat * 2)).block, (ad.add (i.toNat * 2)).off + 1, none⟩ = some (.int .i64 (rd_T84 xs i).f1) := by
 obtain ⟨ad, c, e, _, hK, hc0⟩ := Kd.C_get h z84 i h0 h1
 have hc : ∀ j u, c[j]? = some u → w.cell? (ad.add (i.toNat * 2 + j)) = some u := hc0
 obtain rfl := k84_open hK
 exact ⟨ad, e, hc 0 _ rfl, by rw [← add_field _ _ 1 (by omega)]; exact hc 1 _ rfl⟩
structure S46 where
 f0 : Int
 f1 : Int
 f2 : (List Int)
def z46 : S46 := ⟨(0 : Int), (0 : Int), ([] : List Int)⟩
def k46 : Kd S46 := Kd.iso (Kd.pair (Kd.int .i64) (Kd.pair (Kd.int .i64) (Kd.slice 3 (Kd.int .i64)))) (fun x : S46 => (x.f0, x.f1, x.f2))
theorem k46_open {w : World} {x : S46} {cs : List Value} (h : k46.K w x cs) : ∃ A2 c2, cs = [.int .i64 x.f0, .int .i64 x.f1, .slice A2 x.f2.length c2] ∧ x.f2.length ≤ c2 ∧ (Kd.int .i64).C w A2 x.f2.length x.f2 := by
 obtain ⟨_, _, rfl, rfl, ⟨_, _, rfl, rfl, ⟨A2, c2, rfl, l2, g2⟩⟩⟩ := h
 exact ⟨A2, c2, rfl, l2, g2⟩
theorem k46_openM {w : World} {base : Nat} {ok : Nat → Prop} {x : S46} {cs : List Value} (h : k46.M w base ok x cs) : ∃ v2, cs = [.int .i64 x.f0, .int .i64 x.f1, v2] ∧ (Kd.int .i64).R 3 w base ok v2 x.f2 := by
 obtain ⟨_, _, rfl, rfl, ⟨_, _, rfl, rfl, ⟨v2, rfl, g2⟩⟩⟩ := h
 exact ⟨v2, rfl, g2⟩
theorem k46_mk (w : World) (x : S46) {A2 : Option Addr} {c2 : Nat} (l2 : x.f2.length ≤ c2) (g2 : (Kd.int .i64).C w A2 x.f2.length x.f2) : k46.K w x [.int .i64 x.f0, .int .i64 x.f1, .slice A2 x.f2.length c2] := ⟨[.int .i64 x.f0], [.int .i64 x.f1, .slice A2 x.f2.length c2], rfl, rfl, ⟨[.int .i64 x.f1], [.slice A2 x.f2.length c2], rfl, rfl, ⟨A2, c2, rfl, l2, g2⟩⟩⟩
theorem k46_mkM (w : World) (base : Nat) (ok : Nat → Prop) (x : S46) {v2 : Value} (g2 : (Kd.int .i64).R 3 w base ok v2 x.f2) : k46.M w base ok x [.int .i64 x.f0, .int .i64 x.f1, v2] := ⟨[.int .i64 x.f0], [.int .i64 x.f1, v2], rfl, rfl, ⟨[.int .i64 x.f1], [v2], rfl, rfl, ⟨v2, rfl, g2⟩⟩⟩
theorem k46_openF {W : World} {ok : Nat → Prop} {x : S46} {cs : List Value} (h : Kd.FK k46 W ok x cs) : ∃ A2 c2, cs = [.int .i64 x.f0, .int .i64 x.f1, .slice A2 x.f2.length c2] ∧ x.f2.length ≤ c2 ∧ Kd.F (Kd.int .i64) W ok A2 x.f2.length x.f2 := by
 obtain ⟨A2, c2, rfl, l2, _⟩ := k46_open (Kd.FK_now h)
 exact ⟨A2, c2, rfl, l2, (fun W' hW => by obtain ⟨A2_, c2_, he, l2_, g2_⟩ := k46_open (h W' hW); injection (Option.some.inj (show some (Value.slice A2 x.f2.length c2) = some (Value.slice A2_ x.f2.length c2_) from congrArg (fun l => l[2]?) he)) with ha_ _ _; rw [ha_]; exact g2_)⟩
theorem k46_mkF (W : World) (ok : Nat → Prop) (x : S46) {A2 : Option Addr} {c2 : Nat} (l2 : x.f2.length ≤ c2) (g2 : Kd.F (Kd.int .i64) W ok A2 x.f2.length x.f2) : Kd.FK k46 W ok x [.int .i64 x.f0, .int .i64 x.f1, .slice A2 x.f2.length c2] := fun W2 hW => k46_mk W2 x l2 (g2 W2 hW)
def rd_T46 (xs : List S46) (i : Int) : S46 := xs.getD i.toNat z46
theorem at_T46 {w : World} {A : Option Addr} {n : Nat} {xs : List S46} (h : Kd.C k46 w A n xs) (i : Int) (h0 : 0 ≤ i) (h1 : i < n) : ∃ ad A2 c2, A = some ad ∧ w.cell? (ad.add (i.toNat * 3)) = some (.int .i64 (rd_T46 xs i).f0) ∧ w.cell? ⟨(ad.add (i.toNat * 3)).block, (ad.add (i.toNat * 3)).off + 1, none⟩ = some (.int .i64 (rd_T46 xs i).f1) ∧ w.cell? ⟨(ad.add (i.toNat * 3)).block, (ad.add (i.toNat * 3)).off + 2, none⟩ = some (.slice A2 (rd_T46 xs i).f2.length c2) ∧ (rd_T46 xs i).f2.length ≤ c2 ∧ (Kd.int .i64).C w A2 (rd_T46 xs i).f2.length (rd_T46 xs i).f2 := by
 obtain ⟨ad, c, e, _, hK, hc0⟩ := Kd.C_get h z46 i h0 h1
 have hc : ∀ j u, c[j]? = some u → w.cell? (ad.add (i.toNat * 3 + j)) = some u := hc0
 obtain ⟨A2, c2, rfl, l2, g2⟩ := k46_open hK
 exact ⟨ad, A2, c2, e, hc 0 _ rfl, by rw [← add_field _ _ 1 (by omega)]; exact hc 1 _ rfl, by rw [← add_field _ _ 2 (by omega)]; exact hc 2 _ rfl, l2, g2⟩
structure S55 where
 f0 : Int
 f1 : Int
 f2 : Int
def z55 : S55 := ⟨(0 : Int), (0 : Int), (0 : Int)⟩
def k55 : Kd S55 := Kd.iso (Kd.pair (Kd.int .i64) (Kd.pair (Kd.int .i64) (Kd.int .i64))) (fun x : S55 => (x.f0, x.f1, x.f2))
theorem k55_open {w : World} {x : S55} {cs : List Value} (h : k55.K w x cs) : cs = [.int .i64 x.f0, .int .i64 x.f1, .int .i64 x.f2] := by
 obtain ⟨_, _, rfl, rfl, ⟨_, _, rfl, rfl, rfl⟩⟩ := h
 exact rfl
theorem k55_mkM (w : World) (base : Nat) (ok : Nat → Prop) (x : S55)  : k55.M w base ok x [.int .i64 x.f0, .int .i64 x.f1, .int .i64 x.f2] := ⟨[.int .i64 x.f0], [.int .i64 x.f1, .int .i64 x.f2], rfl, rfl, ⟨[.int .i64 x.f1], [.int .i64 x.f2], rfl, rfl, rfl⟩⟩
def rd_T55 (xs : List S55) (i : Int) : S55 := xs.getD i.toNat z55
theorem at_T55 {w : World} {A : Option Addr} {n : Nat} {xs : List S55} (h : Kd.C k55 w A n xs) (i : Int) (h0 : 0 ≤ i) (h1 : i < n) : ∃ ad , A = some ad ∧ w.cell? (ad.add (i.toNat * 3)) = some (.int .i64 (rd_T55 xs i).f0) ∧ w.cell? ⟨(ad.add (i.toNat * 3)).block, (ad.add (i.toNat * 3)).off + 1, none⟩ = some (.int .i64 (rd_T55 xs i).f1) ∧ w.cell? ⟨(ad.add (i.toNat * 3)).block, (ad.add (i.toNat * 3)).off + 2, none⟩ = some (.int .i64 (rd_T55 xs i).f2) := by
 obtain ⟨ad, c, e, _, hK, hc0⟩ := Kd.C_get h z55 i h0 h1
 have hc : ∀ j u, c[j]? = some u → w.cell? (ad.add (i.toNat * 3 + j)) = some u := hc0
 obtain rfl := k55_open hK
 exact ⟨ad, e, hc 0 _ rfl, by rw [← add_field _ _ 1 (by omega)]; exact hc 1 _ rfl, by rw [← add_field _ _ 2 (by omega)]; exact hc 2 _ rfl⟩
structure S51 where
 f0 : Int
 f1 : Int
 f2 : Int
def z51 : S51 := ⟨(0 : Int), (0 : Int), (0 : Int)⟩
def k51 : Kd S51 := Kd.iso (Kd.pair (Kd.int .i64) (Kd.pair (Kd.int .i64) (Kd.int .i64))) (fun x : S51 => (x.f0, x.f1, x.f2))
theorem k51_open {w : World} {x : S51} {cs : List Value} (h : k51.K w x cs) : cs = [.int .i64 x.f0, .int .i64 x.f1, .int .i64 x.f2] := by
 obtain ⟨_, _, rfl, rfl, ⟨_, _, rfl, rfl, rfl⟩⟩ := h
 exact rfl
theorem k51_mkM (w : World) (base : Nat) (ok : Nat → Prop) (x : S51)  : k51.M w base ok x [.int .i64 x.f0, .int .i64 x.f1, .int .i64 x.f2] := ⟨[.int .i64 x.f0], [.int .i64 x.f1, .int .i64 x.f2], rfl, rfl, ⟨[.int .i64 x.f1], [.int .i64 x.f2], rfl, rfl, rfl⟩⟩
def rd_T51 (xs : List S51) (i : Int) : S51 := xs.getD i.toNat z51
theorem at_T51 {w : World} {A : Option Addr} {n : Nat} {xs : List S51} (h : Kd.C k51 w A n xs) (i : Int) (h0 : 0 ≤ i) (h1 : i < n) : ∃ ad , A = some ad ∧ w.cell? (ad.add (i.toNat * 3)) = some (.int .i64 (rd_T51 xs i).f0) ∧ w.cell? ⟨(ad.add (i.toNat * 3)).block, (ad.add (i.toNat * 3)).off + 1, none⟩ = some (.int .i64 (rd_T51 xs i).f1) ∧ w.cell? ⟨(ad.add (i.toNat * 3)).block, (ad.add (i.toNat * 3)).off + 2, none⟩ = some (.int .i64 (rd_T51 xs i).f2) := by
 obtain ⟨ad, c, e, _, hK, hc0⟩ := Kd.C_get h z51 i h0 h1
 have hc : ∀ j u, c[j]? = some u → w.cell? (ad.add (i.toNat * 3 + j)) = some u := hc0
 obtain rfl := k51_open hK
 exact ⟨ad, e, hc 0 _ rfl, by rw [← add_field _ _ 1 (by omega)]; exact hc 1 _ rfl, by rw [← add_field _ _ 2 (by omega)]; exact hc 2 _ rfl⟩
structure S49 where
 f0 : Bool
 f1 : (List S51)
def z49 : S49 := ⟨false, ([] : List S51)⟩
def k49 : Kd S49 := Kd.iso (Kd.pair Kd.bool (Kd.slice 51 k51)) (fun x : S49 => (x.f0, x.f1))
theorem k49_open {w : World} {x : S49} {cs : List Value} (h : k49.K w x cs) : ∃ A1 c1, cs = [.bool x.f0, .slice A1 x.f1.length c1] ∧ x.f1.length ≤ c1 ∧ k51.C w A1 x.f1.length x.f1 := by
 obtain ⟨_, _, rfl, rfl, ⟨A1, c1, rfl, l1, g1⟩⟩ := h
 exact ⟨A1, c1, rfl, l1, g1⟩
theorem k49_mk (w : World) (x : S49) {A1 : Option Addr} {c1 : Nat} (l1 : x.f1.length ≤ c1) (g1 : k51.C w A1 x.f1.length x.f1) : k49.K w x [.bool x.f0, .slice A1 x.f1.length c1] := ⟨[.bool x.f0], [.slice A1 x.f1.length c1], rfl, rfl, ⟨A1, c1, rfl, l1, g1⟩⟩
theorem k49_openF {W : World} {ok : Nat → Prop} {x : S49} {cs : List Value} (h : Kd.FK k49 W ok x cs) : ∃ A1 c1, cs = [.bool x.f0, .slice A1 x.f1.length c1] ∧ x.f1.length ≤ c1 ∧ Kd.F k51 W ok A1 x.f1.length x.f1 := by
 obtain ⟨A1, c1, rfl, l1, _⟩ := k49_open (Kd.FK_now h)
 exact ⟨A1, c1, rfl, l1, (fun W' hW => by obtain ⟨A1_, c1_, he, l1_, g1_⟩ := k49_open (h W' hW); injection (Option.some.inj (show some (Value.slice A1 x.f1.length c1) = some (Value.slice A1_ x.f1.length c1_) from congrArg (fun l => l[1]?) he)) with ha_ _ _; rw [ha_]; exact g1_)⟩
theorem k49_mkF (W : World) (ok : Nat → Prop) (x : S49) {A1 : Option Addr} {c1 : Nat} (l1 : x.f1.length ≤ c1) (g1 : Kd.F k51 W ok A1 x.f1.length x.f1) : Kd.FK k49 W ok x [.bool x.f0, .slice A1 x.f1.length c1] := fun W2 hW => k49_mk W2 x l1 (g1 W2 hW)
def rd_T49 (xs : List S49) (i : Int) : S49 := xs.getD i.toNat z49
theorem at_T49 {w : World} {A : Option Addr} {n : Nat} {xs : List S49} (h : Kd.C k49 w A n xs) (i : Int) (h0 : 0 ≤ i) (h1 : i < n) : ∃ ad A1 c1, A = some ad ∧ w.cell? (ad.add (i.toNat * 2)) = some (.bool (rd_T49 xs i).f0) ∧ w.cell? ⟨(ad.add (i.toNat * 2)).block, (ad.add (i.toNat * 2)).off + 1, none⟩ = some (.slice A1 (rd_T49 xs i).f1.length c1) ∧ (rd_T49 xs i).f1.length ≤ c1 ∧ k51.C w A1 (rd_T49 xs i).f1.length (rd_T49 xs i).f1 := by
 obtain ⟨ad, c, e, _, hK, hc0⟩ := Kd.C_get h z49 i h0 h1
 have hc : ∀ j u, c[j]? = some u → w.cell? (ad.add (i.toNat * 2 + j)) = some u := hc0
 obtain ⟨A1, c1, rfl, l1, g1⟩ := k49_open hK
 exact ⟨ad, A1, c1, e, hc 0 _ rfl, by rw [← add_field _ _ 1 (by omega)]; exact hc 1 _ rfl, l1, g1⟩
end
section
open Go.Proofs.YtocbiggglnpeoaaH
def lastF (l : List S84) (n : Nat) : Int := if n = 0 then 0 else (rd_T84 l ((n - 1 : Nat) : Int)).f0
theorem lastF_succ (l : List S84) (n : Nat) : lastF l (n + 1) = (rd_T84 l (n : Int)).f0 := by
 unfold lastF
 rw [if_neg (by omega)]
 rfl
def flatAt (l : List S84) (n : Nat) : Bool := decide (lastF l n < (rd_T84 l (n : Int)).f0 ∧ (rd_T84 l (n : Int)).f0 ≤ 64 ∧ 1 ≤ (rd_T84 l (n : Int)).f1 ∧ (rd_T84 l (n : Int)).f1 ≤ 10)
def flatsOk (l : List S84) : Bool := (List.range l.length).all (flatAt l)
theorem flatsOk_false {l : List S84} {n : Nat} (hn : n < l.length) (h : flatAt l n = false) : flatsOk l = false := by
 unfold flatsOk
 rw [List.all_eq_false]
 exact ⟨n, List.mem_range.2 hn, by simp [h]⟩
theorem flatsOk_true {l : List S84} (h : ∀ j, j < l.length → flatAt l j = true) : flatsOk l = true := by
 unfold flatsOk
 rw [List.all_eq_true]
 exact fun j hj => h j (List.mem_range.1 hj)
def roomsM (l : List S84) (n : Nat) : Int → Option Int := foldM (fun j => (rd_T84 l (j : Int)).f0) (fun j => (rd_T84 l (j : Int)).f1) n
def vInt : Int → Value := fun x => .int .i64 x
def vBool : Bool → Value := fun x => .bool x
theorem flats_calls (A0 : Option Addr) (c0 : Nat) (l0 : List (S84)) (w : World) (hr0 : Kd.C k84 w A0 l0.length l0) (hc0 : l0.length ≤ c0) (hn : l0.length ≤ 1000000000) :
  Calls Try.prog 42 #[.slice A0 l0.length c0] w fun e w' => ∃ mv : Option Nat, e = .returned (.tuple #[.map mv, .bool (flatsOk l0)]) ∧ (flatsOk l0 = true → ∃ gm, mv = some gm ∧ w.heap.size ≤ gm ∧ MapI w' gm (mapV vInt (roomsM l0 l0.length))) ∧ Below w.heap.size w w' := by
 have hu84 := Try.underlying84
 have HR0 := Aside0.mk hr0
 have HN := Aside0.mk hn
 have hmm := @run_makeMap Try.prog
 clear hr0 hn
 go_enter Try.func42, Try.ntmps42
 go_wp2
 obtain ⟨gm, hgm⟩ : ∃ gm, gm = w.heap.size := ⟨_, rfl⟩
 obtain ⟨w4, hw4⟩ : ∃ w4, w4 = w.alloc (Obj.map #[] 0) := ⟨_, rfl⟩
 rw [← hw4, ← hgm]
 have HM := Aside0.mk (show MapI w4 gm (mapV vInt (roomsM l0 0)) by rw [hw4, hgm]; exact (MapI.made w).none_ vInt)
 have HB := Aside0.mk (show Below w.heap.size w w4 by rw [hw4]; exact below_alloc (Below.refl _ _) _)
 have GM := Aside0.mk (show w.heap.size ≤ gm by omega)
 clear hw4 hgm
 go_loopg [5, 11] l0.length (fun kq v5 v11 wr => ∃ (n : Nat) (q : Int), v5 = .int .i64 q ∧ v11 = .int .i64 n ∧ Aside0 (kq + n = l0.length) ∧ Aside0 (q = lastF l0 n) ∧ Aside0 (∀ j, j < n → flatAt l0 j = true) ∧ Aside0 (MapI wr gm (mapV vInt (roomsM l0 n))) ∧ Aside0 (Below w.heap.size w wr))
 case atStart => exact ⟨0, 0, rfl, rfl, ⟨by omega⟩, ⟨rfl⟩, ⟨fun j hj => absurd hj (by omega)⟩, HM, HB⟩
 case round =>
  clear HM HB
  obtain ⟨n, q, rfl, rfl, HK, HQ, HA, HM, HB⟩ := hrel
  by_cases hlt : n < l0.length
  ·obtain ⟨i, hi⟩ : ∃ i : Int, i = (n : Int) := ⟨_, rfl⟩
   rw [← hi]
   have HI2 := Aside0.mk (show 0 ≤ i ∧ i < l0.length ∧ i = (n : Int) from ⟨by omega, by omega, hi⟩)
   have d7 : decide (i < (l0.length : Int)) = true := decide_eq_true HI2.out.2.1
   have ci2 : (0 ≤ i) = True := eq_true HI2.out.1
   have ci3 : (i < l0.length) = True := eq_true HI2.out.2.1
   obtain ⟨adp, ep, hx0, hx1⟩ := at_T84 (Kd.C_below HR0.out HB.out) i HI2.out.1 HI2.out.2.1
   subst ep
   obtain ⟨p, hp⟩ : ∃ p, p = rd_T84 l0 i := ⟨_, rfl⟩
   rw [← hp] at hx0 hx1
   have HP := Aside0.mk (show rd_T84 l0 (n : Int) = p by rw [hp, hi])
   have hz1 : i + 1 ≤ 9223372036854775807 := by have := HI2.out; have := HN.out; omega
   have hz2 : -9223372036854775808 ≤ i + 1 := by have := HI2.out; omega
   have HFA := Aside0.mk (show flatAt l0 n = decide (q < p.f0 ∧ p.f0 ≤ 64 ∧ 1 ≤ p.f1 ∧ p.f1 ≤ 10) by unfold flatAt; rw [HP.out, ← HQ.out])
   have HLT := Aside0.mk hlt
   clear hi hlt hp
   have HB0 := Aside0.mk (Below.refl wr.heap.size wr)
   go_upto_region 5 with (first | ((with_reducible refine gate_dst (N := 7) rfl ?_); refine box_event ?hg (N := 7) ?hd (cs := #[.int .i64 0, .int .i64 0]) (t := 84) ?hr ?_; (case hd => rfl); (case hg => rfl); (case hr => first | (go_simp; done) | (go_simp; rfl)); intro gf hg_F w9 hbox_ hb_; replace hx0 := (hb_.cell (World.block_lt_of_cell? _ _ hx0)).trans hx0; replace hx1 := (hb_.cell (World.block_lt_of_cell? _ _ hx1)).trans hx1; have n0_ := Aside0.mk (below_step HB0.out hb_); have BF := Aside0.mk hbox_; have GF := Aside0.mk (show wr.heap.size ≤ gf by rw [hg_F]; exact below_size HB0.out); have EF := Aside0.mk hg_F; have hcf0 : w9.cell? ⟨gf, 0, none⟩ = some (.int .i64 0) := (blk_cell hbox_ 0).trans rfl; have hff0 := blk_frozen hbox_ 0; have hcf1 : w9.cell? ⟨gf, 1, none⟩ = some (.int .i64 0) := (blk_cell hbox_ 1).trans rfl; have hff1 := blk_frozen hbox_ 1; clear HB0 hg_F hbox_ hb_; have HB0 := n0_; clear n0_))
   obtain ⟨w10, hw10⟩ : ∃ w10, w10 = (w9.setCell ⟨gf, 0, none⟩ (.int .i64 p.f0)).setCell ⟨gf, 1, none⟩ (.int .i64 p.f1) := ⟨_, rfl⟩
   rw [← hw10]
   have BF10 := Aside0.mk (show w10.heap[gf]? = some (.cells #[.int .i64 p.f0, .int .i64 p.f1] 84 (0, 0)) by rw [hw10]; exact blk_put2 BF.out _ _)
   have HB10 := Aside0.mk (show Below wr.heap.size wr w10 by rw [hw10]; exact below_put2 HB0.out GF.out _ _)
   clear hw10 BF HB0 hcf0 hcf1 hff0 hff1 hx0 hx1
   have hcf0 : w10.cell? ⟨gf, 0, none⟩ = some (.int .i64 p.f0) := (blk_cell BF10.out 0).trans rfl
   have hcf1 : w10.cell? ⟨gf, 1, none⟩ = some (.int .i64 p.f1) := (blk_cell BF10.out 1).trans rfl
   have HM10 := Aside0.mk (HM.out.below HB10.out)
   have HB11 := Aside0.mk (below_step HB.out HB10.out)
   have hbad : (q < p.f0 ∧ p.f0 ≤ 64 ∧ 1 ≤ p.f1 ∧ p.f1 ≤ 10) ∨ ¬(q < p.f0 ∧ p.f0 ≤ 64 ∧ 1 ≤ p.f1 ∧ p.f1 ≤ 10) := Decidable.em _
   rcases hbad with hgood | hbad
   ·have HG := Aside0.mk (show flatAt l0 n = true by rw [HFA.out]; exact decide_eq_true hgood)
    have t1 : decide (p.f0 ≤ q) = false := decide_eq_false (by omega)
    have t2 : decide (64 < p.f0) = false := decide_eq_false (by omega)
    have t3 : decide (p.f1 < 1) = false := decide_eq_false (by omega)
    have t4 : decide (10 < p.f1) = false := decide_eq_false (by omega)
    clear hgood
    go_upto_region 7 with (fail)
    refine start_ (n := 9) (S := fun w' => w'.cell? ⟨gf, 0, none⟩ = some (.int .i64 p.f0) ∧ w'.cell? ⟨gf, 1, none⟩ = some (.int .i64 p.f1)) (ds := []) #[n_, n_, n_, n_, n_, n_, n_, n_, n_] (by kernel_rfl) rfl rfl ⟨hcf0, hcf1⟩ (fun hHeld => ?_)
    refine pv_ 0 34 (w_ 9 1) rfl ?_
    refine pv_ 1 35 (w_ 9 3) rfl ?_
    refine pv_ 3 37 (w_ 9 11) rfl ?_
    refine pv_ 5 39 (w_ 9 43) rfl ?_
    refine tb_ 2 36 (w_ 9 47) rfl hHeld (by rintro w' ⟨s0, s1⟩; go_simp; with_reducible rfl) ?_
    refine tb_ 4 38 (w_ 9 63) rfl hHeld (by rintro w' ⟨s0, s1⟩; go_simp; with_reducible rfl) ?_
    refine tb_ 6 40 (w_ 9 127) rfl hHeld (by rintro w' ⟨s0, s1⟩; go_simp; with_reducible rfl) ?_
    refine one_ (i := 7) (N := none) (w_ 9 255) rfl rfl (by kernel_rfl) (by decide) (fun K hK => ?_)
    obtain ⟨w11, hrun_, hm_, hg_⟩ := run_storeI (P := Try.prog) (t := 65) (kt := 3) (et := 3) HM10.out.drew Try.underlying65 Try.underlying3 p.f0 (.int .i64 p.f1)
    have HM11 := Aside0.mk hm_
    have HG11 := Aside0.mk hg_
    refine skip_ (w1 := w11) (by rfl) rfl ?_ ?_
    ·go_simp
     try (first | (rw [hrun_]; done) | (rw [hrun_]; rfl) | rfl)
    clear hrun_ hm_ hg_
    have BF11 := Aside0.mk (blk_grown (show w10.drew.heap[gf]? = _ from BF10.out) HG11.out (HM10.out.ne_blk BF10.out))
    refine hK.out _ _ ⟨(blk_cell BF11.out 0).trans rfl, (blk_cell BF11.out 1).trans rfl⟩ (fun hHeld => ?_)
    clear hK K
    refine pv_ 8 5 (w_ 9 511) rfl ?_
    refine done_ (by kernel_rfl) ?_
    obtain ⟨w12, hw12⟩ : ∃ w12, w12 = w11 := ⟨_, rfl⟩
    have HM12 := Aside0.mk (show MapI w11 gm (mapV vInt (roomsM l0 (n + 1))) from by
     refine HM11.out.eq fun k => (mapV_set vInt (roomsM l0 n) p.f0 p.f1 k).trans ?_
     unfold roomsM
     rw [foldM_succ]
     simp only [HP.out])
    have HB12 := Aside0.mk (grown_below (show Below w.heap.size w w10.drew from HB11.out.drew) HG11.out (fun k e => by cases e; exact GM.out))
    clear hw12
    go_wp2
    go_roundg (gk - 1)
    case measure => have := HK.out; have := HLT.out; omega
    case rel =>
     refine ⟨n + 1, p.f0, ?_, ?_, ⟨by have := HK.out; have := HLT.out; omega⟩, ⟨by rw [lastF_succ, HP.out]⟩, ⟨fun j hj => ?_⟩, HM12, HB12⟩
     ·first | rfl | (simp; done)
     ·have := HI2.out
      first | (rw [show ((n + 1 : Nat) : Int) = i + 1 from by omega]; done) | (simp; omega)
     ·by_cases e : j = n
      ·rw [e]; exact HG.out
      ·exact HA.out j (by omega)
   ·have HX := Aside0.mk (flatsOk_false HLT.out (show flatAt l0 n = false by rw [HFA.out]; exact decide_eq_false hbad))
    by_cases b1 : p.f0 ≤ q
    ·have t1 : decide (p.f0 ≤ q) = true := decide_eq_true b1
     clear b1 hbad
     go_wp2
     go_ret2
     rw [HX.out]
     exact ⟨_, rfl, fun h => Bool.noConfusion h, HB11.out⟩
    have t1 : decide (p.f0 ≤ q) = false := decide_eq_false b1
    by_cases b2 : 64 < p.f0
    ·have t2 : decide (64 < p.f0) = true := decide_eq_true b2
     clear b1 b2 hbad
     go_wp2
     go_ret2
     rw [HX.out]
     exact ⟨_, rfl, fun h => Bool.noConfusion h, HB11.out⟩
    have t2 : decide (64 < p.f0) = false := decide_eq_false b2
    by_cases b3 : p.f1 < 1
    ·have t3 : decide (p.f1 < 1) = true := decide_eq_true b3
     clear b1 b2 b3 hbad
     go_wp2
     go_ret2
     rw [HX.out]
     exact ⟨_, rfl, fun h => Bool.noConfusion h, HB11.out⟩
    have t3 : decide (p.f1 < 1) = false := decide_eq_false b3
    have b4 : 10 < p.f1 := by omega
    have t4 : decide (10 < p.f1) = true := decide_eq_true b4
    clear b1 b2 b3 b4 hbad
    go_wp2
    go_ret2
    rw [HX.out]
    exact ⟨_, rfl, fun h => Bool.noConfusion h, HB11.out⟩
  ·have d7 : decide ((n : Int) < (l0.length : Int)) = false := decide_eq_false (by omega)
   have d7' : decide (n < l0.length) = false := decide_eq_false hlt
   have hnl : n = l0.length := by have := HK.out; omega
   rw [hnl] at HM HA
   have HX := Aside0.mk (flatsOk_true HA.out)
   clear hlt hnl
   go_wp2
   go_ret2
   rw [HX.out]
   exact ⟨_, rfl, fun _ => ⟨gm, rfl, GM.out, HM.out⟩, HB.out⟩
end
section
open Go.Proofs.YtocbiggglnpeoaaH
def seenM (l : List Int) (n : Nat) : Int → Option Bool := foldM (fun j => rd l (j : Int)) (fun _ => true) n
def wantAt (rooms : Int → Option Int) (l : List Int) (n : Nat) : Bool := decide ((rooms (rd l (n : Int))).getD 0 ≠ 0) && !(seenM l n (rd l (n : Int))).getD false
def wantsOk (rooms : Int → Option Int) (l : List Int) : Bool := (List.range l.length).all (wantAt rooms l)
theorem wantsOk_false {rooms : Int → Option Int} {l : List Int} {n : Nat} (hn : n < l.length) (h : wantAt rooms l n = false) : wantsOk rooms l = false := by
 unfold wantsOk
 rw [List.all_eq_false]
 exact ⟨n, List.mem_range.2 hn, by simp [h]⟩
theorem wantsOk_true {rooms : Int → Option Int} {l : List Int} (h : ∀ j, j < l.length → wantAt rooms l j = true) : wantsOk rooms l = true := by
 unfold wantsOk
 rw [List.all_eq_true]
 exact fun j hj => h j (List.mem_range.1 hj)
def partyOk (rooms : Int → Option Int) (q : Int) (T : Int → Option Bool) (x0 x1 : Int) (l : List Int) : Bool :=
 decide (q < x0 ∧ x0 ≤ 64) && (decide (x1 = 0) || (decide ((rooms x1).getD 0 ≠ 0) && !(T x1).getD false)) && wantsOk rooms l
structure VS (w0 w : World) (gl gr gt gm gj : Nat) (rooms : Int → Option Int) (q : Int) (T : Int → Option Bool) : Prop where
 last : w.heap[gl]? = some (.cells #[.int .i64 q] 3 (0, 0))
 rm : w.heap[gr]? = some (.cells #[.map (some gm)] 65 (0, 0))
 tk : w.heap[gt]? = some (.cells #[.map (some gj)] 66 (0, 0))
 mr : MapI w gm (mapV vInt rooms)
 mt : MapI w gj (mapV vBool T)
 ne : gm ≠ gj
 lo : w0.heap.size ≤ gl ∧ w0.heap.size ≤ gj
 below : Below w0.heap.size w0 w
theorem VS.later {w0 w w' : World} {gl gr gt gm gj : Nat} {rooms : Int → Option Int} {q : Int} {T : Int → Option Bool} (h : VS w0 w gl gr gt gm gj rooms q T) (hb : Below w.heap.size w w') : VS w0 w' gl gr gt gm gj rooms q T :=
 ⟨blk_below h.last hb, blk_below h.rm hb, blk_below h.tk hb, h.mr.below hb, h.mt.below hb, h.ne, h.lo, below_step h.below hb⟩
theorem VS.map {w0 w w' : World} {gl gr gt gm gj gs : Nat} {rooms : Int → Option Int} {q : Int} {T : Int → Option Bool} {m : Int → Option Value} (h : VS w0 w gl gr gt gm gj rooms q T) (hs : MapI w gs m) (n1 : gm ≠ gs) (n2 : gj ≠ gs) (hlo : w0.heap.size ≤ gs) (hg : w.grownBy w' (some gs)) : VS w0 w' gl gr gt gm gj rooms q T :=
 ⟨blk_grown h.last hg (hs.ne_blk h.last), blk_grown h.rm hg (hs.ne_blk h.rm), blk_grown h.tk hg (hs.ne_blk h.tk), h.mr.kept hg (fun e => n1 (by cases e; rfl)), h.mt.kept hg (fun e => n2 (by cases e; rfl)), h.ne, h.lo, grown_below h.below hg (fun k e => by cases e; exact hlo)⟩
theorem VS.taken {w0 w w' : World} {gl gr gt gm gj : Nat} {rooms : Int → Option Int} {q x0 x1 : Int} {T : Int → Option Bool} (h : VS w0 w gl gr gt gm gj rooms q T) (hk : MapI w' gj (setM (mapV vBool T) x1 (.bool true))) (hg : w.grownBy w' (some gj)) : VS w0 (w'.setCell ⟨gl, 0, none⟩ (.int .i64 x0)) gl gr gt gm gj rooms x0 (upd T x1 true) := by
 have hl : w'.heap[gl]? = some (.cells #[.int .i64 q] 3 (0, 0)) := blk_grown h.last hg (h.mt.ne_blk h.last)
 have hr : w'.heap[gr]? = some (.cells #[.map (some gm)] 65 (0, 0)) := blk_grown h.rm hg (h.mt.ne_blk h.rm)
 have ht : w'.heap[gt]? = some (.cells #[.map (some gj)] 66 (0, 0)) := blk_grown h.tk hg (h.mt.ne_blk h.tk)
 have hm : MapI w' gm (mapV vInt rooms) := h.mr.kept hg (fun e => h.ne (by cases e; rfl))
 have far : ∀ {g t : Nat} {cs : Array Value}, w'.heap[g]? = some (.cells cs t (0, 0)) → t ≠ 3 → (w'.setCell ⟨gl, 0, none⟩ (.int .i64 x0)).heap[g]? = some (.cells cs t (0, 0)) := fun {g t cs} hb ht => (Below.heap_setCell w' ⟨gl, 0, none⟩ _ g (fun e => by
  rw [e] at hb
  have hb := hb.symm.trans hl
  injection hb with hb
  injection hb with _ h2
  exact ht h2)).trans hb
 exact ⟨blk_put hl 0 _ rfl, far hr (by decide), far ht (by decide), hm.move (Below.heap_setCell _ _ _ _ (fun e => hm.ne_blk hl (by rw [e]))), (hk.eq (mapV_set vBool T x1 true)).move (Below.heap_setCell _ _ _ _ (fun e => hk.ne_blk hl (by rw [e]))), h.ne, h.lo, below_set (grown_below h.below hg (fun k e => by cases e; exact h.lo.2)) h.lo.1⟩
theorem valid1_calls (w0 w : World) (x0 x1 : Int) (A2 : Option Addr) (c2 : Nat) (l2 : List Int) (gl gr gt gm gj : Nat) (rooms : Int → Option Int) (q : Int) (T : Int → Option Bool) (hr2 : Kd.C (Kd.int .i64) w0 A2 l2.length l2) (hc2 : l2.length ≤ c2) (hn : l2.length ≤ 1000000000000) (hv : VS w0 w gl gr gt gm gj rooms q T) :
  Calls Try.prog 43 #[.agg #[.int .i64 x0, .int .i64 x1, .slice A2 l2.length c2], .pointer (some ⟨gl, 0, none⟩), .pointer (some ⟨gr, 0, none⟩), .pointer (some ⟨gt, 0, none⟩)] w fun e w' => e = .returned (.bool (partyOk rooms q T x0 x1 l2)) ∧ Below w0.heap.size w0 w' ∧ (partyOk rooms q T x0 x1 l2 = true → VS w0 w' gl gr gt gm gj rooms x0 (upd T x1 true)) := by
 have hu46 := Try.underlying46
 have HR2 := Aside0.mk hr2
 have HN := Aside0.mk hn
 have HV := Aside0.mk hv
 have hmm := @run_makeMap Try.prog
 have HB0 := Aside0.mk (Below.refl w.heap.size w)
 clear hr2 hn hv
 by_cases b1 : x0 ≤ q
 ·have HX := Aside0.mk (show partyOk rooms q T x0 x1 l2 = false by unfold partyOk; rw [decide_eq_false (by omega)]; rfl)
  have t1 : decide (x0 ≤ q) = true := decide_eq_true b1
  clear b1
  go_enter Try.func43, Try.ntmps43
  go_wp2_with (first | ((with_reducible refine gate_dst (N := 4) rfl ?_); refine box_event ?hg (N := 4) ?hd (cs := #[.int .i64 x0, .int .i64 x1, .slice A2 l2.length c2]) (t := 46) ?hr ?_; (case hd => rfl); (case hg => rfl); (case hr => first | (go_simp; done) | (go_simp; rfl)); intro gp hg_P wp hbox_ hb_; have n0_ := Aside0.mk (below_step HB0.out hb_); have BP := Aside0.mk hbox_; have GP := Aside0.mk (show w.heap.size ≤ gp by rw [hg_P]; exact below_size HB0.out); have EP := Aside0.mk hg_P; have hcp0 : wp.cell? ⟨gp, 0, none⟩ = some (.int .i64 x0) := (blk_cell hbox_ 0).trans rfl; have hfp0 := blk_frozen hbox_ 0; have hcp1 : wp.cell? ⟨gp, 1, none⟩ = some (.int .i64 x1) := (blk_cell hbox_ 1).trans rfl; have hfp1 := blk_frozen hbox_ 1; have hcp2 : wp.cell? ⟨gp, 2, none⟩ = some (.slice A2 l2.length c2) := (blk_cell hbox_ 2).trans rfl; have hfp2 := blk_frozen hbox_ 2; have HVp := Aside0.mk (HV.out.later hb_); have hcl0 := (blk_cell HVp.out.last 0).trans rfl; have hcr0 := (blk_cell HVp.out.rm 0).trans rfl; have hct0 := (blk_cell HVp.out.tk 0).trans rfl; clear HB0 hg_P hbox_ hb_; have HB0 := n0_; clear n0_))
  go_ret
  rw [HX.out]
  exact ⟨rfl, HVp.out.below, fun h => Bool.noConfusion h⟩
 have t1 : decide (x0 ≤ q) = false := decide_eq_false b1
 by_cases b2 : 64 < x0
 ·have HX := Aside0.mk (show partyOk rooms q T x0 x1 l2 = false by unfold partyOk; rw [decide_eq_false (by omega)]; rfl)
  have t2 : decide (64 < x0) = true := decide_eq_true b2
  clear b1 b2
  go_enter Try.func43, Try.ntmps43
  go_wp2_with (first | ((with_reducible refine gate_dst (N := 4) rfl ?_); refine box_event ?hg (N := 4) ?hd (cs := #[.int .i64 x0, .int .i64 x1, .slice A2 l2.length c2]) (t := 46) ?hr ?_; (case hd => rfl); (case hg => rfl); (case hr => first | (go_simp; done) | (go_simp; rfl)); intro gp hg_P wp hbox_ hb_; have n0_ := Aside0.mk (below_step HB0.out hb_); have BP := Aside0.mk hbox_; have GP := Aside0.mk (show w.heap.size ≤ gp by rw [hg_P]; exact below_size HB0.out); have EP := Aside0.mk hg_P; have hcp0 : wp.cell? ⟨gp, 0, none⟩ = some (.int .i64 x0) := (blk_cell hbox_ 0).trans rfl; have hfp0 := blk_frozen hbox_ 0; have hcp1 : wp.cell? ⟨gp, 1, none⟩ = some (.int .i64 x1) := (blk_cell hbox_ 1).trans rfl; have hfp1 := blk_frozen hbox_ 1; have hcp2 : wp.cell? ⟨gp, 2, none⟩ = some (.slice A2 l2.length c2) := (blk_cell hbox_ 2).trans rfl; have hfp2 := blk_frozen hbox_ 2; have HVp := Aside0.mk (HV.out.later hb_); have hcl0 := (blk_cell HVp.out.last 0).trans rfl; have hcr0 := (blk_cell HVp.out.rm 0).trans rfl; have hct0 := (blk_cell HVp.out.tk 0).trans rfl; clear HB0 hg_P hbox_ hb_; have HB0 := n0_; clear n0_))
  go_ret
  rw [HX.out]
  exact ⟨rfl, HVp.out.below, fun h => Bool.noConfusion h⟩
 have t2 : decide (64 < x0) = false := decide_eq_false b2
 have HPO := Aside0.mk (show partyOk rooms q T x0 x1 l2 = ((decide (x1 = 0) || (decide ((rooms x1).getD 0 ≠ 0) && !(T x1).getD false)) && wantsOk rooms l2) by unfold partyOk; rw [decide_eq_true (by omega : q < x0 ∧ x0 ≤ 64)]; rfl)
 clear b1 b2
 by_cases b3 : x1 = 0
 ·have t3 : (x1 == 0) = true := beq_iff_eq.2 b3
  have t3' : (x1 != 0) = false := by rw [bne_eq_false_iff_eq]; exact b3
  have HX := Aside0.mk (show partyOk rooms q T x0 x1 l2 = wantsOk rooms l2 by rw [HPO.out, decide_eq_true b3]; rfl)
  clear b3
  go_enter Try.func43, Try.ntmps43
  go_upto_region 3 with (first | ((with_reducible refine gate_dst (N := 4) rfl ?_); refine box_event ?hg (N := 4) ?hd (cs := #[.int .i64 x0, .int .i64 x1, .slice A2 l2.length c2]) (t := 46) ?hr ?_; (case hd => rfl); (case hg => rfl); (case hr => first | (go_simp; done) | (go_simp; rfl)); intro gp hg_P wp hbox_ hb_; have n0_ := Aside0.mk (below_step HB0.out hb_); have BP := Aside0.mk hbox_; have GP := Aside0.mk (show w.heap.size ≤ gp by rw [hg_P]; exact below_size HB0.out); have EP := Aside0.mk hg_P; have hcp0 : wp.cell? ⟨gp, 0, none⟩ = some (.int .i64 x0) := (blk_cell hbox_ 0).trans rfl; have hfp0 := blk_frozen hbox_ 0; have hcp1 : wp.cell? ⟨gp, 1, none⟩ = some (.int .i64 x1) := (blk_cell hbox_ 1).trans rfl; have hfp1 := blk_frozen hbox_ 1; have hcp2 : wp.cell? ⟨gp, 2, none⟩ = some (.slice A2 l2.length c2) := (blk_cell hbox_ 2).trans rfl; have hfp2 := blk_frozen hbox_ 2; have HVp := Aside0.mk (HV.out.later hb_); have hcl0 := (blk_cell HVp.out.last 0).trans rfl; have hcr0 := (blk_cell HVp.out.rm 0).trans rfl; have hct0 := (blk_cell HVp.out.tk 0).trans rfl; clear HB0 hg_P hbox_ hb_; have HB0 := n0_; clear n0_))
  have hfl0 := blk_frozen HVp.out.last 0
  refine start_ (n := 7) (S := fun w' => w'.cell? ⟨gt, 0, none⟩ = some (.map (some gj)) ∧ w'.cell? ⟨gp, 0, none⟩ = some (.int .i64 x0) ∧ w'.cell? ⟨gp, 1, none⟩ = some (.int .i64 x1)) (ds := [6]) #[n_, n_, n_, n_, n_, n_, n_] (by kernel_rfl) rfl rfl ⟨hct0, hcp0, hcp1⟩ (fun hHeld => ?_)
  refine pv_ 1 37 (w_ 7 2) rfl ?_
  refine pv_ 3 39 (w_ 7 10) rfl ?_
  refine tb_ 0 36 (w_ 7 11) rfl hHeld (by rintro w' ⟨s0, s1, s2⟩; go_simp; with_reducible rfl) ?_
  refine tb_ 2 38 (w_ 7 15) rfl hHeld (by rintro w' ⟨s0, s1, s2⟩; go_simp; with_reducible rfl) ?_
  refine tb_ 4 40 (w_ 7 31) rfl hHeld (by rintro w' ⟨s0, s1, s2⟩; go_simp; with_reducible rfl) ?_
  refine one_ (i := 5) (N := none) (w_ 7 63) rfl rfl (by kernel_rfl) (by decide) (fun K hK => ?_)
  obtain ⟨w11, hrun_, hm_, hg_⟩ := run_storeI (P := Try.prog) (t := 66) (kt := 3) (et := 4) HVp.out.mt.drew Try.underlying66 Try.underlying3 x1 (.bool true)
  have HM11 := Aside0.mk hm_
  have HG11 := Aside0.mk hg_
  refine skip_ (w1 := w11) (by rfl) rfl ?_ ?_
  ·go_simp
   try (first | (rw [hrun_]; done) | (rw [hrun_]; rfl) | rfl)
  clear hrun_ hm_ hg_
  have BT11 := Aside0.mk (blk_grown (show wp.drew.heap[gt]? = _ from HVp.out.tk) HG11.out (HVp.out.mt.ne_blk HVp.out.tk))
  have BP11 := Aside0.mk (blk_grown (show wp.drew.heap[gp]? = _ from BP.out) HG11.out (HVp.out.mt.ne_blk BP.out))
  have BL11 := Aside0.mk (blk_grown (show wp.drew.heap[gl]? = _ from HVp.out.last) HG11.out (HVp.out.mt.ne_blk HVp.out.last))
  have hql0 := (blk_cell BL11.out 0).trans rfl
  have hqf0 := blk_frozen BL11.out 0
  refine hK.out _ _ ⟨(blk_cell BT11.out 0).trans rfl, (blk_cell BP11.out 0).trans rfl, (blk_cell BP11.out 1).trans rfl⟩ (fun hHeld => ?_)
  clear hK K
  refine last_ (i := 6) (N := none) (w_ 7 127) rfl rfl (by kernel_rfl) (by decide) (fun K hK => ?_)
  refine skip_ (w1 := ?_) (by rfl) rfl ?_ ?_
  rotate_left
  ·go_simp
   rfl
  refine hK.out _ _ ?_
  clear hK K
  refine done_ (by kernel_rfl) ?_
  go_upto_region 4 with (fail)
  obtain ⟨w12, hw12⟩ : ∃ w12, w12 = w11.setCell ⟨gl, 0, none⟩ (.int .i64 x0) := ⟨_, rfl⟩
  rw [← hw12]
  have HV12 := Aside0.mk (show VS w0 w12 gl gr gt gm gj rooms x0 (upd T x1 true) by rw [hw12]; exact VS.taken (HVp.out.later (below_drew (Below.refl _ _))) HM11.out HG11.out)
  have BP12 := Aside0.mk (show w12.heap[gp]? = some (.cells #[.int .i64 x0, .int .i64 x1, .slice A2 l2.length c2] 46 (0, 0)) by rw [hw12]; exact (Below.heap_setCell _ _ _ _ (blk_ne BP11.out BL11.out (by decide))).trans BP11.out)
  clear hcp0 hcp1 hcp2 hfp0 hfp1 hfp2 hcl0 hcr0 hct0 hfl0 hql0 hqf0 hHeld hw12
  have hcp2 : (w12.alloc (Obj.map #[] 0)).cell? ⟨gp, 2, none⟩ = some (.slice A2 l2.length c2) := (blk_cell (blk_below BP12.out (below_alloc (Below.refl _ _) _)) 2).trans rfl
  go_wp2
  obtain ⟨gs, hgs⟩ : ∃ gs, gs = w12.heap.size := ⟨_, rfl⟩
  obtain ⟨w13, hw13⟩ : ∃ w13, w13 = w12.alloc (Obj.map #[] 0) := ⟨_, rfl⟩
  rw [← hgs, ← hw13]
  have HV13 := Aside0.mk (show VS w0 w13 gl gr gt gm gj rooms x0 (upd T x1 true) by rw [hw13]; exact HV12.out.later (below_alloc (Below.refl _ _) _))
  have HS13 := Aside0.mk (show MapI w13 gs (mapV vBool (seenM l2 0)) by rw [hw13, hgs]; exact (MapI.made w12).none_ vBool)
  have HNE := Aside0.mk (show gm ≠ gs ∧ gj ≠ gs ∧ w0.heap.size ≤ gs from ⟨by have := HV12.out.mr.lt; omega, by have := HV12.out.mt.lt; omega, by have := below_size HV12.out.below; omega⟩)
  have HCA := Aside0.mk (Kd.C_below HR2.out HV13.out.below)
  clear hw13 hgs HV12 BP12 hcp2
  go_loopg [45] l2.length (fun kq v45 wr => ∃ (n : Nat), v45 = .int .i64 n ∧ Aside0 (kq + n = l2.length) ∧ Aside0 (∀ j, j < n → wantAt rooms l2 j = true) ∧ Aside0 (VS w0 wr gl gr gt gm gj rooms x0 (upd T x1 true)) ∧ Aside0 (MapI wr gs (mapV vBool (seenM l2 n))))
  case atStart => exact ⟨0, rfl, ⟨by omega⟩, ⟨fun j hj => absurd hj (by omega)⟩, HV13, HS13⟩
  case round =>
   clear HV13 HS13 HCA
   obtain ⟨n, rfl, HK, HA, HVR, HS⟩ := hrel
   by_cases hlt : n < l2.length
   ·obtain ⟨i, hi⟩ : ∃ i : Int, i = (n : Int) := ⟨_, rfl⟩
    rw [← hi]
    have HI2 := Aside0.mk (show 0 ≤ i ∧ i < l2.length ∧ i = (n : Int) from ⟨by omega, by omega, hi⟩)
    have d7 : decide (i < (l2.length : Int)) = true := decide_eq_true HI2.out.2.1
    have ci2 : (0 ≤ i) = True := eq_true HI2.out.1
    have ci3 : (i < l2.length) = True := eq_true HI2.out.2.1
    obtain ⟨adw, ew, hy0⟩ := Kd.at_int (Kd.C_below HR2.out HVR.out.below) i HI2.out.1 HI2.out.2.1
    subst ew
    obtain ⟨k, hk⟩ : ∃ k, k = rd l2 i := ⟨_, rfl⟩
    rw [← hk] at hy0
    have HKK := Aside0.mk (show rd l2 (n : Int) = k by rw [hk, hi])
    have hz1 : i + 1 ≤ 9223372036854775807 := by have := HI2.out; have := HN.out; omega
    have hz2 : -9223372036854775808 ≤ i + 1 := by have := HI2.out; omega
    have HLT := Aside0.mk hlt
    have HWA := Aside0.mk (show wantAt rooms l2 n = (decide ((rooms k).getD 0 ≠ 0) && !(seenM l2 n k).getD false) by unfold wantAt; rw [HKK.out])
    have hcrr : wr.cell? ⟨gr, 0, none⟩ = some (.map (some gm)) := (blk_cell HVR.out.rm 0).trans rfl
    clear hi hlt hk
    by_cases c1 : (rooms k).getD 0 = 0
    ·have u1 : ((rooms k).getD 0 == 0) = true := beq_iff_eq.2 c1
     have HF := Aside0.mk (wantsOk_false HLT.out (show wantAt rooms l2 n = false by rw [HWA.out, decide_eq_false (by simpa using c1)]; rfl))
     clear c1
     go_wp2_with (first | ((with_reducible refine gate_ (op := .lookup 65 (.tmp 49) (.tmp 50) false) rfl ?_); refine wpList_lookI _ rfl (.tmp 49) (.tmp 50) 65 false rfl 3 3 Try.underlying65 Try.underlying3 (Try.zeroValue3 _) gm (mapV vInt rooms) rfl HVR.out.mr k rfl ?_; rw [if_neg (by decide), show (Value.int IntKind.i64 0) = vInt 0 from rfl, mapV_get]; dsimp only [vInt]))
     go_ret
     rw [HX.out, HF.out]
     exact ⟨rfl, HVR.out.below, fun h => Bool.noConfusion h⟩
    have u1 : ((rooms k).getD 0 == 0) = false := beq_eq_false_iff_ne.2 c1
    cases c2 : (seenM l2 n k).getD false with
    | true =>
     have HF := Aside0.mk (wantsOk_false HLT.out (show wantAt rooms l2 n = false by rw [HWA.out, c2]; simp))
     have HC2 := Aside0.mk c2
     clear c1 c2
     go_wp2_with (first | ((with_reducible refine gate_ (op := .lookup 65 (.tmp 49) (.tmp 50) false) rfl ?_); refine wpList_lookI _ rfl (.tmp 49) (.tmp 50) 65 false rfl 3 3 Try.underlying65 Try.underlying3 (Try.zeroValue3 _) gm (mapV vInt rooms) rfl HVR.out.mr k rfl ?_; rw [if_neg (by decide), show (Value.int IntKind.i64 0) = vInt 0 from rfl, mapV_get]; dsimp only [vInt]) | ((with_reducible refine gate_ (op := .lookup 66 (.tmp 54) (.tmp 55) false) rfl ?_); (try (refine gate_guard (by rfl) ?_; dsimp only)); refine wpList_lookI _ rfl (.tmp 54) (.tmp 55) 66 false rfl 3 4 Try.underlying66 Try.underlying3 (Try.zeroValue4 _) gs (mapV vBool (seenM l2 n)) rfl HS.out k rfl ?_; rw [if_neg (by decide), show (Value.bool false) = vBool false from rfl, mapV_get, HC2.out]; dsimp only [vBool]))
     go_ret
     rw [HX.out, HF.out]
     exact ⟨rfl, HVR.out.below, fun h => Bool.noConfusion h⟩
    | false =>
     have HF := Aside0.mk (show wantAt rooms l2 n = true by rw [HWA.out, c2, decide_eq_true c1]; rfl)
     have HC2 := Aside0.mk c2
     clear c1 c2
     go_wp2_with (first | ((with_reducible refine gate_ (op := .lookup 65 (.tmp 49) (.tmp 50) false) rfl ?_); refine wpList_lookI _ rfl (.tmp 49) (.tmp 50) 65 false rfl 3 3 Try.underlying65 Try.underlying3 (Try.zeroValue3 _) gm (mapV vInt rooms) rfl HVR.out.mr k rfl ?_; rw [if_neg (by decide), show (Value.int IntKind.i64 0) = vInt 0 from rfl, mapV_get]; dsimp only [vInt]) | ((with_reducible refine gate_ (op := .lookup 66 (.tmp 54) (.tmp 55) false) rfl ?_); (try (refine gate_guard (by rfl) ?_; dsimp only)); refine wpList_lookI _ rfl (.tmp 54) (.tmp 55) 66 false rfl 3 4 Try.underlying66 Try.underlying3 (Try.zeroValue4 _) gs (mapV vBool (seenM l2 n)) rfl HS.out k rfl ?_; rw [if_neg (by decide), show (Value.bool false) = vBool false from rfl, mapV_get, HC2.out]; dsimp only [vBool]) | ((with_reducible refine gate_ (op := .mapUpdate 66 (.tmp 58) (.tmp 59) (.const (.bool true))) rfl ?_); refine wpList_storeI _ rfl (.tmp 58) (.tmp 59) (.const (.bool true)) 66 rfl 3 4 Try.underlying66 Try.underlying3 gs (mapV vBool (seenM l2 n)) rfl HS.out k rfl (.bool true) rfl ?_; intro w14 hm_ hg_; have HS14 := Aside0.mk (show MapI w14 gs (mapV vBool (seenM l2 (n + 1))) from hm_.eq fun x => (mapV_set vBool (seenM l2 n) k true x).trans (by unfold seenM; rw [foldM_succ]; simp only [HKK.out])); have HV14 := Aside0.mk (HVR.out.map HS.out HNE.out.1 HNE.out.2.1 HNE.out.2.2 hg_); clear hm_ hg_))
     go_roundg (gk - 1)
     case measure => have := HK.out; have := HLT.out; omega
     case rel =>
      refine ⟨n + 1, ?_, ⟨by have := HK.out; have := HLT.out; omega⟩, ⟨fun j hj => ?_⟩, HV14, HS14⟩
      ·have := HI2.out
       first | (rw [show ((n + 1 : Nat) : Int) = i + 1 from by omega]; done) | (simp; omega)
      ·by_cases e : j = n
       ·rw [e]; exact HF.out
       ·exact HA.out j (by omega)
   ·have d7 : decide ((n : Int) < (l2.length : Int)) = false := decide_eq_false (by omega)
    have d7' : decide (n < l2.length) = false := decide_eq_false hlt
    have hnl : n = l2.length := by have := HK.out; omega
    rw [hnl] at HA
    have HF := Aside0.mk (wantsOk_true HA.out)
    clear hlt hnl
    go_wp2
    go_ret
    rw [HX.out, HF.out]
    exact ⟨rfl, HVR.out.below, fun _ => HVR.out⟩
 have t3 : (x1 == 0) = false := beq_eq_false_iff_ne.2 b3
 have t3' : (x1 != 0) = true := bne_iff_ne.2 b3
 by_cases b4 : (rooms x1).getD 0 = 0
 ·have t4 : ((rooms x1).getD 0 == 0) = true := beq_iff_eq.2 b4
  have HX := Aside0.mk (show partyOk rooms q T x0 x1 l2 = false by rw [HPO.out, decide_eq_false b3, decide_eq_false (by simpa using b4)]; rfl)
  clear b3 b4
  go_enter Try.func43, Try.ntmps43
  go_wp2_with (first | ((with_reducible refine gate_dst (N := 4) rfl ?_); refine box_event ?hg (N := 4) ?hd (cs := #[.int .i64 x0, .int .i64 x1, .slice A2 l2.length c2]) (t := 46) ?hr ?_; (case hd => rfl); (case hg => rfl); (case hr => first | (go_simp; done) | (go_simp; rfl)); intro gp hg_P wp hbox_ hb_; have n0_ := Aside0.mk (below_step HB0.out hb_); have BP := Aside0.mk hbox_; have GP := Aside0.mk (show w.heap.size ≤ gp by rw [hg_P]; exact below_size HB0.out); have EP := Aside0.mk hg_P; have hcp0 : wp.cell? ⟨gp, 0, none⟩ = some (.int .i64 x0) := (blk_cell hbox_ 0).trans rfl; have hfp0 := blk_frozen hbox_ 0; have hcp1 : wp.cell? ⟨gp, 1, none⟩ = some (.int .i64 x1) := (blk_cell hbox_ 1).trans rfl; have hfp1 := blk_frozen hbox_ 1; have hcp2 : wp.cell? ⟨gp, 2, none⟩ = some (.slice A2 l2.length c2) := (blk_cell hbox_ 2).trans rfl; have hfp2 := blk_frozen hbox_ 2; have HVp := Aside0.mk (HV.out.later hb_); have hcl0 := (blk_cell HVp.out.last 0).trans rfl; have hcr0 := (blk_cell HVp.out.rm 0).trans rfl; have hct0 := (blk_cell HVp.out.tk 0).trans rfl; clear HB0 hg_P hbox_ hb_; have HB0 := n0_; clear n0_) | ((with_reducible refine gate_ (op := .lookup 65 (.tmp 23) (.tmp 25) false) rfl ?_); (try (refine gate_guard (by rfl) ?_; dsimp only)); refine wpList_lookI _ rfl (.tmp 23) (.tmp 25) 65 false rfl 3 3 Try.underlying65 Try.underlying3 (Try.zeroValue3 _) gm (mapV vInt rooms) rfl HVp.out.mr x1 rfl ?_; rw [if_neg (by decide), show (Value.int IntKind.i64 0) = vInt 0 from rfl, mapV_get]; dsimp only [vInt]))
  go_ret
  rw [HX.out]
  exact ⟨rfl, HVp.out.below, fun h => Bool.noConfusion h⟩
 have t4 : ((rooms x1).getD 0 == 0) = false := beq_eq_false_iff_ne.2 b4
 cases b5 : (T x1).getD false with
 | true =>
  have HX := Aside0.mk (show partyOk rooms q T x0 x1 l2 = false by rw [HPO.out, decide_eq_false b3, b5]; simp)
  have HT5 := Aside0.mk b5
  clear b3 b4 b5
  go_enter Try.func43, Try.ntmps43
  go_wp2_with (first | ((with_reducible refine gate_dst (N := 4) rfl ?_); refine box_event ?hg (N := 4) ?hd (cs := #[.int .i64 x0, .int .i64 x1, .slice A2 l2.length c2]) (t := 46) ?hr ?_; (case hd => rfl); (case hg => rfl); (case hr => first | (go_simp; done) | (go_simp; rfl)); intro gp hg_P wp hbox_ hb_; have n0_ := Aside0.mk (below_step HB0.out hb_); have BP := Aside0.mk hbox_; have GP := Aside0.mk (show w.heap.size ≤ gp by rw [hg_P]; exact below_size HB0.out); have EP := Aside0.mk hg_P; have hcp0 : wp.cell? ⟨gp, 0, none⟩ = some (.int .i64 x0) := (blk_cell hbox_ 0).trans rfl; have hfp0 := blk_frozen hbox_ 0; have hcp1 : wp.cell? ⟨gp, 1, none⟩ = some (.int .i64 x1) := (blk_cell hbox_ 1).trans rfl; have hfp1 := blk_frozen hbox_ 1; have hcp2 : wp.cell? ⟨gp, 2, none⟩ = some (.slice A2 l2.length c2) := (blk_cell hbox_ 2).trans rfl; have hfp2 := blk_frozen hbox_ 2; have HVp := Aside0.mk (HV.out.later hb_); have hcl0 := (blk_cell HVp.out.last 0).trans rfl; have hcr0 := (blk_cell HVp.out.rm 0).trans rfl; have hct0 := (blk_cell HVp.out.tk 0).trans rfl; clear HB0 hg_P hbox_ hb_; have HB0 := n0_; clear n0_) | ((with_reducible refine gate_ (op := .lookup 65 (.tmp 23) (.tmp 25) false) rfl ?_); (try (refine gate_guard (by rfl) ?_; dsimp only)); refine wpList_lookI _ rfl (.tmp 23) (.tmp 25) 65 false rfl 3 3 Try.underlying65 Try.underlying3 (Try.zeroValue3 _) gm (mapV vInt rooms) rfl HVp.out.mr x1 rfl ?_; rw [if_neg (by decide), show (Value.int IntKind.i64 0) = vInt 0 from rfl, mapV_get]; dsimp only [vInt]) | ((with_reducible refine gate_ (op := .lookup 66 (.tmp 29) (.tmp 31) false) rfl ?_); (try (refine gate_guard (by rfl) ?_; dsimp only)); refine wpList_lookI _ rfl (.tmp 29) (.tmp 31) 66 false rfl 3 4 Try.underlying66 Try.underlying3 (Try.zeroValue4 _) gj (mapV vBool T) rfl HVp.out.mt x1 rfl ?_; rw [if_neg (by decide), show (Value.bool false) = vBool false from rfl, mapV_get, HT5.out]; dsimp only [vBool]))
  go_ret
  rw [HX.out]
  exact ⟨rfl, HVp.out.below, fun h => Bool.noConfusion h⟩
 | false =>
  have HX := Aside0.mk (show partyOk rooms q T x0 x1 l2 = wantsOk rooms l2 by rw [HPO.out, decide_eq_true b4, b5]; simp)
  have HT5 := Aside0.mk b5
  clear b3 b4 b5
  go_enter Try.func43, Try.ntmps43
  go_upto_region 3 with (first | ((with_reducible refine gate_dst (N := 4) rfl ?_); refine box_event ?hg (N := 4) ?hd (cs := #[.int .i64 x0, .int .i64 x1, .slice A2 l2.length c2]) (t := 46) ?hr ?_; (case hd => rfl); (case hg => rfl); (case hr => first | (go_simp; done) | (go_simp; rfl)); intro gp hg_P wp hbox_ hb_; have n0_ := Aside0.mk (below_step HB0.out hb_); have BP := Aside0.mk hbox_; have GP := Aside0.mk (show w.heap.size ≤ gp by rw [hg_P]; exact below_size HB0.out); have EP := Aside0.mk hg_P; have hcp0 : wp.cell? ⟨gp, 0, none⟩ = some (.int .i64 x0) := (blk_cell hbox_ 0).trans rfl; have hfp0 := blk_frozen hbox_ 0; have hcp1 : wp.cell? ⟨gp, 1, none⟩ = some (.int .i64 x1) := (blk_cell hbox_ 1).trans rfl; have hfp1 := blk_frozen hbox_ 1; have hcp2 : wp.cell? ⟨gp, 2, none⟩ = some (.slice A2 l2.length c2) := (blk_cell hbox_ 2).trans rfl; have hfp2 := blk_frozen hbox_ 2; have HVp := Aside0.mk (HV.out.later hb_); have hcl0 := (blk_cell HVp.out.last 0).trans rfl; have hcr0 := (blk_cell HVp.out.rm 0).trans rfl; have hct0 := (blk_cell HVp.out.tk 0).trans rfl; clear HB0 hg_P hbox_ hb_; have HB0 := n0_; clear n0_) | ((with_reducible refine gate_ (op := .lookup 65 (.tmp 23) (.tmp 25) false) rfl ?_); (try (refine gate_guard (by rfl) ?_; dsimp only)); refine wpList_lookI _ rfl (.tmp 23) (.tmp 25) 65 false rfl 3 3 Try.underlying65 Try.underlying3 (Try.zeroValue3 _) gm (mapV vInt rooms) rfl HVp.out.mr x1 rfl ?_; rw [if_neg (by decide), show (Value.int IntKind.i64 0) = vInt 0 from rfl, mapV_get]; dsimp only [vInt]) | ((with_reducible refine gate_ (op := .lookup 66 (.tmp 29) (.tmp 31) false) rfl ?_); (try (refine gate_guard (by rfl) ?_; dsimp only)); refine wpList_lookI _ rfl (.tmp 29) (.tmp 31) 66 false rfl 3 4 Try.underlying66 Try.underlying3 (Try.zeroValue4 _) gj (mapV vBool T) rfl HVp.out.mt x1 rfl ?_; rw [if_neg (by decide), show (Value.bool false) = vBool false from rfl, mapV_get, HT5.out]; dsimp only [vBool]))
  have hfl0 := blk_frozen HVp.out.last 0
  refine start_ (n := 7) (S := fun w' => w'.cell? ⟨gt, 0, none⟩ = some (.map (some gj)) ∧ w'.cell? ⟨gp, 0, none⟩ = some (.int .i64 x0) ∧ w'.cell? ⟨gp, 1, none⟩ = some (.int .i64 x1)) (ds := [6]) #[n_, n_, n_, n_, n_, n_, n_] (by kernel_rfl) rfl rfl ⟨hct0, hcp0, hcp1⟩ (fun hHeld => ?_)
  refine pv_ 1 37 (w_ 7 2) rfl ?_
  refine pv_ 3 39 (w_ 7 10) rfl ?_
  refine tb_ 0 36 (w_ 7 11) rfl hHeld (by rintro w' ⟨s0, s1, s2⟩; go_simp; with_reducible rfl) ?_
  refine tb_ 2 38 (w_ 7 15) rfl hHeld (by rintro w' ⟨s0, s1, s2⟩; go_simp; with_reducible rfl) ?_
  refine tb_ 4 40 (w_ 7 31) rfl hHeld (by rintro w' ⟨s0, s1, s2⟩; go_simp; with_reducible rfl) ?_
  refine one_ (i := 5) (N := none) (w_ 7 63) rfl rfl (by kernel_rfl) (by decide) (fun K hK => ?_)
  obtain ⟨w11, hrun_, hm_, hg_⟩ := run_storeI (P := Try.prog) (t := 66) (kt := 3) (et := 4) HVp.out.mt.drew Try.underlying66 Try.underlying3 x1 (.bool true)
  have HM11 := Aside0.mk hm_
  have HG11 := Aside0.mk hg_
  refine skip_ (w1 := w11) (by rfl) rfl ?_ ?_
  ·go_simp
   try (first | (rw [hrun_]; done) | (rw [hrun_]; rfl) | rfl)
  clear hrun_ hm_ hg_
  have BT11 := Aside0.mk (blk_grown (show wp.drew.heap[gt]? = _ from HVp.out.tk) HG11.out (HVp.out.mt.ne_blk HVp.out.tk))
  have BP11 := Aside0.mk (blk_grown (show wp.drew.heap[gp]? = _ from BP.out) HG11.out (HVp.out.mt.ne_blk BP.out))
  have BL11 := Aside0.mk (blk_grown (show wp.drew.heap[gl]? = _ from HVp.out.last) HG11.out (HVp.out.mt.ne_blk HVp.out.last))
  have hql0 := (blk_cell BL11.out 0).trans rfl
  have hqf0 := blk_frozen BL11.out 0
  refine hK.out _ _ ⟨(blk_cell BT11.out 0).trans rfl, (blk_cell BP11.out 0).trans rfl, (blk_cell BP11.out 1).trans rfl⟩ (fun hHeld => ?_)
  clear hK K
  refine last_ (i := 6) (N := none) (w_ 7 127) rfl rfl (by kernel_rfl) (by decide) (fun K hK => ?_)
  refine skip_ (w1 := ?_) (by rfl) rfl ?_ ?_
  rotate_left
  ·go_simp
   rfl
  refine hK.out _ _ ?_
  clear hK K
  refine done_ (by kernel_rfl) ?_
  go_upto_region 4 with (fail)
  obtain ⟨w12, hw12⟩ : ∃ w12, w12 = w11.setCell ⟨gl, 0, none⟩ (.int .i64 x0) := ⟨_, rfl⟩
  rw [← hw12]
  have HV12 := Aside0.mk (show VS w0 w12 gl gr gt gm gj rooms x0 (upd T x1 true) by rw [hw12]; exact VS.taken (HVp.out.later (below_drew (Below.refl _ _))) HM11.out HG11.out)
  have BP12 := Aside0.mk (show w12.heap[gp]? = some (.cells #[.int .i64 x0, .int .i64 x1, .slice A2 l2.length c2] 46 (0, 0)) by rw [hw12]; exact (Below.heap_setCell _ _ _ _ (blk_ne BP11.out BL11.out (by decide))).trans BP11.out)
  clear hcp0 hcp1 hcp2 hfp0 hfp1 hfp2 hcl0 hcr0 hct0 hfl0 hql0 hqf0 hHeld hw12
  have hcp2 : (w12.alloc (Obj.map #[] 0)).cell? ⟨gp, 2, none⟩ = some (.slice A2 l2.length c2) := (blk_cell (blk_below BP12.out (below_alloc (Below.refl _ _) _)) 2).trans rfl
  go_wp2
  obtain ⟨gs, hgs⟩ : ∃ gs, gs = w12.heap.size := ⟨_, rfl⟩
  obtain ⟨w13, hw13⟩ : ∃ w13, w13 = w12.alloc (Obj.map #[] 0) := ⟨_, rfl⟩
  rw [← hgs, ← hw13]
  have HV13 := Aside0.mk (show VS w0 w13 gl gr gt gm gj rooms x0 (upd T x1 true) by rw [hw13]; exact HV12.out.later (below_alloc (Below.refl _ _) _))
  have HS13 := Aside0.mk (show MapI w13 gs (mapV vBool (seenM l2 0)) by rw [hw13, hgs]; exact (MapI.made w12).none_ vBool)
  have HNE := Aside0.mk (show gm ≠ gs ∧ gj ≠ gs ∧ w0.heap.size ≤ gs from ⟨by have := HV12.out.mr.lt; omega, by have := HV12.out.mt.lt; omega, by have := below_size HV12.out.below; omega⟩)
  have HCA := Aside0.mk (Kd.C_below HR2.out HV13.out.below)
  clear hw13 hgs HV12 BP12 hcp2
  go_loopg [45] l2.length (fun kq v45 wr => ∃ (n : Nat), v45 = .int .i64 n ∧ Aside0 (kq + n = l2.length) ∧ Aside0 (∀ j, j < n → wantAt rooms l2 j = true) ∧ Aside0 (VS w0 wr gl gr gt gm gj rooms x0 (upd T x1 true)) ∧ Aside0 (MapI wr gs (mapV vBool (seenM l2 n))))
  case atStart => exact ⟨0, rfl, ⟨by omega⟩, ⟨fun j hj => absurd hj (by omega)⟩, HV13, HS13⟩
  case round =>
   clear HV13 HS13 HCA
   obtain ⟨n, rfl, HK, HA, HVR, HS⟩ := hrel
   by_cases hlt : n < l2.length
   ·obtain ⟨i, hi⟩ : ∃ i : Int, i = (n : Int) := ⟨_, rfl⟩
    rw [← hi]
    have HI2 := Aside0.mk (show 0 ≤ i ∧ i < l2.length ∧ i = (n : Int) from ⟨by omega, by omega, hi⟩)
    have d7 : decide (i < (l2.length : Int)) = true := decide_eq_true HI2.out.2.1
    have ci2 : (0 ≤ i) = True := eq_true HI2.out.1
    have ci3 : (i < l2.length) = True := eq_true HI2.out.2.1
    obtain ⟨adw, ew, hy0⟩ := Kd.at_int (Kd.C_below HR2.out HVR.out.below) i HI2.out.1 HI2.out.2.1
    subst ew
    obtain ⟨k, hk⟩ : ∃ k, k = rd l2 i := ⟨_, rfl⟩
    rw [← hk] at hy0
    have HKK := Aside0.mk (show rd l2 (n : Int) = k by rw [hk, hi])
    have hz1 : i + 1 ≤ 9223372036854775807 := by have := HI2.out; have := HN.out; omega
    have hz2 : -9223372036854775808 ≤ i + 1 := by have := HI2.out; omega
    have HLT := Aside0.mk hlt
    have HWA := Aside0.mk (show wantAt rooms l2 n = (decide ((rooms k).getD 0 ≠ 0) && !(seenM l2 n k).getD false) by unfold wantAt; rw [HKK.out])
    have hcrr : wr.cell? ⟨gr, 0, none⟩ = some (.map (some gm)) := (blk_cell HVR.out.rm 0).trans rfl
    clear hi hlt hk
    by_cases c1 : (rooms k).getD 0 = 0
    ·have u1 : ((rooms k).getD 0 == 0) = true := beq_iff_eq.2 c1
     have HF := Aside0.mk (wantsOk_false HLT.out (show wantAt rooms l2 n = false by rw [HWA.out, decide_eq_false (by simpa using c1)]; rfl))
     clear c1
     go_wp2_with (first | ((with_reducible refine gate_ (op := .lookup 65 (.tmp 49) (.tmp 50) false) rfl ?_); refine wpList_lookI _ rfl (.tmp 49) (.tmp 50) 65 false rfl 3 3 Try.underlying65 Try.underlying3 (Try.zeroValue3 _) gm (mapV vInt rooms) rfl HVR.out.mr k rfl ?_; rw [if_neg (by decide), show (Value.int IntKind.i64 0) = vInt 0 from rfl, mapV_get]; dsimp only [vInt]))
     go_ret
     rw [HX.out, HF.out]
     exact ⟨rfl, HVR.out.below, fun h => Bool.noConfusion h⟩
    have u1 : ((rooms k).getD 0 == 0) = false := beq_eq_false_iff_ne.2 c1
    cases c2 : (seenM l2 n k).getD false with
    | true =>
     have HF := Aside0.mk (wantsOk_false HLT.out (show wantAt rooms l2 n = false by rw [HWA.out, c2]; simp))
     have HC2 := Aside0.mk c2
     clear c1 c2
     go_wp2_with (first | ((with_reducible refine gate_ (op := .lookup 65 (.tmp 49) (.tmp 50) false) rfl ?_); refine wpList_lookI _ rfl (.tmp 49) (.tmp 50) 65 false rfl 3 3 Try.underlying65 Try.underlying3 (Try.zeroValue3 _) gm (mapV vInt rooms) rfl HVR.out.mr k rfl ?_; rw [if_neg (by decide), show (Value.int IntKind.i64 0) = vInt 0 from rfl, mapV_get]; dsimp only [vInt]) | ((with_reducible refine gate_ (op := .lookup 66 (.tmp 54) (.tmp 55) false) rfl ?_); (try (refine gate_guard (by rfl) ?_; dsimp only)); refine wpList_lookI _ rfl (.tmp 54) (.tmp 55) 66 false rfl 3 4 Try.underlying66 Try.underlying3 (Try.zeroValue4 _) gs (mapV vBool (seenM l2 n)) rfl HS.out k rfl ?_; rw [if_neg (by decide), show (Value.bool false) = vBool false from rfl, mapV_get, HC2.out]; dsimp only [vBool]))
     go_ret
     rw [HX.out, HF.out]
     exact ⟨rfl, HVR.out.below, fun h => Bool.noConfusion h⟩
    | false =>
     have HF := Aside0.mk (show wantAt rooms l2 n = true by rw [HWA.out, c2, decide_eq_true c1]; rfl)
     have HC2 := Aside0.mk c2
     clear c1 c2
     go_wp2_with (first | ((with_reducible refine gate_ (op := .lookup 65 (.tmp 49) (.tmp 50) false) rfl ?_); refine wpList_lookI _ rfl (.tmp 49) (.tmp 50) 65 false rfl 3 3 Try.underlying65 Try.underlying3 (Try.zeroValue3 _) gm (mapV vInt rooms) rfl HVR.out.mr k rfl ?_; rw [if_neg (by decide), show (Value.int IntKind.i64 0) = vInt 0 from rfl, mapV_get]; dsimp only [vInt]) | ((with_reducible refine gate_ (op := .lookup 66 (.tmp 54) (.tmp 55) false) rfl ?_); (try (refine gate_guard (by rfl) ?_; dsimp only)); refine wpList_lookI _ rfl (.tmp 54) (.tmp 55) 66 false rfl 3 4 Try.underlying66 Try.underlying3 (Try.zeroValue4 _) gs (mapV vBool (seenM l2 n)) rfl HS.out k rfl ?_; rw [if_neg (by decide), show (Value.bool false) = vBool false from rfl, mapV_get, HC2.out]; dsimp only [vBool]) | ((with_reducible refine gate_ (op := .mapUpdate 66 (.tmp 58) (.tmp 59) (.const (.bool true))) rfl ?_); refine wpList_storeI _ rfl (.tmp 58) (.tmp 59) (.const (.bool true)) 66 rfl 3 4 Try.underlying66 Try.underlying3 gs (mapV vBool (seenM l2 n)) rfl HS.out k rfl (.bool true) rfl ?_; intro w14 hm_ hg_; have HS14 := Aside0.mk (show MapI w14 gs (mapV vBool (seenM l2 (n + 1))) from hm_.eq fun x => (mapV_set vBool (seenM l2 n) k true x).trans (by unfold seenM; rw [foldM_succ]; simp only [HKK.out])); have HV14 := Aside0.mk (HVR.out.map HS.out HNE.out.1 HNE.out.2.1 HNE.out.2.2 hg_); clear hm_ hg_))
     go_roundg (gk - 1)
     case measure => have := HK.out; have := HLT.out; omega
     case rel =>
      refine ⟨n + 1, ?_, ⟨by have := HK.out; have := HLT.out; omega⟩, ⟨fun j hj => ?_⟩, HV14, HS14⟩
      ·have := HI2.out
       first | (rw [show ((n + 1 : Nat) : Int) = i + 1 from by omega]; done) | (simp; omega)
      ·by_cases e : j = n
       ·rw [e]; exact HF.out
       ·exact HA.out j (by omega)
   ·have d7 : decide ((n : Int) < (l2.length : Int)) = false := decide_eq_false (by omega)
    have d7' : decide (n < l2.length) = false := decide_eq_false hlt
    have hnl : n = l2.length := by have := HK.out; omega
    rw [hnl] at HA
    have HF := Aside0.mk (wantsOk_true HA.out)
    clear hlt hnl
    go_wp2
    go_ret
    rw [HX.out, HF.out]
    exact ⟨rfl, HVR.out.below, fun _ => HVR.out⟩
def lastP (l : List S46) (n : Nat) : Int := if n = 0 then 0 else (rd_T46 l ((n - 1 : Nat) : Int)).f0
theorem lastP_succ (l : List S46) (n : Nat) : lastP l (n + 1) = (rd_T46 l (n : Int)).f0 := by
 unfold lastP
 rw [if_neg (by omega)]
 rfl
def takenM (l : List S46) (n : Nat) : Int → Option Bool := foldM (fun j => (rd_T46 l (j : Int)).f1) (fun _ => true) n
def partyAt (fl : List S84) (l : List S46) (n : Nat) : Bool := partyOk (roomsM fl fl.length) (lastP l n) (takenM l n) (rd_T46 l (n : Int)).f0 (rd_T46 l (n : Int)).f1 (rd_T46 l (n : Int)).f2
def marketOk (fl : List S84) (l : List S46) : Bool := flatsOk fl && (List.range l.length).all (partyAt fl l)
theorem marketOk_flats {fl : List S84} (l : List S46) (h : flatsOk fl = false) : marketOk fl l = false := by unfold marketOk; rw [h]; rfl
theorem marketOk_false {fl : List S84} {l : List S46} {n : Nat} (hn : n < l.length) (h : partyAt fl l n = false) : marketOk fl l = false := by
 have : (List.range l.length).all (partyAt fl l) = false := by
  rw [List.all_eq_false]
  exact ⟨n, List.mem_range.2 hn, by simp [h]⟩
 unfold marketOk
 rw [this, Bool.and_false]
theorem marketOk_true {fl : List S84} {l : List S46} (hf : flatsOk fl = true) (h : ∀ j, j < l.length → partyAt fl l j = true) : marketOk fl l = true := by
 have : (List.range l.length).all (partyAt fl l) = true := by
  rw [List.all_eq_true]
  exact fun j hj => h j (List.mem_range.1 hj)
 unfold marketOk
 rw [this, hf]
 rfl
def fewM (fl : List S84) (l : List S46) : Bool := decide (fl.length ≤ 1000000000 ∧ l.length ≤ 1000000000) && l.all (fun p => decide (p.f2.length ≤ 1000000000000))
theorem fewM_at {fl : List S84} {l : List S46} (h : fewM fl l = true) : fl.length ≤ 1000000000 ∧ l.length ≤ 1000000000 ∧ ∀ i : Int, 0 ≤ i → i < l.length → (rd_T46 l i).f2.length ≤ 1000000000000 := by
 unfold fewM at h
 rw [Bool.and_eq_true, decide_eq_true_iff, List.all_eq_true] at h
 refine ⟨h.1.1, h.1.2, fun i h0 h1 => ?_⟩
 have h2 : i.toNat < l.length := by omega
 have := h.2 (l[i.toNat]'h2) (List.getElem_mem _)
 simpa [rd_T46, List.getD_eq_getElem?_getD, h2] using this
def market_Valid.f (l0_0 : List (S84)) (l0_1 : List (S46)) : Option Bool := if fewM l0_0 l0_1 = true then some (marketOk l0_0 l0_1) else none
theorem market_Valid.calls (A0 : Option Addr) (c0 : Nat) (l0 : List (S84)) (A1 : Option Addr) (c1 : Nat) (l1 : List (S46)) (r : Bool) (w : World) (hr0 : Kd.C k84 w A0 l0.length l0) (hc0 : l0.length ≤ c0) (hr1 : Kd.C k46 w A1 l1.length l1) (hc1 : l1.length ≤ c1) (h : market_Valid.f l0 l1 = some r) :
  Calls Try.prog 22 #[.agg #[.slice A0 l0.length c0, .slice A1 l1.length c1]] w fun e w' => e = .returned (.bool r) ∧ Below w.heap.size w w' := by
 have hu25 := Try.underlying25
 have hu46 := Try.underlying46
 have hu65 := Try.underlying65
 have hu66 := Try.underlying66
 unfold market_Valid.f at h
 by_cases hf : fewM l0 l1 = true
 case neg => rw [if_neg hf] at h; cases h
 rw [if_pos hf] at h
 have hr := Option.some.inj h
 subst hr
 clear h
 have HFW := Aside0.mk (fewM_at hf)
 have HR0 := Aside0.mk hr0
 have HC0 := Aside0.mk hc0
 have HR1 := Aside0.mk hr1
 have HC1 := Aside0.mk hc1
 have HB := Aside0.mk (Below.refl w.heap.size w)
 have hmm := @run_makeMap Try.prog
 clear hr0 hc0 hr1 hc1 hf
 cases hx : flatsOk l0 with
 | false =>
  have HX := Aside0.mk hx
  have HY := Aside0.mk (marketOk_flats l1 hx)
  clear hx
  go_enter Try.func22, Try.ntmps22
  go_wp2_with (first | ((with_reducible refine gate_dst (N := 1) rfl ?_); refine box_event ?hg (N := 1) ?hd (cs := #[.slice A0 l0.length c0, .slice A1 l1.length c1]) (t := 25) ?hr ?_; (case hd => rfl); (case hg => rfl); (case hr => first | (go_simp; done) | (go_simp; rfl)); intro gM hg_M w1 hbox_ hb_; have n0_ := Aside0.mk (below_step HB.out hb_); have BM := Aside0.mk hbox_; have GM := Aside0.mk (show w.heap.size ≤ gM by rw [hg_M]; exact below_size HB.out); have EM := Aside0.mk hg_M; have hcM0 : w1.cell? ⟨gM, 0, none⟩ = some (.slice A0 l0.length c0) := (blk_cell hbox_ 0).trans rfl; have hfM0 := blk_frozen hbox_ 0; have hcM1 : w1.cell? ⟨gM, 1, none⟩ = some (.slice A1 l1.length c1) := (blk_cell hbox_ 1).trans rfl; have hfM1 := blk_frozen hbox_ 1; have BMk := Aside0.mk hbox_; clear HB hg_M hbox_ hb_; have HB := n0_; clear n0_) | (go_at_call 42; (with_reducible refine (flats_calls A0 c0 l0 _ (Kd.C_below HR0.out HB.out) HC0.out HFW.out.1).mono ?_); rw [HX.out]; rintro e w2 ⟨mv, rfl, hf_, hb_⟩; have n0_ := Aside0.mk (below_step HB.out hb_); clear HB hb_ hf_; have HB := n0_; clear n0_) | ((with_reducible refine gate_dst (N := 3) rfl ?_); refine box_event ?hg (N := 3) ?hd (cs := #[.map none]) (t := 65) ?hr ?_; (case hd => rfl); (case hg => rfl); (case hr => first | (go_simp; done) | (go_simp; rfl)); intro gr hg_R w3 hbox_ hb_; have n0_ := Aside0.mk (below_step HB.out hb_); have BR := Aside0.mk hbox_; have GR := Aside0.mk (show w.heap.size ≤ gr by rw [hg_R]; exact below_size HB.out); have ER := Aside0.mk hg_R; have hcR0 : w3.cell? ⟨gr, 0, none⟩ = some (.map none) := (blk_cell hbox_ 0).trans rfl; have hfR0 := blk_frozen hbox_ 0; clear HB hg_R hbox_ hb_; have HB := n0_; clear n0_))
  go_ret
  rw [HY.out]
  exact ⟨rfl, below_set HB.out GR.out⟩
 | true =>
  have HX := Aside0.mk hx
  clear hx
  go_enter Try.func22, Try.ntmps22
  go_upto_region 2 with (first | ((with_reducible refine gate_dst (N := 1) rfl ?_); refine box_event ?hg (N := 1) ?hd (cs := #[.slice A0 l0.length c0, .slice A1 l1.length c1]) (t := 25) ?hr ?_; (case hd => rfl); (case hg => rfl); (case hr => first | (go_simp; done) | (go_simp; rfl)); intro gM hg_M w1 hbox_ hb_; have n0_ := Aside0.mk (below_step HB.out hb_); have BM := Aside0.mk hbox_; have GM := Aside0.mk (show w.heap.size ≤ gM by rw [hg_M]; exact below_size HB.out); have EM := Aside0.mk hg_M; have hcM0 : w1.cell? ⟨gM, 0, none⟩ = some (.slice A0 l0.length c0) := (blk_cell hbox_ 0).trans rfl; have hfM0 := blk_frozen hbox_ 0; have hcM1 : w1.cell? ⟨gM, 1, none⟩ = some (.slice A1 l1.length c1) := (blk_cell hbox_ 1).trans rfl; have hfM1 := blk_frozen hbox_ 1; have BMk := Aside0.mk hbox_; clear HB hg_M hbox_ hb_; have HB := n0_; clear n0_) | (go_at_call 42; (with_reducible refine (flats_calls A0 c0 l0 _ (Kd.C_below HR0.out HB.out) HC0.out HFW.out.1).mono ?_); rw [HX.out]; rintro e w2 ⟨mv, rfl, hf_, hb_⟩; obtain ⟨gm, rfl, hgm_, hm_⟩ := hf_ rfl; have HM := Aside0.mk hm_; have BMk := Aside0.mk (blk_below BMk.out hb_); replace hcM0 := (hb_.cell (World.block_lt_of_cell? _ _ hcM0)).trans hcM0; replace hcM1 := (hb_.cell (World.block_lt_of_cell? _ _ hcM1)).trans hcM1; have n0_ := Aside0.mk (below_step HB.out hb_); clear HB hb_ hf_ hgm_ hm_; have HB := n0_; clear n0_) | ((with_reducible refine gate_dst (N := 3) rfl ?_); refine box_event ?hg (N := 3) ?hd (cs := #[.map none]) (t := 65) ?hr ?_; (case hd => rfl); (case hg => rfl); (case hr => first | (go_simp; done) | (go_simp; rfl)); intro gr hg_R w3 hbox_ hb_; have n0_ := Aside0.mk (below_step HB.out hb_); have BR := Aside0.mk hbox_; have GR := Aside0.mk (show w.heap.size ≤ gr by rw [hg_R]; exact below_size HB.out); have ER := Aside0.mk hg_R; have hcR0 : w3.cell? ⟨gr, 0, none⟩ = some (.map none) := (blk_cell hbox_ 0).trans rfl; have hfR0 := blk_frozen hbox_ 0; have HM := Aside0.mk (HM.out.below hb_); have NMR := Aside0.mk (show gM ≠ gr by have := blk_lt BMk.out; omega); have BMk := Aside0.mk (blk_below BMk.out hb_); replace hcM0 := (hb_.cell (World.block_lt_of_cell? _ _ hcM0)).trans hcM0; replace hcM1 := (hb_.cell (World.block_lt_of_cell? _ _ hcM1)).trans hcM1; clear HB hg_R hbox_ hb_; have HB := n0_; clear n0_))
  obtain ⟨w4, hw4⟩ : ∃ w4, w4 = w3.setCell ⟨gr, 0, none⟩ (.map (some gm)) := ⟨_, rfl⟩
  rw [← hw4]
  have HB4 := Aside0.mk (show Below w.heap.size w w4 by rw [hw4]; exact below_set HB.out GR.out)
  have BR4 := Aside0.mk (show w4.heap[gr]? = some (.cells #[.map (some gm)] 65 (0, 0)) by rw [hw4]; exact blk_put BR.out 0 _ rfl)
  have HM4 := Aside0.mk (show MapI w4 gm (mapV vInt (roomsM l0 l0.length)) by rw [hw4]; exact HM.out.move (Below.heap_setCell _ _ _ _ (fun e => HM.out.ne_blk BR.out (by rw [e]))))
  have BM4 := Aside0.mk (show w4.heap[gM]? = some (.cells #[.slice A0 l0.length c0, .slice A1 l1.length c1] 25 (0, 0)) by rw [hw4]; exact (Below.heap_setCell _ _ _ _ NMR.out).trans BMk.out)
  clear hw4 HB HM BR BMk hcR0 hfR0 hcM0 hcM1
  go_upto_region 4 with (fail)
  have hb5 : Below w4.heap.size w4 (w4.alloc (Obj.map #[] 0)) := below_alloc (Below.refl _ _) _
  have HB := Aside0.mk (below_step HB4.out hb5)
  have BR := Aside0.mk (blk_below BR4.out hb5)
  have HM := Aside0.mk (HM4.out.below hb5)
  have BMk := Aside0.mk (blk_below BM4.out hb5)
  have HJ := Aside0.mk (show MapI (w4.alloc (Obj.map #[] 0)) w4.heap.size (mapV vBool (takenM l1 0)) from (MapI.made w4).none_ vBool)
  have HNE0 := Aside0.mk (show gm ≠ w4.heap.size ∧ w.heap.size ≤ w4.heap.size from ⟨by have := HM4.out.lt; omega, below_size HB4.out⟩)
  clear HB4 BR4 HM4 BM4 hb5
  go_upto_region 5 with (first | ((with_reducible refine gate_dst (N := 5) rfl ?_); refine box_event ?hg (N := 5) ?hd (cs := #[.map none]) (t := 66) ?hr ?_; (case hd => rfl); (case hg => rfl); (case hr => first | (go_simp; done) | (go_simp; rfl)); intro gt hg_T w6 hbox_ hb_; have n0_ := Aside0.mk (below_step HB.out hb_); have BT := Aside0.mk hbox_; have GT := Aside0.mk (show w.heap.size ≤ gt by rw [hg_T]; exact below_size HB.out); have ET := Aside0.mk hg_T; have hcT0 : w6.cell? ⟨gt, 0, none⟩ = some (.map none) := (blk_cell hbox_ 0).trans rfl; have hfT0 := blk_frozen hbox_ 0; have HM := Aside0.mk (HM.out.below hb_); have HJ := Aside0.mk (HJ.out.below hb_); have BR := Aside0.mk (blk_below BR.out hb_); have BMk := Aside0.mk (blk_below BMk.out hb_); clear HB hg_T hbox_ hb_; have HB := n0_; clear n0_) | ((with_reducible refine gate_dst (N := 6) rfl ?_); refine box_event ?hg (N := 6) ?hd (cs := #[.int .i64 0]) (t := 3) ?hr ?_; (case hd => rfl); (case hg => rfl); (case hr => first | (go_simp; done) | (go_simp; rfl)); intro gl hg_L w7 hbox_ hb_; have n0_ := Aside0.mk (below_step HB.out hb_); have BL := Aside0.mk hbox_; have GL := Aside0.mk (show w.heap.size ≤ gl by rw [hg_L]; exact below_size HB.out); have EL := Aside0.mk hg_L; have hcL0 : w7.cell? ⟨gl, 0, none⟩ = some (.int .i64 0) := (blk_cell hbox_ 0).trans rfl; have hfL0 := blk_frozen hbox_ 0; have HM := Aside0.mk (HM.out.below hb_); have HJ := Aside0.mk (HJ.out.below hb_); have BR := Aside0.mk (blk_below BR.out hb_); have BMk := Aside0.mk (blk_below BMk.out hb_); have BT := Aside0.mk (blk_below BT.out hb_); replace hcT0 := (hb_.cell (World.block_lt_of_cell? _ _ hcT0)).trans hcT0; replace hfT0 := blk_frozen BT.out 0; have hne1_ : (gt = gl) = False := eq_false (by have := blk_lt BT.out; have := blk_ne BT.out hbox_ (by decide); exact this); have hne2_ : (gl = gt) = False := eq_false (fun e => by have := blk_ne BT.out hbox_ (by decide); exact this e.symm); clear HB hg_L hbox_ hb_; have HB := n0_; clear n0_))
  obtain ⟨gj, hgj⟩ : ∃ gj, gj = w4.heap.size := ⟨_, rfl⟩
  rw [← hgj]
  obtain ⟨w8, hw8⟩ : ∃ w8, w8 = (w7.setCell ⟨gt, 0, none⟩ (.map (some gj))).setCell ⟨gl, 0, none⟩ (.int .i64 0) := ⟨_, rfl⟩
  rw [← hw8]
  have HV8 := Aside0.mk (show VS w w8 gl gr gt gm gj (roomsM l0 l0.length) (lastP l1 0) (takenM l1 0) by
   have HJ' := HJ.out
   have hne := HNE0.out
   rw [← hgj] at HJ' hne
   have far : ∀ {g t : Nat} {cs : Array Value}, w7.heap[g]? = some (.cells cs t (0, 0)) → g ≠ gt → g ≠ gl → w8.heap[g]? = some (.cells cs t (0, 0)) := fun h h1 h2 => by
    rw [hw8]
    exact (Below.heap_setCell _ _ _ _ h2).trans ((Below.heap_setCell _ _ _ _ h1).trans h)
   have m8 : ∀ {b : Nat} {m : Int → Option Value}, MapI w7 b m → MapI w8 b m := fun {b m} h => by
    rw [hw8]
    refine (h.move (Below.heap_setCell w7 ⟨gt, 0, none⟩ (.map (some gj)) b (fun e => h.ne_blk BT.out (by rw [e])))).move (Below.heap_setCell _ ⟨gl, 0, none⟩ _ b (fun e => h.ne_blk BL.out (by rw [e])))
   refine ⟨?_, far BR.out (fun e => by have := blk_ne BR.out BT.out (by decide); exact this e) (fun e => by have := blk_ne BR.out BL.out (by decide); exact this e), ?_, m8 HM.out, m8 HJ', hne.1, ⟨GL.out, hne.2⟩, ?_⟩
   ·rw [hw8]
    exact blk_put ((Below.heap_setCell _ _ _ _ (fun e => by have := blk_ne BL.out BT.out (by decide); exact this e)).trans BL.out) 0 _ rfl
   ·rw [hw8]
    exact (Below.heap_setCell _ _ _ _ (fun e => by have := blk_ne BL.out BT.out (by decide); exact this e.symm)).trans (blk_put BT.out 0 _ rfl)
   ·rw [hw8]
    exact below_set (below_set HB.out GT.out) GL.out)
  have BM8 := Aside0.mk (show w8.heap[gM]? = some (.cells #[.slice A0 l0.length c0, .slice A1 l1.length c1] 25 (0, 0)) by
   rw [hw8]
   exact (Below.heap_setCell _ _ _ _ (fun e => by have := blk_ne BMk.out BL.out (by decide); exact this e)).trans ((Below.heap_setCell _ _ _ _ (fun e => by have := blk_ne BMk.out BT.out (by decide); exact this e)).trans BMk.out))
  have hcM1 : w8.cell? ⟨gM, 1, none⟩ = some (.slice A1 l1.length c1) := (blk_cell BM8.out 1).trans rfl
  clear hw8 hgj HB HM BR BMk HJ BT BL HNE0 GT GL
  go_wp2
  go_loopg [23] l1.length (fun kq v23 wr => ∃ (n : Nat), v23 = .int .i64 n ∧ Aside0 (kq + n = l1.length) ∧ Aside0 (∀ j, j < n → partyAt l0 l1 j = true) ∧ Aside0 (VS w wr gl gr gt gm gj (roomsM l0 l0.length) (lastP l1 n) (takenM l1 n)))
  case atStart => exact ⟨0, rfl, ⟨by omega⟩, ⟨fun j hj => absurd hj (by omega)⟩, HV8⟩
  case round =>
   clear HV8 hcM1 BM8
   obtain ⟨n, rfl, HK, HA, HVR⟩ := hrel
   by_cases hlt : n < l1.length
   ·obtain ⟨i, hi⟩ : ∃ i : Int, i = (n : Int) := ⟨_, rfl⟩
    rw [← hi]
    have HI2 := Aside0.mk (show 0 ≤ i ∧ i < l1.length ∧ i = (n : Int) from ⟨by omega, by omega, hi⟩)
    have d7 : decide (i < (l1.length : Int)) = true := decide_eq_true HI2.out.2.1
    have ci2 : (0 ≤ i) = True := eq_true HI2.out.1
    have ci3 : (i < l1.length) = True := eq_true HI2.out.2.1
    obtain ⟨adp, Ap, cp, ep, hx0, hx1, hx2, hpc, hpC⟩ := at_T46 HR1.out i HI2.out.1 HI2.out.2.1
    subst ep
    obtain ⟨p, hp⟩ : ∃ p, p = rd_T46 l1 i := ⟨_, rfl⟩
    have HPL := Aside0.mk (show p.f2.length ≤ 1000000000000 by rw [hp]; exact HFW.out.2.2 i HI2.out.1 HI2.out.2.1)
    rw [← hp] at hx0 hx1 hx2 hpc hpC
    have HPC := Aside0.mk (And.intro hpc hpC)
    replace hx0 := (HVR.out.below.cell (World.block_lt_of_cell? _ _ hx0)).trans hx0
    replace hx1 := (HVR.out.below.cell (World.block_lt_of_cell? _ _ hx1)).trans hx1
    replace hx2 := (HVR.out.below.cell (World.block_lt_of_cell? _ _ hx2)).trans hx2
    have HP := Aside0.mk (show rd_T46 l1 (n : Int) = p by rw [hp, hi])
    have hz1 : i + 1 ≤ 9223372036854775807 := by have := HI2.out; have := HFW.out.2.1; omega
    have hz2 : -9223372036854775808 ≤ i + 1 := by have := HI2.out; omega
    have HLT := Aside0.mk hlt
    have HPA := Aside0.mk (show partyAt l0 l1 n = partyOk (roomsM l0 l0.length) (lastP l1 n) (takenM l1 n) p.f0 p.f1 p.f2 by unfold partyAt; rw [HP.out])
    clear hi hlt hp hpc hpC
    have HB0 := Aside0.mk (Below.refl wr.heap.size wr)
    go_upto_region 9 with (first | ((with_reducible refine gate_dst (N := 9) rfl ?_); refine box_event ?hg (N := 9) ?hd (cs := #[.int .i64 0, .int .i64 0, .slice none 0 0]) (t := 46) ?hr ?_; (case hd => rfl); (case hg => rfl); (case hr => first | (go_simp; done) | (go_simp; rfl)); intro gp hg_P w9 hbox_ hb_; have n0_ := Aside0.mk (below_step HB0.out hb_); have BP := Aside0.mk hbox_; have GP := Aside0.mk (show wr.heap.size ≤ gp by rw [hg_P]; exact below_size HB0.out); have EP := Aside0.mk hg_P; have hcp0 : w9.cell? ⟨gp, 0, none⟩ = some (.int .i64 0) := (blk_cell hbox_ 0).trans rfl; have hfp0 := blk_frozen hbox_ 0; have hcp1 : w9.cell? ⟨gp, 1, none⟩ = some (.int .i64 0) := (blk_cell hbox_ 1).trans rfl; have hfp1 := blk_frozen hbox_ 1; have hcp2 : w9.cell? ⟨gp, 2, none⟩ = some (.slice none 0 0) := (blk_cell hbox_ 2).trans rfl; have hfp2 := blk_frozen hbox_ 2; replace hx0 := (hb_.cell (World.block_lt_of_cell? _ _ hx0)).trans hx0; replace hx1 := (hb_.cell (World.block_lt_of_cell? _ _ hx1)).trans hx1; replace hx2 := (hb_.cell (World.block_lt_of_cell? _ _ hx2)).trans hx2; clear HB0 hg_P hbox_ hb_; have HB0 := n0_; clear n0_))
    obtain ⟨w10, hw10⟩ : ∃ w10, w10 = ((w9.setCell ⟨gp, 0, none⟩ (.int .i64 p.f0)).setCell ⟨gp, 1, none⟩ (.int .i64 p.f1)).setCell ⟨gp, 2, none⟩ (.slice Ap p.f2.length cp) := ⟨_, rfl⟩
    rw [← hw10]
    have BP10 := Aside0.mk (show w10.heap[gp]? = some (.cells #[.int .i64 p.f0, .int .i64 p.f1, .slice Ap p.f2.length cp] 46 (0, 0)) by rw [hw10]; exact blk_put3 BP.out _ _ _)
    have HV10 := Aside0.mk (HVR.out.later (show Below wr.heap.size wr w10 by rw [hw10]; exact below_put3 HB0.out GP.out _ _ _))
    clear hw10 BP HB0 hcp0 hcp1 hcp2 hfp0 hfp1 hfp2 hx0 hx1 hx2
    have hcp0 : w10.cell? ⟨gp, 0, none⟩ = some (.int .i64 p.f0) := (blk_cell BP10.out 0).trans rfl
    have hcp1 : w10.cell? ⟨gp, 1, none⟩ = some (.int .i64 p.f1) := (blk_cell BP10.out 1).trans rfl
    have hcp2 : w10.cell? ⟨gp, 2, none⟩ = some (.slice Ap p.f2.length cp) := (blk_cell BP10.out 2).trans rfl
    cases hb : partyAt l0 l1 n with
    | false =>
     have HQ := Aside0.mk (marketOk_false HLT.out hb)
     rw [HPA.out] at hb
     have HPB := Aside0.mk hb
     clear hb
     go_wp2_with (first | ((with_reducible refine (valid1_calls w _ p.f0 p.f1 Ap cp p.f2 gl gr gt gm gj (roomsM l0 l0.length) (lastP l1 n) (takenM l1 n) HPC.out.2 HPC.out.1 HPL.out HV10.out).mono ?_); rw [HPB.out]; rintro e w11 ⟨rfl, hb_, hv_⟩; have HB11 := Aside0.mk hb_; have HV11 := Aside0.mk hv_; clear hb_ hv_))
     go_ret
     rw [HQ.out]
     exact ⟨rfl, HB11.out⟩
    | true =>
     have HQ := Aside0.mk hb
     rw [HPA.out] at hb
     have HPB := Aside0.mk hb
     clear hb
     go_wp2_with (first | ((with_reducible refine (valid1_calls w _ p.f0 p.f1 Ap cp p.f2 gl gr gt gm gj (roomsM l0 l0.length) (lastP l1 n) (takenM l1 n) HPC.out.2 HPC.out.1 HPL.out HV10.out).mono ?_); rw [HPB.out]; rintro e w11 ⟨rfl, hb_, hv_⟩; have HB11 := Aside0.mk hb_; have HV11 := Aside0.mk hv_; clear hb_ hv_))
     go_roundg (gk - 1)
     case measure => have := HK.out; have := HLT.out; omega
     case rel =>
      refine ⟨n + 1, ?_, ⟨by have := HK.out; have := HLT.out; omega⟩, ⟨fun j hj => ?_⟩, ⟨?_⟩⟩
      ·have := HI2.out
       first | (rw [show ((n + 1 : Nat) : Int) = i + 1 from by omega]; done) | (simp; omega)
      ·by_cases e : j = n
       ·rw [e]; exact HQ.out
       ·exact HA.out j (by omega)
      ·have h1 := HV11.out (by trivial)
       rw [lastP_succ, HP.out]
       unfold takenM
       rw [foldM_succ]
       simp only [HP.out]
       exact h1
   ·have d7 : decide ((n : Int) < (l1.length : Int)) = false := decide_eq_false (by omega)
    have d7' : decide (n < l1.length) = false := decide_eq_false hlt
    have hnl : n = l1.length := by have := HK.out; omega
    rw [hnl] at HA
    have HQ := Aside0.mk (marketOk_true HX.out HA.out)
    clear hlt hnl
    go_wp2
    go_ret
    rw [HQ.out]
    exact ⟨rfl, HVR.out.below⟩
end
section
open Go.Proofs.YtocbiggglnpeoaaH
def homesM (l : List S46) (n : Nat) : Int → Option Int := foldM (fun j => (rd_T46 l (j : Int)).f0) (fun j => (rd_T46 l (j : Int)).f1) n
def knownM (l : List S84) (n : Nat) : Int → Option Bool := foldM (fun j => (rd_T84 l (j : Int)).f0) (fun _ => true) n
def occM (l : List S46) (n : Nat) : Int → Option Bool := foldM (fun j => (rd_T46 l (j : Int)).f1) (fun j => (rd_T46 l (j : Int)).f1 != 0) n
structure Town (w : World) (base g1 g2 g3 : Nat) (H : Int → Option Int) (K T : Int → Option Bool) : Prop where
 flat : MapI w g1 (mapV vInt H)
 known : MapI w g2 (mapV vBool K)
 taken : MapI w g3 (mapV vBool T)
 lo : base ≤ g1 ∧ base ≤ g2 ∧ base ≤ g3
 ne : g1 ≠ g2 ∧ g1 ≠ g3 ∧ g2 ≠ g3
section
variable {w w' : World} {base g1 g2 g3 : Nat} {H : Int → Option Int} {K T : Int → Option Bool}
theorem Town.later (h : Town w base g1 g2 g3 H K T) (hb : Below w.heap.size w w') : Town w' base g1 g2 g3 H K T := ⟨h.flat.below hb, h.known.below hb, h.taken.below hb, h.lo, h.ne⟩
theorem Town.grown (h : Town w base g1 g2 g3 H K T) {row : Option Nat} (hg : w.grownBy w' row) (n1 : some g1 ≠ row) (n2 : some g2 ≠ row) (n3 : some g3 ≠ row) : Town w' base g1 g2 g3 H K T := ⟨h.flat.kept hg n1, h.known.kept hg n2, h.taken.kept hg n3, h.lo, h.ne⟩
theorem Town.put (h : Town w base g1 g2 g3 H K T) {g t : Nat} {cs : Array Value} (hb : w.heap[g]? = some (.cells cs t (0, 0))) (j : Nat) (u : Value) : Town (w.setCell ⟨g, j, none⟩ u) base g1 g2 g3 H K T :=
 ⟨h.flat.move (Below.heap_setCell _ _ _ _ (fun e => h.flat.ne_blk hb (by rw [e]))), h.known.move (Below.heap_setCell _ _ _ _ (fun e => h.known.ne_blk hb (by rw [e]))), h.taken.move (Below.heap_setCell _ _ _ _ (fun e => h.taken.ne_blk hb (by rw [e]))), h.lo, h.ne⟩
theorem Town.low (h : Town w base g1 g2 g3 H K T) {b : Nat} (hb : b ≤ base) : Town w b g1 g2 g3 H K T := ⟨h.flat, h.known, h.taken, ⟨Nat.le_trans hb h.lo.1, Nat.le_trans hb h.lo.2.1, Nat.le_trans hb h.lo.2.2⟩, h.ne⟩
end
structure TS (w0 w : World) (gR gT g1 g2 g3 : Nat) (H : Int → Option Int) (K T : Int → Option Bool) : Prop where
 res : w.heap[gR]? = some (.cells #[.map none, .map none, .map none] 68 (0, 0))
 cell : w.heap[gT]? = some (.cells #[.map (some g1), .map (some g2), .map (some g3)] 68 (0, 0))
 town : Town w w0.heap.size g1 g2 g3 H K T
 below : Below w0.heap.size w0 w
section
variable {w0 w w' : World} {gR gT g1 g2 g3 : Nat} {H : Int → Option Int} {K T : Int → Option Bool}
theorem TS.later (h : TS w0 w gR gT g1 g2 g3 H K T) (hb : Below w.heap.size w w') : TS w0 w' gR gT g1 g2 g3 H K T := ⟨blk_below h.res hb, blk_below h.cell hb, h.town.later hb, below_step h.below hb⟩
theorem TS.flat (h : TS w0 w gR gT g1 g2 g3 H K T) {k v : Int} (hm : MapI w' g1 (setM (mapV vInt H) k (.int .i64 v))) (hg : w.grownBy w' (some g1)) : TS w0 w' gR gT g1 g2 g3 (upd H k v) K T :=
 ⟨blk_grown h.res hg (h.town.flat.ne_blk h.res), blk_grown h.cell hg (h.town.flat.ne_blk h.cell), ⟨hm.eq (mapV_set vInt H k v), h.town.known.kept hg (fun e => h.town.ne.1 (by cases e; rfl)), h.town.taken.kept hg (fun e => h.town.ne.2.1 (by cases e; rfl)), h.town.lo, h.town.ne⟩, grown_below h.below hg (fun k e => by cases e; exact h.town.lo.1)⟩
theorem TS.known (h : TS w0 w gR gT g1 g2 g3 H K T) {k : Int} {v : Bool} (hm : MapI w' g2 (setM (mapV vBool K) k (.bool v))) (hg : w.grownBy w' (some g2)) : TS w0 w' gR gT g1 g2 g3 H (upd K k v) T :=
 ⟨blk_grown h.res hg (h.town.known.ne_blk h.res), blk_grown h.cell hg (h.town.known.ne_blk h.cell), ⟨h.town.flat.kept hg (fun e => h.town.ne.1 (by cases e; rfl)), hm.eq (mapV_set vBool K k v), h.town.taken.kept hg (fun e => h.town.ne.2.2 (by cases e; rfl)), h.town.lo, h.town.ne⟩, grown_below h.below hg (fun k e => by cases e; exact h.town.lo.2.1)⟩
theorem TS.taken (h : TS w0 w gR gT g1 g2 g3 H K T) {k : Int} {v : Bool} (hm : MapI w' g3 (setM (mapV vBool T) k (.bool v))) (hg : w.grownBy w' (some g3)) : TS w0 w' gR gT g1 g2 g3 H K (upd T k v) :=
 ⟨blk_grown h.res hg (h.town.taken.ne_blk h.res), blk_grown h.cell hg (h.town.taken.ne_blk h.cell), ⟨h.town.flat.kept hg (fun e => h.town.ne.2.1 (by cases e; rfl)), h.town.known.kept hg (fun e => h.town.ne.2.2 (by cases e; rfl)), hm.eq (mapV_set vBool T k v), h.town.lo, h.town.ne⟩, grown_below h.below hg (fun k e => by cases e; exact h.town.lo.2.2)⟩
end
theorem read_calls (A0 : Option Addr) (c0 : Nat) (l0 : List (S84)) (A1 : Option Addr) (c1 : Nat) (l1 : List (S46)) (w : World) (hr0 : Kd.C k84 w A0 l0.length l0) (hc0 : l0.length ≤ c0) (hr1 : Kd.C k46 w A1 l1.length l1) (hc1 : l1.length ≤ c1) (hf : fewM l0 l1 = true) :
  Calls Try.prog 30 #[.agg #[.slice A0 l0.length c0, .slice A1 l1.length c1]] w fun e w' => ∃ m1 m2 m3 : Option Nat, e = .returned (.tuple #[.agg #[.map m1, .map m2, .map m3], .bool (marketOk l0 l1)]) ∧ (marketOk l0 l1 = true → ∃ g1 g2 g3, m1 = some g1 ∧ m2 = some g2 ∧ m3 = some g3 ∧ Town w' w.heap.size g1 g2 g3 (homesM l1 l1.length) (knownM l0 l0.length) (occM l1 l1.length)) ∧ Below w.heap.size w w' := by
 have hu25 := Try.underlying25
 have hu46 := Try.underlying46
 have hu84 := Try.underlying84
 have hu68 := Try.underlying68
 have hu65 := Try.underlying65
 have hu66 := Try.underlying66
 have HFW := Aside0.mk (fewM_at hf)
 have HVF := Aside0.mk (show market_Valid.f l0 l1 = some (marketOk l0 l1) by unfold market_Valid.f; rw [if_pos hf])
 have HR0 := Aside0.mk hr0
 have HC0 := Aside0.mk hc0
 have HR1 := Aside0.mk hr1
 have HC1 := Aside0.mk hc1
 have HB := Aside0.mk (Below.refl w.heap.size w)
 have hmm := @run_makeMap Try.prog
 clear hr0 hc0 hr1 hc1 hf
 cases hx : marketOk l0 l1 with
 | false =>
  rw [hx] at HVF
  clear hx
  go_enter Try.func30, Try.ntmps30
  go_wp2_with (first | ((with_reducible refine gate_dst (N := 1) rfl ?_); refine box_event ?hg (N := 1) ?hd (cs := #[.slice A0 l0.length c0, .slice A1 l1.length c1]) (t := 25) ?hr ?_; (case hd => rfl); (case hg => rfl); (case hr => first | (go_simp; done) | (go_simp; rfl)); intro gM hg_M w1 hbox_ hb_; have n0_ := Aside0.mk (below_step HB.out hb_); have BM := Aside0.mk hbox_; have GM := Aside0.mk (show w.heap.size ≤ gM by rw [hg_M]; exact below_size HB.out); have EM := Aside0.mk hg_M; have hcM0 : w1.cell? ⟨gM, 0, none⟩ = some (.slice A0 l0.length c0) := (blk_cell hbox_ 0).trans rfl; have hfM0 := blk_frozen hbox_ 0; have hcM1 : w1.cell? ⟨gM, 1, none⟩ = some (.slice A1 l1.length c1) := (blk_cell hbox_ 1).trans rfl; have hfM1 := blk_frozen hbox_ 1; have BMk := Aside0.mk hbox_; clear HB hg_M hbox_ hb_; have HB := n0_; clear n0_) | ((with_reducible refine gate_dst (N := 2) rfl ?_); refine box_event ?hg (N := 2) ?hd (cs := #[.map none, .map none, .map none]) (t := 68) ?hr ?_; (case hd => rfl); (case hg => rfl); (case hr => first | (go_simp; done) | (go_simp; rfl)); intro gR hg_R w2 hbox_ hb_; have n0_ := Aside0.mk (below_step HB.out hb_); have BR := Aside0.mk hbox_; have GR := Aside0.mk (show w.heap.size ≤ gR by rw [hg_R]; exact below_size HB.out); have ER := Aside0.mk hg_R; have hcR0 : w2.cell? ⟨gR, 0, none⟩ = some (.map none) := (blk_cell hbox_ 0).trans rfl; have hfR0 := blk_frozen hbox_ 0; have hcR1 : w2.cell? ⟨gR, 1, none⟩ = some (.map none) := (blk_cell hbox_ 1).trans rfl; have hfR1 := blk_frozen hbox_ 1; have hcR2 : w2.cell? ⟨gR, 2, none⟩ = some (.map none) := (blk_cell hbox_ 2).trans rfl; have hfR2 := blk_frozen hbox_ 2; have BRr := Aside0.mk hbox_; have BMk := Aside0.mk (blk_below BMk.out hb_); replace hcM0 := (hb_.cell (World.block_lt_of_cell? _ _ hcM0)).trans hcM0; replace hcM1 := (hb_.cell (World.block_lt_of_cell? _ _ hcM1)).trans hcM1; clear HB hg_R hbox_ hb_; have HB := n0_; clear n0_) | (go_at_call 22; (with_reducible refine (market_Valid.calls A0 c0 l0 A1 c1 l1 _ _ (Kd.C_below HR0.out HB.out) HC0.out (Kd.C_below HR1.out HB.out) HC1.out HVF.out).mono ?_); rintro e w3 ⟨rfl, hb_⟩; have BMk := Aside0.mk (blk_below BMk.out hb_); have BRr := Aside0.mk (blk_below BRr.out hb_); replace hcR0 := (hb_.cell (World.block_lt_of_cell? _ _ hcR0)).trans hcR0; have hfR0 := blk_frozen BRr.out 0; replace hcR1 := (hb_.cell (World.block_lt_of_cell? _ _ hcR1)).trans hcR1; have hfR1 := blk_frozen BRr.out 1; replace hcR2 := (hb_.cell (World.block_lt_of_cell? _ _ hcR2)).trans hcR2; have hfR2 := blk_frozen BRr.out 2; have n0_ := Aside0.mk (below_step HB.out hb_); clear HB hb_; have HB := n0_; clear n0_))
  refine bodyPost_ret (results_ct rfl _ _ gR 68 #[.map none, .map none, .map none] (0, 0) _ rfl (blk_put3 BRr.out _ _ _) Try.underlying68 rfl (by kernel_rfl)) rfl ?_
  exact ⟨none, none, none, rfl, fun h => Bool.noConfusion h, below_put3 HB.out GR.out _ _ _⟩
 | true =>
  rw [hx] at HVF
  clear hx
  go_enter Try.func30, Try.ntmps30
  go_upto_region 3 with (first | ((with_reducible refine gate_dst (N := 1) rfl ?_); refine box_event ?hg (N := 1) ?hd (cs := #[.slice A0 l0.length c0, .slice A1 l1.length c1]) (t := 25) ?hr ?_; (case hd => rfl); (case hg => rfl); (case hr => first | (go_simp; done) | (go_simp; rfl)); intro gM hg_M w1 hbox_ hb_; have n0_ := Aside0.mk (below_step HB.out hb_); have BM := Aside0.mk hbox_; have GM := Aside0.mk (show w.heap.size ≤ gM by rw [hg_M]; exact below_size HB.out); have EM := Aside0.mk hg_M; have hcM0 : w1.cell? ⟨gM, 0, none⟩ = some (.slice A0 l0.length c0) := (blk_cell hbox_ 0).trans rfl; have hfM0 := blk_frozen hbox_ 0; have hcM1 : w1.cell? ⟨gM, 1, none⟩ = some (.slice A1 l1.length c1) := (blk_cell hbox_ 1).trans rfl; have hfM1 := blk_frozen hbox_ 1; have BMk := Aside0.mk hbox_; clear HB hg_M hbox_ hb_; have HB := n0_; clear n0_) | ((with_reducible refine gate_dst (N := 2) rfl ?_); refine box_event ?hg (N := 2) ?hd (cs := #[.map none, .map none, .map none]) (t := 68) ?hr ?_; (case hd => rfl); (case hg => rfl); (case hr => first | (go_simp; done) | (go_simp; rfl)); intro gR hg_R w2 hbox_ hb_; have n0_ := Aside0.mk (below_step HB.out hb_); have BR := Aside0.mk hbox_; have GR := Aside0.mk (show w.heap.size ≤ gR by rw [hg_R]; exact below_size HB.out); have ER := Aside0.mk hg_R; have hcR0 : w2.cell? ⟨gR, 0, none⟩ = some (.map none) := (blk_cell hbox_ 0).trans rfl; have hfR0 := blk_frozen hbox_ 0; have hcR1 : w2.cell? ⟨gR, 1, none⟩ = some (.map none) := (blk_cell hbox_ 1).trans rfl; have hfR1 := blk_frozen hbox_ 1; have hcR2 : w2.cell? ⟨gR, 2, none⟩ = some (.map none) := (blk_cell hbox_ 2).trans rfl; have hfR2 := blk_frozen hbox_ 2; have BRr := Aside0.mk hbox_; have BMk := Aside0.mk (blk_below BMk.out hb_); replace hcM0 := (hb_.cell (World.block_lt_of_cell? _ _ hcM0)).trans hcM0; replace hcM1 := (hb_.cell (World.block_lt_of_cell? _ _ hcM1)).trans hcM1; clear HB hg_R hbox_ hb_; have HB := n0_; clear n0_) | (go_at_call 22; (with_reducible refine (market_Valid.calls A0 c0 l0 A1 c1 l1 _ _ (Kd.C_below HR0.out HB.out) HC0.out (Kd.C_below HR1.out HB.out) HC1.out HVF.out).mono ?_); rintro e w3 ⟨rfl, hb_⟩; have BMk := Aside0.mk (blk_below BMk.out hb_); have BRr := Aside0.mk (blk_below BRr.out hb_); replace hcR0 := (hb_.cell (World.block_lt_of_cell? _ _ hcR0)).trans hcR0; have hfR0 := blk_frozen BRr.out 0; replace hcR1 := (hb_.cell (World.block_lt_of_cell? _ _ hcR1)).trans hcR1; have hfR1 := blk_frozen BRr.out 1; replace hcR2 := (hb_.cell (World.block_lt_of_cell? _ _ hcR2)).trans hcR2; have hfR2 := blk_frozen BRr.out 2; have n0_ := Aside0.mk (below_step HB.out hb_); clear HB hb_; have HB := n0_; clear n0_))
  have hb3 : Below w3.heap.size w3 (((w3.alloc (Obj.map #[] 0)).alloc (Obj.map #[] 0)).alloc (Obj.map #[] 0)) := below_alloc (below_alloc (below_alloc (Below.refl _ _) _) _) _
  have hlo := below_size HB.out
  have HT3 := Aside0.mk (show Town (((w3.alloc (Obj.map #[] 0)).alloc (Obj.map #[] 0)).alloc (Obj.map #[] 0)) w.heap.size w3.heap.size (w3.heap.size + 1) (w3.heap.size + 2) (homesM l1 0) (knownM l0 0) (occM l1 0) from by
   have e1 := World.size_alloc w3 (Obj.map #[] 0)
   have e2 := World.size_alloc (w3.alloc (Obj.map #[] 0)) (Obj.map #[] 0)
   have m1 : MapI ((w3.alloc (Obj.map #[] 0)).alloc (Obj.map #[] 0)) (w3.heap.size + 1) (fun _ => none) := by have := MapI.made (w3.alloc (Obj.map #[] 0)); rwa [e1] at this
   have m2 : MapI (((w3.alloc (Obj.map #[] 0)).alloc (Obj.map #[] 0)).alloc (Obj.map #[] 0)) (w3.heap.size + 2) (fun _ => none) := by have := MapI.made ((w3.alloc (Obj.map #[] 0)).alloc (Obj.map #[] 0)); rwa [e2, e1] at this
   exact ⟨(((MapI.made w3).alloc _).alloc _).none_ vInt, (m1.alloc _).none_ vBool, m2.none_ vBool, ⟨by omega, by omega, by omega⟩, ⟨by omega, by omega, by omega⟩⟩)
  have n0_ := Aside0.mk (below_step HB.out hb3)
  have n1_ := Aside0.mk (blk_below BMk.out hb3)
  have n2_ := Aside0.mk (blk_below BRr.out hb3)
  clear HB BMk BRr hb3 hlo hcM0 hcM1 hfM0 hfM1 hcR0 hcR1 hcR2 hfR0 hfR1 hfR2
  have HB := n0_
  have BMk := n1_
  have BRr := n2_
  clear n0_ n1_ n2_
  have HB0 := Aside0.mk (Below.refl (((w3.alloc (Obj.map #[] 0)).alloc (Obj.map #[] 0)).alloc (Obj.map #[] 0)).heap.size (((w3.alloc (Obj.map #[] 0)).alloc (Obj.map #[] 0)).alloc (Obj.map #[] 0)))
  go_upto_region 4 with (first | ((with_reducible refine gate_dst (N := 4) rfl ?_); refine box_event ?hg (N := 4) ?hd (cs := #[.map none, .map none, .map none]) (t := 68) ?hr ?_; (case hd => rfl); (case hg => rfl); (case hr => first | (go_simp; done) | (go_simp; rfl)); intro gT hg_T w4 hbox_ hb_; have n0_ := Aside0.mk (below_step HB0.out hb_); have BT := Aside0.mk hbox_; have GT := Aside0.mk (show (((w3.alloc (Obj.map #[] 0)).alloc (Obj.map #[] 0)).alloc (Obj.map #[] 0)).heap.size ≤ gT by rw [hg_T]; exact below_size HB0.out); have ET := Aside0.mk hg_T; have hcT0 : w4.cell? ⟨gT, 0, none⟩ = some (.map none) := (blk_cell hbox_ 0).trans rfl; have hfT0 := blk_frozen hbox_ 0; have hcT1 : w4.cell? ⟨gT, 1, none⟩ = some (.map none) := (blk_cell hbox_ 1).trans rfl; have hfT1 := blk_frozen hbox_ 1; have hcT2 : w4.cell? ⟨gT, 2, none⟩ = some (.map none) := (blk_cell hbox_ 2).trans rfl; have hfT2 := blk_frozen hbox_ 2; clear HB0 hg_T hbox_ hb_; have HB0 := n0_; clear n0_))
  obtain ⟨g1, hg1⟩ : ∃ g1, g1 = w3.heap.size := ⟨_, rfl⟩
  obtain ⟨g2, hg2⟩ : ∃ g2, g2 = w3.heap.size + 1 := ⟨_, rfl⟩
  obtain ⟨g3, hg3⟩ : ∃ g3, g3 = w3.heap.size + 2 := ⟨_, rfl⟩
  rw [← hg3, ← hg2, ← hg1]
  obtain ⟨w5, hw5⟩ : ∃ w5, w5 = ((w4.setCell ⟨gT, 0, none⟩ (.map (some g1))).setCell ⟨gT, 1, none⟩ (.map (some g2))).setCell ⟨gT, 2, none⟩ (.map (some g3)) := ⟨_, rfl⟩
  rw [← hw5]
  have HS5 := Aside0.mk (show TS w w5 gR gT g1 g2 g3 (homesM l1 0) (knownM l0 0) (occM l1 0) by
   have hT := HT3.out
   rw [← hg3, ← hg2, ← hg1] at hT
   have hne : gR ≠ gT := by have := blk_lt BRr.out; have := GT.out; omega
   refine ⟨?_, ?_, ?_, ?_⟩
   ·rw [hw5]
    exact (Below.heap_setCell _ _ _ _ hne).trans ((Below.heap_setCell _ _ _ _ hne).trans ((Below.heap_setCell _ _ _ _ hne).trans (blk_below BRr.out HB0.out)))
   ·rw [hw5]
    exact blk_put3 BT.out _ _ _
   ·rw [hw5]
    exact (((hT.later HB0.out).put BT.out 0 _).put (blk_put BT.out 0 _ rfl) 1 _).put (blk_put (blk_put BT.out 0 _ rfl) 1 _ rfl) 2 _
   ·rw [hw5]
    exact below_put3 (below_step HB.out HB0.out) (Nat.le_trans (below_size HB.out) GT.out) _ _ _)
  have BM5 := Aside0.mk (show w5.heap[gM]? = some (.cells #[.slice A0 l0.length c0, .slice A1 l1.length c1] 25 (0, 0)) by
   have hne : gM ≠ gT := by have := blk_lt BMk.out; have := GT.out; omega
   rw [hw5]
   exact (Below.heap_setCell _ _ _ _ hne).trans ((Below.heap_setCell _ _ _ _ hne).trans ((Below.heap_setCell _ _ _ _ hne).trans (blk_below BMk.out HB0.out))))
  clear hw5 hg1 hg2 hg3 HT3 HB HB0 BMk BRr BT GT hcT0 hcT1 hcT2 hfT0 hfT1 hfT2
  have hcM0 : w5.cell? ⟨gM, 0, none⟩ = some (.slice A0 l0.length c0) := (blk_cell BM5.out 0).trans rfl
  go_wp2
  go_loopg [20] l0.length (fun kq v20 wr => ∃ (n : Nat), v20 = .int .i64 n ∧ Aside0 (kq + n = l0.length) ∧ Aside0 (wr.heap[gM]? = some (.cells #[.slice A0 l0.length c0, .slice A1 l1.length c1] 25 (0, 0))) ∧ Aside0 (TS w wr gR gT g1 g2 g3 (homesM l1 0) (knownM l0 n) (occM l1 0)))
  case atStart => exact ⟨0, rfl, ⟨by omega⟩, BM5, HS5⟩
  case round =>
   clear HS5 BM5 hcM0
   obtain ⟨n, rfl, HK, BM, HS⟩ := hrel
   by_cases hlt : n < l0.length
   ·obtain ⟨i, hi⟩ : ∃ i : Int, i = (n : Int) := ⟨_, rfl⟩
    rw [← hi]
    have HI2 := Aside0.mk (show 0 ≤ i ∧ i < l0.length ∧ i = (n : Int) from ⟨by omega, by omega, hi⟩)
    have d7 : decide (i < (l0.length : Int)) = true := decide_eq_true HI2.out.2.1
    have ci2 : (0 ≤ i) = True := eq_true HI2.out.1
    have ci3 : (i < l0.length) = True := eq_true HI2.out.2.1
    obtain ⟨adp, ep, hx0, hx1⟩ := at_T84 (Kd.C_below HR0.out HS.out.below) i HI2.out.1 HI2.out.2.1
    subst ep
    obtain ⟨p, hp⟩ : ∃ p, p = rd_T84 l0 i := ⟨_, rfl⟩
    rw [← hp] at hx0 hx1
    have HP := Aside0.mk (show rd_T84 l0 (n : Int) = p by rw [hp, hi])
    have hz1 : i + 1 ≤ 9223372036854775807 := by have := HI2.out; have := HFW.out.1; omega
    have hz2 : -9223372036854775808 ≤ i + 1 := by have := HI2.out; omega
    have HLT := Aside0.mk hlt
    clear hi hlt hp
    have HB0 := Aside0.mk (Below.refl wr.heap.size wr)
    go_upto_region 7 with (first | ((with_reducible refine gate_dst (N := 6) rfl ?_); refine box_event ?hg (N := 6) ?hd (cs := #[.int .i64 0, .int .i64 0]) (t := 84) ?hr ?_; (case hd => rfl); (case hg => rfl); (case hr => first | (go_simp; done) | (go_simp; rfl)); intro gf hg_F w9 hbox_ hb_; have n0_ := Aside0.mk (below_step HB0.out hb_); have BF := Aside0.mk hbox_; have GF := Aside0.mk (show wr.heap.size ≤ gf by rw [hg_F]; exact below_size HB0.out); have EF := Aside0.mk hg_F; have hcf0 : w9.cell? ⟨gf, 0, none⟩ = some (.int .i64 0) := (blk_cell hbox_ 0).trans rfl; have hff0 := blk_frozen hbox_ 0; have hcf1 : w9.cell? ⟨gf, 1, none⟩ = some (.int .i64 0) := (blk_cell hbox_ 1).trans rfl; have hff1 := blk_frozen hbox_ 1; replace hx0 := (hb_.cell (World.block_lt_of_cell? _ _ hx0)).trans hx0; replace hx1 := (hb_.cell (World.block_lt_of_cell? _ _ hx1)).trans hx1; clear HB0 hg_F hbox_ hb_; have HB0 := n0_; clear n0_))
    obtain ⟨w10, hw10⟩ : ∃ w10, w10 = (w9.setCell ⟨gf, 0, none⟩ (.int .i64 p.f0)).setCell ⟨gf, 1, none⟩ (.int .i64 p.f1) := ⟨_, rfl⟩
    rw [← hw10]
    have BF10 := Aside0.mk (show w10.heap[gf]? = some (.cells #[.int .i64 p.f0, .int .i64 p.f1] 84 (0, 0)) by rw [hw10]; exact blk_put2 BF.out _ _)
    have hb10 : Below wr.heap.size wr w10 := by rw [hw10]; exact below_put2 HB0.out GF.out _ _
    have HS10 := Aside0.mk (HS.out.later hb10)
    have BM10 := Aside0.mk (blk_below BM.out hb10)
    clear hw10 hb10 BF HB0 hcf0 hcf1 hff0 hff1 hx0 hx1
    have hcf0 : w10.cell? ⟨gf, 0, none⟩ = some (.int .i64 p.f0) := (blk_cell BF10.out 0).trans rfl
    have hcT1 : w10.cell? ⟨gT, 1, none⟩ = some (.map (some g2)) := (blk_cell HS10.out.cell 1).trans rfl
    go_wp2_with (first | ((with_reducible refine gate_ (op := .mapUpdate 66 (.tmp 25) (.tmp 27) (.const (.bool true))) rfl ?_); refine wpList_storeI _ rfl (.tmp 25) (.tmp 27) (.const (.bool true)) 66 rfl 3 4 Try.underlying66 Try.underlying3 g2 (mapV vBool (knownM l0 n)) rfl HS10.out.town.known p.f0 rfl (.bool true) rfl ?_; intro w11 hm_ hg_; have BM11 := Aside0.mk (blk_grown BM10.out hg_ (HS10.out.town.known.ne_blk BM10.out)); have HS11 := Aside0.mk (show TS w w11 gR gT g1 g2 g3 (homesM l1 0) (knownM l0 (n + 1)) (occM l1 0) by unfold knownM; rw [foldM_succ]; simp only [HP.out]; exact HS10.out.known hm_ hg_); clear hm_ hg_))
    go_roundg (gk - 1)
    case measure => have := HK.out; have := HLT.out; omega
    case rel =>
     refine ⟨n + 1, ?_, ⟨by have := HK.out; have := HLT.out; omega⟩, BM11, HS11⟩
     ·have := HI2.out
      first | (rw [show ((n + 1 : Nat) : Int) = i + 1 from by omega]; done) | (simp; omega)
   ·have d7 : decide ((n : Int) < (l0.length : Int)) = false := decide_eq_false (by omega)
    have d7' : decide (n < l0.length) = false := decide_eq_false hlt
    have hnl : n = l0.length := by have := HK.out; omega
    rw [hnl] at HS
    clear hlt hnl
    have hcM1 : wr.cell? ⟨gM, 1, none⟩ = some (.slice A1 l1.length c1) := (blk_cell BM.out 1).trans rfl
    go_wp2
    go_loopg [32] l1.length (fun kq v32 wr => ∃ (n : Nat), v32 = .int .i64 n ∧ Aside0 (kq + n = l1.length) ∧ Aside0 (TS w wr gR gT g1 g2 g3 (homesM l1 n) (knownM l0 l0.length) (occM l1 n)))
    case atStart => exact ⟨0, rfl, ⟨by omega⟩, HS⟩
    case round =>
     clear HS BM hcM1 HK d7 d7'
     obtain ⟨n, rfl, HK, HS⟩ := hrel
     by_cases hlt : n < l1.length
     ·obtain ⟨i, hi⟩ : ∃ i : Int, i = (n : Int) := ⟨_, rfl⟩
      rw [← hi]
      have HI2 := Aside0.mk (show 0 ≤ i ∧ i < l1.length ∧ i = (n : Int) from ⟨by omega, by omega, hi⟩)
      have d7 : decide (i < (l1.length : Int)) = true := decide_eq_true HI2.out.2.1
      have ci2 : (0 ≤ i) = True := eq_true HI2.out.1
      have ci3 : (i < l1.length) = True := eq_true HI2.out.2.1
      obtain ⟨adp, Ap, cp, ep, hx0, hx1, hx2, hpc, hpC⟩ := at_T46 (Kd.C_below HR1.out HS.out.below) i HI2.out.1 HI2.out.2.1
      subst ep
      obtain ⟨p, hp⟩ : ∃ p, p = rd_T46 l1 i := ⟨_, rfl⟩
      rw [← hp] at hx0 hx1 hx2
      have HP := Aside0.mk (show rd_T46 l1 (n : Int) = p by rw [hp, hi])
      have hz1 : i + 1 ≤ 9223372036854775807 := by have := HI2.out; have := HFW.out.2.1; omega
      have hz2 : -9223372036854775808 ≤ i + 1 := by have := HI2.out; omega
      have HLT := Aside0.mk hlt
      clear hi hlt hp hpc hpC
      have HB0 := Aside0.mk (Below.refl wr.heap.size wr)
      go_upto_region 12 with (first | ((with_reducible refine gate_dst (N := 8) rfl ?_); refine box_event ?hg (N := 8) ?hd (cs := #[.int .i64 0, .int .i64 0, .slice none 0 0]) (t := 46) ?hr ?_; (case hd => rfl); (case hg => rfl); (case hr => first | (go_simp; done) | (go_simp; rfl)); intro gp hg_P w9 hbox_ hb_; have n0_ := Aside0.mk (below_step HB0.out hb_); have BP := Aside0.mk hbox_; have GP := Aside0.mk (show wr.heap.size ≤ gp by rw [hg_P]; exact below_size HB0.out); have EP := Aside0.mk hg_P; have hcp0 : w9.cell? ⟨gp, 0, none⟩ = some (.int .i64 0) := (blk_cell hbox_ 0).trans rfl; have hfp0 := blk_frozen hbox_ 0; have hcp1 : w9.cell? ⟨gp, 1, none⟩ = some (.int .i64 0) := (blk_cell hbox_ 1).trans rfl; have hfp1 := blk_frozen hbox_ 1; have hcp2 : w9.cell? ⟨gp, 2, none⟩ = some (.slice none 0 0) := (blk_cell hbox_ 2).trans rfl; have hfp2 := blk_frozen hbox_ 2; replace hx0 := (hb_.cell (World.block_lt_of_cell? _ _ hx0)).trans hx0; replace hx1 := (hb_.cell (World.block_lt_of_cell? _ _ hx1)).trans hx1; replace hx2 := (hb_.cell (World.block_lt_of_cell? _ _ hx2)).trans hx2; clear HB0 hg_P hbox_ hb_; have HB0 := n0_; clear n0_))
      obtain ⟨w10, hw10⟩ : ∃ w10, w10 = ((w9.setCell ⟨gp, 0, none⟩ (.int .i64 p.f0)).setCell ⟨gp, 1, none⟩ (.int .i64 p.f1)).setCell ⟨gp, 2, none⟩ (.slice Ap p.f2.length cp) := ⟨_, rfl⟩
      rw [← hw10]
      have hb10 : Below wr.heap.size wr w10 := by rw [hw10]; exact below_put3 HB0.out GP.out _ _ _
      have BP10 := Aside0.mk (blk_put3 BP.out (.int .i64 p.f0) (.int .i64 p.f1) (.slice Ap p.f2.length cp))
      rw [← hw10] at BP10
      have HS10 := Aside0.mk (HS.out.later hb10)
      clear hw10 hb10 BP HB0 hcp0 hcp1 hcp2 hfp0 hfp1 hfp2 hx0 hx1 hx2
      have hcp0 : w10.cell? ⟨gp, 0, none⟩ = some (.int .i64 p.f0) := (blk_cell BP10.out 0).trans rfl
      have hcp1 : w10.cell? ⟨gp, 1, none⟩ = some (.int .i64 p.f1) := (blk_cell BP10.out 1).trans rfl
      have hcT0 : w10.cell? ⟨gT, 0, none⟩ = some (.map (some g1)) := (blk_cell HS10.out.cell 0).trans rfl
      go_upto_region 13 with (first | ((with_reducible refine gate_ (op := .mapUpdate 65 (.tmp 37) (.tmp 39) (.tmp 41)) rfl ?_); refine wpList_storeI _ rfl (.tmp 37) (.tmp 39) (.tmp 41) 65 rfl 3 3 Try.underlying65 Try.underlying3 g1 (mapV vInt (homesM l1 n)) rfl HS10.out.town.flat p.f0 rfl (.int .i64 p.f1) rfl ?_; intro w11 hm_ hg_; have BP11 := Aside0.mk (blk_grown BP10.out hg_ (HS10.out.town.flat.ne_blk BP10.out)); have HS11 := Aside0.mk (HS10.out.flat hm_ hg_); clear hm_ hg_))
      clear hcp0 hcp1 hcT0
      have hcp1 : w11.cell? ⟨gp, 1, none⟩ = some (.int .i64 p.f1) := (blk_cell BP11.out 1).trans rfl
      have hcT2 : w11.cell? ⟨gT, 2, none⟩ = some (.map (some g3)) := (blk_cell HS11.out.cell 2).trans rfl
      go_wp2_with (first | ((with_reducible refine gate_ (op := .mapUpdate 66 (.tmp 43) (.tmp 45) (.tmp 48)) rfl ?_); refine wpList_storeI _ rfl (.tmp 43) (.tmp 45) (.tmp 48) 66 rfl 3 4 Try.underlying66 Try.underlying3 g3 (mapV vBool (occM l1 n)) rfl HS11.out.town.taken p.f1 rfl (.bool (p.f1 != 0)) rfl ?_; intro w12 hm_ hg_; have HS12 := Aside0.mk (HS11.out.taken hm_ hg_); clear hm_ hg_))
      go_roundg (gk - 1)
      case measure => have := HK.out; have := HLT.out; omega
      case rel =>
       refine ⟨n + 1, ?_, ⟨by have := HK.out; have := HLT.out; omega⟩, ⟨?_⟩⟩
       ·have := HI2.out
        first | (rw [show ((n + 1 : Nat) : Int) = i + 1 from by omega]; done) | (simp; omega)
       ·unfold homesM occM
        rw [foldM_succ, foldM_succ]
        simp only [HP.out]
        exact HS12.out
     ·have d7 : decide ((n : Int) < (l1.length : Int)) = false := decide_eq_false (by omega)
      have d7' : decide (n < l1.length) = false := decide_eq_false hlt
      have hnl : n = l1.length := by have := HK.out; omega
      rw [hnl] at HS
      clear hlt hnl
      have hcT0 : wr.cell? ⟨gT, 0, none⟩ = some (.map (some g1)) := (blk_cell HS.out.cell 0).trans rfl
      have hcT1 : wr.cell? ⟨gT, 1, none⟩ = some (.map (some g2)) := (blk_cell HS.out.cell 1).trans rfl
      have hcT2 : wr.cell? ⟨gT, 2, none⟩ = some (.map (some g3)) := (blk_cell HS.out.cell 2).trans rfl
      have hcR0 : wr.cell? ⟨gR, 0, none⟩ = some (.map none) := (blk_cell HS.out.res 0).trans rfl
      have hcR1 : wr.cell? ⟨gR, 1, none⟩ = some (.map none) := (blk_cell HS.out.res 1).trans rfl
      have hcR2 : wr.cell? ⟨gR, 2, none⟩ = some (.map none) := (blk_cell HS.out.res 2).trans rfl
      have hfR0 := blk_frozen HS.out.res 0
      have hfR1 := blk_frozen HS.out.res 1
      have hfR2 := blk_frozen HS.out.res 2
      go_wp2
      refine bodyPost_ret (results_ct rfl _ _ gR 68 #[.map (some g1), .map (some g2), .map (some g3)] (0, 0) _ rfl (blk_put3 HS.out.res _ _ _) Try.underlying68 rfl (by kernel_rfl)) rfl ?_
      exact ⟨some g1, some g2, some g3, rfl, fun _ => ⟨g1, g2, g3, rfl, rfl, rfl, (((HS.out.town.put HS.out.res 0 _).put (blk_put HS.out.res 0 _ rfl) 1 _).put (blk_put (blk_put HS.out.res 0 _ rfl) 1 _ rfl) 2 _)⟩, below_put3 HS.out.below GR.out _ _ _⟩
end
section
open Go.Proofs.YtocbiggglnpeoaaH
def fitsB (H : Int → Option Int) (K : Int → Option Bool) (x : S51) : Bool := (H x.f0).isSome && ((H x.f0).getD 0 == x.f1) && (K x.f2).getD false
theorem fits_calls (w : World) (b g1 g2 g3 : Nat) (H : Int → Option Int) (K T : Int → Option Bool) (x : S51) (hT : Town w b g1 g2 g3 H K T) :
  Calls Try.prog 37 #[.agg #[.map (some g1), .map (some g2), .map (some g3)], .agg #[.int .i64 x.f0, .int .i64 x.f1, .int .i64 x.f2]] w fun e w' => e = .returned (.bool (fitsB H K x)) ∧ Below w.heap.size w w' := by
 have hu68 := Try.underlying68
 have hu51 := Try.underlying51
 have HT := Aside0.mk hT
 have HB := Aside0.mk (Below.refl w.heap.size w)
 clear hT
 cases h1 : (H x.f0).isSome with
 | false =>
  have HX := Aside0.mk (show fitsB H K x = false by unfold fitsB; rw [h1]; rfl)
  have HS1 := Aside0.mk h1
  clear h1
  go_enter Try.func37, Try.ntmps37
  go_wp2_with (first | ((with_reducible refine gate_dst (N := 2) rfl ?_); refine box_event ?hg (N := 2) ?hd (cs := #[.map (some g1), .map (some g2), .map (some g3)]) (t := 68) ?hr ?_; (case hd => rfl); (case hg => rfl); (case hr => first | (go_simp; done) | (go_simp; rfl)); intro gT hg_T w1 hbox_ hb_; have n0_ := Aside0.mk (below_step HB.out hb_); have BT := Aside0.mk hbox_; have GT := Aside0.mk (show w.heap.size ≤ gT by rw [hg_T]; exact below_size HB.out); have ET := Aside0.mk hg_T; have hcT0 : w1.cell? ⟨gT, 0, none⟩ = some (.map (some g1)) := (blk_cell hbox_ 0).trans rfl; have hfT0 := blk_frozen hbox_ 0; have hcT1 : w1.cell? ⟨gT, 1, none⟩ = some (.map (some g2)) := (blk_cell hbox_ 1).trans rfl; have hfT1 := blk_frozen hbox_ 1; have hcT2 : w1.cell? ⟨gT, 2, none⟩ = some (.map (some g3)) := (blk_cell hbox_ 2).trans rfl; have hfT2 := blk_frozen hbox_ 2; have HT1 := Aside0.mk (HT.out.later hb_); clear HB hg_T hbox_ hb_; have HB := n0_; clear n0_) | ((with_reducible refine gate_dst (N := 3) rfl ?_); refine box_event ?hg (N := 3) ?hd (cs := #[.int .i64 x.f0, .int .i64 x.f1, .int .i64 x.f2]) (t := 51) ?hr ?_; (case hd => rfl); (case hg => rfl); (case hr => first | (go_simp; done) | (go_simp; rfl)); intro gx hg_X w2 hbox_ hb_; have n0_ := Aside0.mk (below_step HB.out hb_); have BX := Aside0.mk hbox_; have GX := Aside0.mk (show w.heap.size ≤ gx by rw [hg_X]; exact below_size HB.out); have EX := Aside0.mk hg_X; have hcX0 : w2.cell? ⟨gx, 0, none⟩ = some (.int .i64 x.f0) := (blk_cell hbox_ 0).trans rfl; have hfX0 := blk_frozen hbox_ 0; have hcX1 : w2.cell? ⟨gx, 1, none⟩ = some (.int .i64 x.f1) := (blk_cell hbox_ 1).trans rfl; have hfX1 := blk_frozen hbox_ 1; have hcX2 : w2.cell? ⟨gx, 2, none⟩ = some (.int .i64 x.f2) := (blk_cell hbox_ 2).trans rfl; have hfX2 := blk_frozen hbox_ 2; replace hcT0 := (hb_.cell (World.block_lt_of_cell? _ _ hcT0)).trans hcT0; replace hcT1 := (hb_.cell (World.block_lt_of_cell? _ _ hcT1)).trans hcT1; replace hcT2 := (hb_.cell (World.block_lt_of_cell? _ _ hcT2)).trans hcT2; have HT2 := Aside0.mk (HT1.out.later hb_); clear HB hg_X hbox_ hb_; have HB := n0_; clear n0_) | ((with_reducible refine gate_ (op := .lookup 65 (.tmp 9) (.tmp 11) true) rfl ?_); refine wpList_lookI _ rfl (.tmp 9) (.tmp 11) 65 true rfl 3 3 Try.underlying65 Try.underlying3 (Try.zeroValue3 _) g1 (mapV vInt H) rfl HT2.out.flat x.f0 rfl ?_; rw [if_pos rfl, show (Value.int IntKind.i64 0) = vInt 0 from rfl, mapV_get, mapV_some, HS1.out]; dsimp only [vInt]))
  go_ret
  rw [HX.out]
  exact ⟨rfl, HB.out⟩
 | true =>
  have HS1 := Aside0.mk h1
  cases h2 : ((H x.f0).getD 0 == x.f1) with
  | false =>
   have HX := Aside0.mk (show fitsB H K x = false by unfold fitsB; rw [h2, Bool.and_false]; rfl)
   clear h1
   go_enter Try.func37, Try.ntmps37
   go_wp2_with (first | ((with_reducible refine gate_dst (N := 2) rfl ?_); refine box_event ?hg (N := 2) ?hd (cs := #[.map (some g1), .map (some g2), .map (some g3)]) (t := 68) ?hr ?_; (case hd => rfl); (case hg => rfl); (case hr => first | (go_simp; done) | (go_simp; rfl)); intro gT hg_T w1 hbox_ hb_; have n0_ := Aside0.mk (below_step HB.out hb_); have BT := Aside0.mk hbox_; have GT := Aside0.mk (show w.heap.size ≤ gT by rw [hg_T]; exact below_size HB.out); have ET := Aside0.mk hg_T; have hcT0 : w1.cell? ⟨gT, 0, none⟩ = some (.map (some g1)) := (blk_cell hbox_ 0).trans rfl; have hfT0 := blk_frozen hbox_ 0; have hcT1 : w1.cell? ⟨gT, 1, none⟩ = some (.map (some g2)) := (blk_cell hbox_ 1).trans rfl; have hfT1 := blk_frozen hbox_ 1; have hcT2 : w1.cell? ⟨gT, 2, none⟩ = some (.map (some g3)) := (blk_cell hbox_ 2).trans rfl; have hfT2 := blk_frozen hbox_ 2; have HT1 := Aside0.mk (HT.out.later hb_); clear HB hg_T hbox_ hb_; have HB := n0_; clear n0_) | ((with_reducible refine gate_dst (N := 3) rfl ?_); refine box_event ?hg (N := 3) ?hd (cs := #[.int .i64 x.f0, .int .i64 x.f1, .int .i64 x.f2]) (t := 51) ?hr ?_; (case hd => rfl); (case hg => rfl); (case hr => first | (go_simp; done) | (go_simp; rfl)); intro gx hg_X w2 hbox_ hb_; have n0_ := Aside0.mk (below_step HB.out hb_); have BX := Aside0.mk hbox_; have GX := Aside0.mk (show w.heap.size ≤ gx by rw [hg_X]; exact below_size HB.out); have EX := Aside0.mk hg_X; have hcX0 : w2.cell? ⟨gx, 0, none⟩ = some (.int .i64 x.f0) := (blk_cell hbox_ 0).trans rfl; have hfX0 := blk_frozen hbox_ 0; have hcX1 : w2.cell? ⟨gx, 1, none⟩ = some (.int .i64 x.f1) := (blk_cell hbox_ 1).trans rfl; have hfX1 := blk_frozen hbox_ 1; have hcX2 : w2.cell? ⟨gx, 2, none⟩ = some (.int .i64 x.f2) := (blk_cell hbox_ 2).trans rfl; have hfX2 := blk_frozen hbox_ 2; replace hcT0 := (hb_.cell (World.block_lt_of_cell? _ _ hcT0)).trans hcT0; replace hcT1 := (hb_.cell (World.block_lt_of_cell? _ _ hcT1)).trans hcT1; replace hcT2 := (hb_.cell (World.block_lt_of_cell? _ _ hcT2)).trans hcT2; have HT2 := Aside0.mk (HT1.out.later hb_); clear HB hg_X hbox_ hb_; have HB := n0_; clear n0_) | ((with_reducible refine gate_ (op := .lookup 65 (.tmp 9) (.tmp 11) true) rfl ?_); refine wpList_lookI _ rfl (.tmp 9) (.tmp 11) 65 true rfl 3 3 Try.underlying65 Try.underlying3 (Try.zeroValue3 _) g1 (mapV vInt H) rfl HT2.out.flat x.f0 rfl ?_; rw [if_pos rfl, show (Value.int IntKind.i64 0) = vInt 0 from rfl, mapV_get, mapV_some, HS1.out]; dsimp only [vInt]))
   go_ret
   rw [HX.out]
   exact ⟨rfl, HB.out⟩
  | true =>
   have HX := Aside0.mk (show fitsB H K x = (K x.f2).getD false by unfold fitsB; rw [h1, h2]; rfl)
   clear h1
   go_enter Try.func37, Try.ntmps37
   go_wp2_with (first | ((with_reducible refine gate_dst (N := 2) rfl ?_); refine box_event ?hg (N := 2) ?hd (cs := #[.map (some g1), .map (some g2), .map (some g3)]) (t := 68) ?hr ?_; (case hd => rfl); (case hg => rfl); (case hr => first | (go_simp; done) | (go_simp; rfl)); intro gT hg_T w1 hbox_ hb_; have n0_ := Aside0.mk (below_step HB.out hb_); have BT := Aside0.mk hbox_; have GT := Aside0.mk (show w.heap.size ≤ gT by rw [hg_T]; exact below_size HB.out); have ET := Aside0.mk hg_T; have hcT0 : w1.cell? ⟨gT, 0, none⟩ = some (.map (some g1)) := (blk_cell hbox_ 0).trans rfl; have hfT0 := blk_frozen hbox_ 0; have hcT1 : w1.cell? ⟨gT, 1, none⟩ = some (.map (some g2)) := (blk_cell hbox_ 1).trans rfl; have hfT1 := blk_frozen hbox_ 1; have hcT2 : w1.cell? ⟨gT, 2, none⟩ = some (.map (some g3)) := (blk_cell hbox_ 2).trans rfl; have hfT2 := blk_frozen hbox_ 2; have HT1 := Aside0.mk (HT.out.later hb_); clear HB hg_T hbox_ hb_; have HB := n0_; clear n0_) | ((with_reducible refine gate_dst (N := 3) rfl ?_); refine box_event ?hg (N := 3) ?hd (cs := #[.int .i64 x.f0, .int .i64 x.f1, .int .i64 x.f2]) (t := 51) ?hr ?_; (case hd => rfl); (case hg => rfl); (case hr => first | (go_simp; done) | (go_simp; rfl)); intro gx hg_X w2 hbox_ hb_; have n0_ := Aside0.mk (below_step HB.out hb_); have BX := Aside0.mk hbox_; have GX := Aside0.mk (show w.heap.size ≤ gx by rw [hg_X]; exact below_size HB.out); have EX := Aside0.mk hg_X; have hcX0 : w2.cell? ⟨gx, 0, none⟩ = some (.int .i64 x.f0) := (blk_cell hbox_ 0).trans rfl; have hfX0 := blk_frozen hbox_ 0; have hcX1 : w2.cell? ⟨gx, 1, none⟩ = some (.int .i64 x.f1) := (blk_cell hbox_ 1).trans rfl; have hfX1 := blk_frozen hbox_ 1; have hcX2 : w2.cell? ⟨gx, 2, none⟩ = some (.int .i64 x.f2) := (blk_cell hbox_ 2).trans rfl; have hfX2 := blk_frozen hbox_ 2; replace hcT0 := (hb_.cell (World.block_lt_of_cell? _ _ hcT0)).trans hcT0; replace hcT1 := (hb_.cell (World.block_lt_of_cell? _ _ hcT1)).trans hcT1; replace hcT2 := (hb_.cell (World.block_lt_of_cell? _ _ hcT2)).trans hcT2; have HT2 := Aside0.mk (HT1.out.later hb_); clear HB hg_X hbox_ hb_; have HB := n0_; clear n0_) | ((with_reducible refine gate_ (op := .lookup 65 (.tmp 9) (.tmp 11) true) rfl ?_); refine wpList_lookI _ rfl (.tmp 9) (.tmp 11) 65 true rfl 3 3 Try.underlying65 Try.underlying3 (Try.zeroValue3 _) g1 (mapV vInt H) rfl HT2.out.flat x.f0 rfl ?_; rw [if_pos rfl, show (Value.int IntKind.i64 0) = vInt 0 from rfl, mapV_get, mapV_some, HS1.out]; dsimp only [vInt]) | ((with_reducible refine gate_ (op := .lookup 66 (.tmp 24) (.tmp 26) false) rfl ?_); (try (refine gate_guard (by rfl) ?_; dsimp only)); refine wpList_lookI _ rfl (.tmp 24) (.tmp 26) 66 false rfl 3 4 Try.underlying66 Try.underlying3 (Try.zeroValue4 _) g2 (mapV vBool K) rfl HT2.out.known x.f2 rfl ?_; rw [if_neg (by decide), show (Value.bool false) = vBool false from rfl, mapV_get]; dsimp only [vBool]))
   go_ret
   rw [HX.out]
   exact ⟨rfl, HB.out⟩
end
section
theorem slices_Clone_flats.nil_eq (A : Option Addr) (n c : Nat) (W : World) : (binOp .eql 22 (.slice A n c) (.slice none 0 0)).run Try.prog W = .ok (.bool A.isNone) W := by
 have h : ∀ d : Nat, (Op.equalIn (d + 1) 22 (.slice A n c) (.slice none 0 0)).run Try.prog W = .ok A.isNone W := fun d => by
  cases A <;> simp [Op.equalIn, run_underlying Try.underlying22]
 simp only [binOp]
 simp [Op.equal, Op.maxDepth, h 9999]
def slices_Clone_flats.f (l0 : List S84) : Option (List S84) := if l0.length ≤ 4398046511104 then some l0 else none
theorem slices_Clone_flats.calls (A0 : Option Addr) (c0 : Nat) (l0 : List S84) (r : List S84) (w : World) (hr0 : Kd.C k84 w A0 l0.length l0) (hc0 : l0.length ≤ c0) (h : slices_Clone_flats.f l0 = some r) :
  Calls Try.prog 38 #[.slice A0 l0.length c0] w fun e w' => ∃ v0_ : Value, e = .returned v0_ ∧ Kd.R k84 84 w' w.heap.size (fun k_ => w.heap.size ≤ k_) v0_ r ∧ Below w.heap.size w w' := by
 have hu84 := Try.underlying84
 unfold slices_Clone_flats.f at h
 by_cases hg : l0.length ≤ 4398046511104
 case neg => rw [if_neg hg] at h; cases h
 rw [if_pos hg] at h
 have e := Option.some.inj h
 subst e
 clear h
 have HG := Aside0.mk hg
 have HR0 := Aside0.mk hr0
 have HC0 := Aside0.mk hc0
 clear hg hr0 hc0
 have HB := Aside0.mk (Below.refl w.heap.size w)
 cases A0 with
 | none =>
  have e0 : l0 = [] := by
   have h2 := HR0.out.2.2
   cases l0 with
   | nil => rfl
   | cons a t => obtain ⟨ad, hh, _⟩ := h2 (by simp); cases hh
  subst e0
  have hnil : ∀ W, (binOp .eql 22 (.slice none 0 c0) (.slice none 0 0)).run Try.prog W = .ok (.bool true) W := fun W => slices_Clone_flats.nil_eq none _ _ W
  go_enter Try.func38, Try.ntmps38
  go_wp2
  go_ret
  exact ⟨_, rfl, Kd.R_nil _ _ _ _ _, HB.out⟩
 | some ad =>
  have hnil : ∀ W, (binOp .eql 22 (.slice (some ad) l0.length c0) (.slice none 0 0)).run Try.prog W = .ok (.bool false) W := fun W => slices_Clone_flats.nil_eq (some ad) _ _ W
  go_enter Try.func38, Try.ntmps38
  go_wp2_with (first | ((with_reducible refine gate_dst (N := 5) rfl ?_); (try (refine gate_guard (by rfl) ?_; dsimp only)); refine Kd.R_lit k84 _ 84 ?hg (N := 5) ?hd (xs := ([] : List S84)) (inner := []) (ok := fun k_ => w.heap.size ≤ k_) (okp := fun k_ => w.heap.size ≤ k_) ?hr ?hp (fun _ hk => hk) (below_size HB.out) (Below.refl _ _) (Nat.le_refl _) (by simp) ?_; (case hd => rfl); (case hg => rfl); (case hr => first | (go_simp; done) | (go_simp; rfl)); (case hp => exact (Reps.none _ _)); intro v5 w1 ho hb hg_ hnew_; clear hg_ hnew_; have HO5 := Aside0.mk (Kd.R_lower ho (below_size HB.out)); have n1_ := Aside0.mk (below_step HB.out hb); clear HB; have HB := n1_; clear n1_ hb ho) | ((with_reducible refine gate_builtin (b := .append) (xs := #[.tmp 5, .tmp 6]) rfl ?_); at_builtin; refine Kd.R_append_rows k84 (w0 := w) w.heap.size rfl (.tmp 5) (.tmp 6) 22 84 (.agg #[(.int .i64 0), (.int .i64 0)]) 16 rfl Try.underlying22 info84 rfl (by decide) (by omega) v5 ([] : List S84) l0 _ _ _ (fun k_ => w.heap.size ≤ k_) (fun _ => False) rfl rfl HO5.out (Kd.C_below HR0.out HB.out) (fun _ _ h => h) (fun _ h => h.elim) (fun k_ hk_ => Nat.le_trans (below_size HB.out) hk_) HB.out (below_size HB.out) (by have := HG.out; simp only [List.length_nil]; omega) ?_; intro v7 w4 ho hb hg hat; have HO7 := Aside0.mk ho; have n0_ := Aside0.mk hb; clear HB; have HB := n0_; clear n0_ ho hb hg hat))
  go_ret
  exact ⟨_, rfl, HO7.out, HB.out⟩
end
section
def slices_Index_int_int.l0 : Nat → List Int → Int → Int → Int → Option (Int)
 | 0, _, _, _, _ => none
 | k + 1, x0, x1, x7, x8 => if x8 < x7 then (if 0 ≤ x8 then (if x8 < (x0.length : Int) then (if x1 = (rd x0 x8) then (some x8) else (slices_Index_int_int.l0 k x0 x1 x7 (wrap64 (x8 + 1)))) else (none)) else (none)) else (some (-1))
def slices_Index_int_int.f (k : Nat) (l0 : List Int) (a1 : Int) : Option (Int) := slices_Index_int_int.l0 k l0 a1 (l0.length : Int) 0
theorem slices_Index_int_int.calls (k : Nat) (A0 : Option Addr) (c0 : Nat) (l0 : List Int) (a1 : Int) (r : Int) (w : World) (hr0 : Kd.C (Kd.int .i64) w A0 l0.length l0) (hc0 : l0.length ≤ c0) (h : slices_Index_int_int.f k l0 a1 = some r) :
  Calls Try.prog 48 #[.slice A0 l0.length c0, .int .i64 a1] w fun e w' => e = .returned (.int .i64 r) ∧ Drawn0 w w' := by
 have HR0 := Aside0.mk hr0
 have HC0 := Aside0.mk hc0
 clear hr0 hc0
 have H : (slices_Index_int_int.l0 k l0 a1 (l0.length : Int) 0) = some r := h
 clear h
 have H' := Aside0.mk H
 clear H
 go_enter Try.func48, Try.ntmps48
 go_wp2
 go_loopg [8] k (fun kq v8 w' => ∃ (x8_1 : Int), v8 = .int .i64 x8_1 ∧ Aside0 (slices_Index_int_int.l0 kq l0 a1 (l0.length : Int) x8_1 = some r) ∧ Aside0 (kq ≤ k) ∧ Drawn0 w w')
 case atStart => exact ⟨(0), sd_, H', ⟨Nat.le_refl _⟩, by repeat (first | exact Drawn0.refl _ | apply Drawn0.step)⟩
 case round =>
  clear H'
  try clear p2
  obtain ⟨x8_1, rfl, HA, HK1, ⟨m1, rfl⟩⟩ := hrel
  cases gk with
  | zero => exact absurd HA.out (by simp [slices_Index_int_int.l0])
  | succ k1 =>
   have H := HA.out
   clear HA
   simp only [slices_Index_int_int.l0] at H
   by_cases c3 : x8_1 < (l0.length : Int)
   ·rw [if_pos c3] at H
    have c3b0 : decide (x8_1 < (l0.length : Int)) = true := decide_eq_true c3
    clear c3
    by_cases c4 : 0 ≤ x8_1
    ·rw [if_pos c4] at H
     have c4b0 : decide (0 ≤ x8_1) = true := decide_eq_true c4
     clear c4
     by_cases c5 : x8_1 < (l0.length : Int)
     ·rw [if_pos c5] at H
      have c5b0 : decide (x8_1 < (l0.length : Int)) = true := decide_eq_true c5
      clear c5
      by_cases c6 : a1 = (rd l0 x8_1)
      ·rw [if_pos c6] at H
       have c6b0 : (a1 == (rd l0 x8_1)) = true := beq_iff_eq.mpr c6
       have c6b1 : (a1 != (rd l0 x8_1)) = false := bne_eq_false_iff_eq.mpr c6
       clear c6
       obtain rfl := Option.some.inj H
       have p101 : 0 ≤ (x8_1 : Int) := od_
       have q101 : x8_1 < (l0.length : Int) := od_
       obtain ⟨ad101, e101, hx101_0⟩ := Kd.at_int HR0.out x8_1 p101 q101
       cases e101
       replace p101 := eq_true p101
       replace q101 := eq_true q101
       go_wp2
       go_ret
       exact ⟨by first | rfl | (simp; done) | (simp [*]; done), by repeat (first | exact Drawn0.refl _ | apply Drawn0.step)⟩
      ·rw [if_neg c6] at H
       have c6b0 : (a1 == (rd l0 x8_1)) = false := beq_eq_false_iff_ne.mpr c6
       have c6b1 : (a1 != (rd l0 x8_1)) = true := bne_iff_ne.mpr c6
       have H' := Aside0.mk H
       clear H
       have p101 : 0 ≤ (x8_1 : Int) := od_
       have q101 : x8_1 < (l0.length : Int) := od_
       obtain ⟨ad101, e101, hx101_0⟩ := Kd.at_int HR0.out x8_1 p101 q101
       cases e101
       replace p101 := eq_true p101
       replace q101 := eq_true q101
       go_wp2
       go_roundg k1
       case measure => have := HK1.out; omega
       case rel => exact ⟨(wrap64 (x8_1 + 1)), sd_, H', ⟨by have := HK1.out; omega⟩, by repeat (first | exact Drawn0.refl _ | apply Drawn0.step)⟩
     ·rw [if_neg c5] at H
      exact absurd H (by simp)
    ·rw [if_neg c4] at H
     exact absurd H (by simp)
   ·rw [if_neg c3] at H
    have c3b0 : decide (x8_1 < (l0.length : Int)) = false := decide_eq_false c3
    clear c3
    obtain rfl := Option.some.inj H
    go_wp2
    go_ret
    exact ⟨by first | rfl | (simp; done) | (simp [*]; done), by repeat (first | exact Drawn0.refl _ | apply Drawn0.step)⟩
end
section
def slices_Contains_int_int.f (k : Nat) (l0 : List Int) (a1 : Int) : Option (Bool) := (slices_Index_int_int.f k l0 a1).bind fun t102 => (some (decide (t102 ≥ 0)))
theorem slices_Contains_int_int.calls (k : Nat) (A0 : Option Addr) (c0 : Nat) (l0 : List Int) (a1 : Int) (r : Bool) (w : World) (hr0 : Kd.C (Kd.int .i64) w A0 l0.length l0) (hc0 : l0.length ≤ c0) (h : slices_Contains_int_int.f k l0 a1 = some r) :
  Calls Try.prog 39 #[.slice A0 l0.length c0, .int .i64 a1] w fun e w' => e = .returned (.bool r) ∧ Drawn0 w w' := by
 have HR0 := Aside0.mk hr0
 have HC0 := Aside0.mk hc0
 clear hr0 hc0
 have H : ((slices_Index_int_int.f k l0 a1).bind fun t102 => (some (decide (t102 ≥ 0)))) = some r := h
 clear h
 replace H := Option.bind_eq_some_iff.mp H
 obtain ⟨t102, A30, H⟩ := H
 replace H : (some (decide (t102 ≥ 0))) = some r := H
 have A3 := Aside0.mk A30
 clear A30
 obtain rfl := Option.some.inj H
 go_enter Try.func39, Try.ntmps39
 go_wp2_with (first | ((with_reducible refine gate_callee (f := 48) rfl ?_); refine gl_ (some 7) Try.func48 #[.slice A0 l0.length c0, .int .i64 a1] ?_; (with_reducible refine (slices_Index_int_int.calls k _ _ l0 a1 t102 _ ?side1 ?side2 A3.out).mono ?_); (case side1 => exact cc_ (HR0.out)); (case side2 => exact HC0.out); rintro e w' ⟨rfl, ⟨nd, rfl⟩⟩; refine ⟨_, rfl, ?_⟩))
 go_ret
 exact ⟨by first | rfl | (simp; done) | (simp [*]; done), by repeat (first | exact Drawn0.refl _ | apply Drawn0.step)⟩
end
section
theorem slices_Clone_ints.nil_eq (A : Option Addr) (n c : Nat) (W : World) : (binOp .eql 29 (.slice A n c) (.slice none 0 0)).run Try.prog W = .ok (.bool A.isNone) W := by
 have h : ∀ d : Nat, (Op.equalIn (d + 1) 29 (.slice A n c) (.slice none 0 0)).run Try.prog W = .ok A.isNone W := fun d => by
  cases A <;> simp [Op.equalIn, run_underlying Try.underlying29]
 simp only [binOp]
 simp [Op.equal, Op.maxDepth, h 9999]
def slices_Clone_ints.f (l0 : List Int) : Option (List Int) := if l0.length ≤ 4398046511104 then some l0 else none
theorem slices_Clone_ints.calls (A0 : Option Addr) (c0 : Nat) (l0 : List Int) (r : List Int) (w : World) (hr0 : Kd.C (Kd.int .i64) w A0 l0.length l0) (hc0 : l0.length ≤ c0) (h : slices_Clone_ints.f l0 = some r) :
  Calls Try.prog 40 #[.slice A0 l0.length c0] w fun e w' => ∃ v0_ : Value, e = .returned v0_ ∧ Kd.R (Kd.int .i64) 3 w' w.heap.size (fun k_ => w.heap.size ≤ k_) v0_ r ∧ Below w.heap.size w w' := by
 unfold slices_Clone_ints.f at h
 by_cases hg : l0.length ≤ 4398046511104
 case neg => rw [if_neg hg] at h; cases h
 rw [if_pos hg] at h
 have e := Option.some.inj h
 subst e
 clear h
 have HG := Aside0.mk hg
 have HR0 := Aside0.mk hr0
 have HC0 := Aside0.mk hc0
 clear hg hr0 hc0
 have HB := Aside0.mk (Below.refl w.heap.size w)
 cases A0 with
 | none =>
  have e0 : l0 = [] := by
   have h2 := HR0.out.2.2
   cases l0 with
   | nil => rfl
   | cons a t => obtain ⟨ad, hh, _⟩ := h2 (by simp); cases hh
  subst e0
  have hnil : ∀ W, (binOp .eql 29 (.slice none 0 c0) (.slice none 0 0)).run Try.prog W = .ok (.bool true) W := fun W => slices_Clone_ints.nil_eq none _ _ W
  go_enter Try.func40, Try.ntmps40
  go_wp2
  go_ret
  exact ⟨_, rfl, Kd.R_nil _ _ _ _ _, HB.out⟩
 | some ad =>
  have hnil : ∀ W, (binOp .eql 29 (.slice (some ad) l0.length c0) (.slice none 0 0)).run Try.prog W = .ok (.bool false) W := fun W => slices_Clone_ints.nil_eq (some ad) _ _ W
  go_enter Try.func40, Try.ntmps40
  go_wp2_with (first | ((with_reducible refine gate_dst (N := 5) rfl ?_); (try (refine gate_guard (by rfl) ?_; dsimp only)); refine Kd.R_lit (Kd.int .i64) _ 3 ?hg (N := 5) ?hd (xs := ([] : List Int)) (inner := []) (ok := fun k_ => w.heap.size ≤ k_) (okp := fun k_ => w.heap.size ≤ k_) ?hr ?hp (fun _ hk => hk) (below_size HB.out) (Below.refl _ _) (Nat.le_refl _) (by simp) ?_; (case hd => rfl); (case hg => rfl); (case hr => first | (go_simp; done) | (go_simp; rfl)); (case hp => exact (Reps.none _ _)); intro v5 w1 ho hb hg_ hnew_; clear hg_ hnew_; have HO5 := Aside0.mk (Kd.R_lower ho (below_size HB.out)); have n1_ := Aside0.mk (below_step HB.out hb); clear HB; have HB := n1_; clear n1_ hb ho) | ((with_reducible refine gate_builtin (b := .append) (xs := #[.tmp 5, .tmp 6]) rfl ?_); at_builtin; refine Kd.R_append_rows (Kd.int .i64) (w0 := w) w.heap.size rfl (.tmp 5) (.tmp 6) 29 3 (.int .i64 0) 8 rfl Try.underlying29 info3 rfl (by decide) (by omega) v5 ([] : List Int) l0 _ _ _ (fun k_ => w.heap.size ≤ k_) (fun _ => False) rfl rfl HO5.out (Kd.C_below HR0.out HB.out) (fun _ _ h => h) (fun _ h => h.elim) (fun k_ hk_ => Nat.le_trans (below_size HB.out) hk_) HB.out (below_size HB.out) (by have := HG.out; simp only [List.length_nil]; omega) ?_; intro v7 w4 ho hb hg hat; have HO7 := Aside0.mk ho; have n0_ := Aside0.mk hb; clear HB; have HB := n0_; clear n0_ ho hb hg hat))
  go_ret
  exact ⟨_, rfl, HO7.out, HB.out⟩
end
end Go.Proofs.Ytocbiggglnpeoaa.P
end
