/- Part 10 of the base that the seat's proofs share: words, walks and plain laws. -/
import Derived.Test.YtmhimmodigeeiaaCBi
set_option linter.unusedVariables false
set_option linter.unusedSimpArgs false
section
namespace Go.Proofs.YtmhimmodigeeiaaH
open Go.RowKit Go.ChangeShapes Go.WideShapes Go.Proofs.YtmhimmodigeeiaaW.PrintWords
def Opens {α : Type} (P : Program) (d : Kd α) (t : TypeId) : Prop :=
 ∀ {H : Type} {enc : TypeId × Value → H} {w : World} {base : Nat} {spare : Nat → Bool} {held : Bool} {fuel : Nat} {cs : List Value} {x : DataW H × List MemPlace}, DataW.trod enc P w base spare held fuel t cs = some x → ∃ a : α, d.K w a cs
theorem Opens.int {P : Program} {t : TypeId} {k : IntKind} (h : P.underlying t = some (.int k)) : Opens P (Kd.int k) t := by
 intro H enc w base spare held fuel cs x hx
 obtain ⟨n, rfl, _, _⟩ := DataW.trod_int h hx
 exact ⟨n, rfl⟩
def Segs {β : Type} (P : Program) (d : Kd β) (fs : List Field) (o z : Nat) : Prop :=
 ∀ {H : Type} {enc : TypeId × Value → H} {w : World} {base : Nat} {spare : Nat → Bool} {held : Bool} {fuel : Nat} {cs : List Value}, cs.length = z →
  (∀ f ∈ fs, ∃ x : DataW H × List MemPlace, DataW.trod enc P w base spare held fuel f.type ((cs.drop f.offset).take (P.cellsOf f.type)) = some x) → ∃ b : β, d.K w b (cs.drop o)
theorem Segs.one {α : Type} {P : Program} {d : Kd α} {f : Field} {o z : Nat} (h : Opens P d f.type) (ho : f.offset = o) (hz : z = o + P.cellsOf f.type) : Segs P d [f] o z := by
 intro H enc w base spare held fuel cs hl hf
 obtain ⟨x, hx⟩ := hf f (by simp)
 obtain ⟨a, ha⟩ := h hx
 refine ⟨a, ?_⟩
 rw [ho, List.take_of_length_le (by rw [List.length_drop]; omega)] at ha
 exact ha
theorem Segs.cons {α β : Type} {P : Program} {d : Kd α} {d' : Kd β} {f : Field} {fs : List Field} {o o' z : Nat} (h : Opens P d f.type) (ho : f.offset = o) (ho' : o' = o + P.cellsOf f.type) (hr : Segs P d' fs o' z) : Segs P (Kd.pair d d') (f :: fs) o z := by
 intro H enc w base spare held fuel cs hl hf
 obtain ⟨x, hx⟩ := hf f (by simp)
 obtain ⟨a, ha⟩ := h hx
 obtain ⟨b, hb⟩ := hr hl (fun f' h' => hf f' (List.mem_cons_of_mem _ h'))
 refine ⟨(a, b), _, _, ?_, ha, hb⟩
 rw [ho, ho', ← List.drop_drop, List.take_append_drop]
theorem Opens.struct {β : Type} {P : Program} {d : Kd β} {t : TypeId} {fs : Array Field} (h : P.underlying t = some (.struct fs)) (hr : Segs P d fs.toList 0 (P.cellsOf t)) : Opens P d t := by
 intro H enc w base spare held fuel cs x hx
 obtain ⟨xs, n, _, _, hl, hxl, hf⟩ := DataW.trod_struct h hx
 have := hr (enc := enc) (w := w) (base := base) (spare := spare) (held := held) (fuel := n) (cs := cs) hl (fun f hm => by
  obtain ⟨i, hi, rfl⟩ := List.mem_iff_getElem.1 hm
  have hi' : i < fs.size := by simpa using hi
  have h1 := hf i fs[i] (by simp [hi'])
  refine ⟨xs[i]'(by omega), ?_⟩
  rw [Array.getElem_toList]
  rw [h1]
  simp [hxl, hi'])
 rw [List.drop_zero] at this
 exact this
theorem Opens.row {α : Type} {P : Program} {d : Kd α} {t e : TypeId} (ht : P.underlying t = some (.slice e)) (hsz : P.cellsOf e = d.sz) (he : Opens P d e) {H : Type} {enc : TypeId × Value → H} {w : World} {base : Nat} {spare : Nat → Bool} {held : Bool} {fuel : Nat} {cs : List Value} {x : DataW H × List MemPlace}
  (hx : DataW.trod enc P w base spare held fuel t cs = some x) : ∃ A len cap, cs = [.slice A len cap] ∧ ∃ xs : List α, xs.length = len ∧ len ≤ cap ∧ d.C w A len xs := by
 rcases Deep.open_slice ht hx with ⟨rfl, _⟩ | ⟨a, len, cap, m, n, D, Pl, rfl, _, hl, hm, hmm, _, hel⟩
 ·exact ⟨none, 0, 0, rfl, [], rfl, Nat.le_refl _, rfl, by omega, fun h => absurd h (Nat.lt_irrefl _)⟩
 ·have hlm : len ≤ m := by rw [hmm]; split <;> omega
  have each : ∀ i, i < len → ∃ a' : α, ∃ cs', cs'.length = d.sz ∧ d.K w a' cs' ∧ ∀ j u, cs'[j]? = some u → w.cell? (a.add (i * d.sz + j)) = some u := by
   intro i hi
   obtain ⟨cs', h1, h2⟩ := hel i (by omega)
   obtain ⟨a', ha'⟩ := he h2
   obtain ⟨_, hlen, hcell⟩ := World.cells?_some h1
   refine ⟨a', cs', by omega, ha', fun j u hj => ?_⟩
   have hjl : j < cs'.length := (List.getElem?_eq_some_iff.1 hj).1
   have := hcell j (by omega)
   rw [Deep.add_add, hsz] at this
   rw [this, hj]
  obtain ⟨xs, hxs⟩ : ∃ xs : List α, xs.length = len ∧ ∀ i (h : i < xs.length), ∃ cs', cs'.length = d.sz ∧ d.K w xs[i] cs' ∧ ∀ j u, cs'[j]? = some u → w.cell? (a.add (i * d.sz + j)) = some u := by
   have key : ∀ k, k ≤ len → ∃ xs : List α, xs.length = k ∧ ∀ i (h : i < xs.length), ∃ cs', cs'.length = d.sz ∧ d.K w xs[i] cs' ∧ ∀ j u, cs'[j]? = some u → w.cell? (a.add (i * d.sz + j)) = some u := by
    intro k
    induction k with
    | zero => intro _; exact ⟨[], rfl, fun i h => absurd h (Nat.not_lt_zero _)⟩
    | succ k ih =>
     intro hk
     obtain ⟨xs, hl, hxs⟩ := ih (by omega)
     obtain ⟨a', ha'⟩ := each k (by omega)
     refine ⟨xs ++ [a'], by simp [hl], fun i h => ?_⟩
     by_cases hi : i < xs.length
     ·rw [List.getElem_append_left hi]
      exact hxs i hi
     ·have e : i = xs.length := by simp at h; omega
      subst e
      rw [List.getElem_append_right (Nat.le_refl _)]
      simp only [Nat.sub_self, List.getElem_cons_zero]
      rw [hl]
      exact ha'
   exact key len (Nat.le_refl _)
  refine ⟨some a, len, cap, rfl, xs, hxs.1, hl, hxs.1, ?_, fun _ => ⟨a, rfl, fun j p hj => ?_⟩⟩
  ·have : maxLen = 2 ^ 63 - 1 := rfl
   omega
  ·obtain ⟨hjl, rfl⟩ := List.getElem?_eq_some_iff.1 hj
   exact hxs.2 j hjl
theorem Opens.slice {α : Type} {P : Program} {d : Kd α} {t e : TypeId} (ht : P.underlying t = some (.slice e)) (hsz : P.cellsOf e = d.sz) (he : Opens P d e) : Opens P (Kd.slice e d) t := by
 intro H enc w base spare held fuel cs x hx
 obtain ⟨A, len, cap, rfl, xs, rfl, hl, hC⟩ := Opens.row ht hsz he hx
 exact ⟨xs, A, cap, rfl, hl, hC⟩
theorem open_arg {α : Type} {P : Program} {d : Kd α} {t e : TypeId} (ht : P.underlying t = some (.slice e)) (hsz : P.cellsOf e = d.sz) (he : Opens P d e) {H : Type} {enc : TypeId × Value → H} {w : World} {base : Nat} {spare : Nat → Bool} {held : Bool} {A : Option Addr} {len cap : Nat} {x : DataW H} {ps : List MemPlace}
  (hx : DataW.Trod enc P w base spare held t (.slice A len cap) x ps) : ∃ xs : List α, xs.length = len ∧ len ≤ cap ∧ d.C w A len xs := by
 obtain ⟨fuel, hf⟩ := hx
 obtain ⟨A', len', cap', e1, r⟩ := Opens.row ht hsz he hf
 simp [Value.cells] at e1
 obtain ⟨rfl, rfl, rfl⟩ := e1
 exact r
theorem open_agg {α : Type} {P : Program} {d : Kd α} {t : TypeId} (he : Opens P d t) {H : Type} {enc : TypeId × Value → H} {w : World} {base : Nat} {spare : Nat → Bool} {held : Bool} {v : Value} {x : DataW H} {ps : List MemPlace}
  (hx : DataW.Trod enc P w base spare held t v x ps) : ∃ a : α, d.K w a v.cells.toList := by
 obtain ⟨fuel, hf⟩ := hx
 exact he hf
end Go.Proofs.YtmhimmodigeeiaaH
end
section
namespace Go.Proofs.YtmhimmodigeeiaaH
open Go.RowKit Go.ChangeShapes Go.WideShapes Go.Proofs.YtmhimmodigeeiaaW.PrintWords
theorem Opens.bool {P : Program} {t : TypeId} (h : P.underlying t = some .bool) : Opens P Kd.bool t := by
 intro H enc w base spare held fuel cs x hx
 obtain ⟨b, rfl, _⟩ := DataW.trod_bool h hx
 exact ⟨b, rfl⟩
theorem Opens.intR {P : Program} {t : TypeId} {k : IntKind} (lo hi : Int) (hwf : ∀ {n : Int}, (Lit.int k n).wf = true → lo ≤ n ∧ n ≤ hi) (h : P.underlying t = some (.int k)) : Opens P (Kd.iso (Kd.int k) (fun x : {n : Int // lo ≤ n ∧ n ≤ hi} => x.1)) t := by
 intro H enc w base spare held fuel cs x hx
 obtain ⟨n, rfl, _, hw⟩ := DataW.trod_int h hx
 exact ⟨⟨n, hwf hw⟩, rfl⟩
end Go.Proofs.YtmhimmodigeeiaaH
end
section
namespace Go.Proofs.YtmhimmodigeeiaaH
open Go.RowKit Go.ChangeShapes Go.WideShapes Go.Proofs.YtmhimmodigeeiaaW.PrintWords
theorem C_map {α β : Type} {d : Kd α} {d' : Kd β} (f : α → β) (hs : d'.sz = d.sz) (hK : ∀ w x cs, d.K w x cs → d'.K w (f x) cs) {w : World} {A : Option Addr} {n : Nat} {xs : List α} (h : d.C w A n xs) : d'.C w A n (xs.map f) := by
 refine ⟨by rw [List.length_map]; exact h.1, h.2.1, fun hn => ?_⟩
 obtain ⟨ad, e, hj⟩ := h.2.2 hn
 refine ⟨ad, e, fun j q hq => ?_⟩
 rw [List.getElem?_map] at hq
 obtain ⟨p, hp, rfl⟩ := Option.map_eq_some_iff.1 hq
 obtain ⟨cs, h1, h2, h3⟩ := hj j p hp
 exact ⟨cs, by rw [hs]; exact h1, hK _ _ _ h2, fun i u hu => by rw [hs]; exact h3 i u hu⟩
end Go.Proofs.YtmhimmodigeeiaaH
end
section
namespace Go.Proofs.Ytmhimmodigeeiaa.P
open Go.RowKit Go.ChangeShapes Go.WideShapes Go.Proofs.YtmhimmodigeeiaaH Go.Proofs.YtmhimmodigeeiaaW.PrintWords
set_option linter.unusedVariables false
abbrev I64 := {n : Int // -9223372036854775808 ≤ n ∧ n ≤ 9223372036854775807}
def kI : Kd I64 := Kd.iso (Kd.int .i64) (fun x : I64 => x.1)
def kR2 : Kd (I64 × I64) := Kd.pair kI kI
def kPc : Kd (I64 × ((I64 × I64) × (I64 × I64))) := Kd.pair kI (Kd.pair kR2 kR2)
theorem wf64 {n : Int} (h : (Lit.int .i64 n).wf = true) : -9223372036854775808 ≤ n ∧ n ≤ 9223372036854775807 := by
 simp [Lit.wf, IntKind.min, IntKind.max, IntKind.signed, IntKind.bits] at h ⊢ <;> omega
theorem opI : Opens Try.prog kI 3 := Opens.intR _ _ wf64 Try.underlying3
theorem opR : Opens Try.prog kR2 24 := Opens.struct Try.underlying24 (Segs.cons opI (by rfl) (by kernel_rfl) (Segs.one opI (by rfl) (by kernel_rfl)))
theorem opP : Opens Try.prog kPc 51 := Opens.struct Try.underlying51 (Segs.cons opI (by rfl) (by kernel_rfl) (Segs.cons opR (by rfl) (by kernel_rfl) (Segs.one opR (by rfl) (by kernel_rfl))))
def mkP (x : I64 × ((I64 × I64) × (I64 × I64))) : PC := ⟨x.1.1, ⟨x.2.1.1.1, x.2.1.2.1⟩, ⟨x.2.2.1.1, x.2.2.2.1⟩⟩
theorem open_pieces {H : Type} {enc : TypeId × Value → H} {w : World} {base : Nat} {spare : Nat → Bool} {held : Bool} {A : Option Addr} {len cap : Nat} {x : DataW H} {ps : List MemPlace}
  (hx : DataW.Trod enc Try.prog w base spare held 22 (.slice A len cap) x ps) : ∃ xs : List PC, xs.length = len ∧ len ≤ cap ∧ Kd.C k51 w A len xs ∧ ∀ p ∈ xs, IBP p := by
 obtain ⟨xs, g1, g2, g3⟩ := open_arg (d := kPc) Try.underlying22 (by kernel_rfl) opP hx
 refine ⟨xs.map mkP, by rw [List.length_map]; exact g1, g2, C_map mkP rfl (fun w x cs h => h) g3, fun p hp => ?_⟩
 obtain ⟨z, _, rfl⟩ := List.mem_map.1 hp
 exact ⟨z.1.2, ⟨z.2.1.1.2, z.2.1.2.2⟩, z.2.2.1.2, z.2.2.2.2⟩
theorem open_pair {t : TypeId} {fs : Array Field} (hu : Try.prog.underlying t = some (.struct fs)) (ho : Opens Try.prog kR2 t) {w : World} {r : Reach} {base : Nat} {v : Value} (ok : Value.okWide Try.prog w r base t v) {H : Type} {enc : TypeId × Value → H} {w' : World} {base' : Nat} {spare : Nat → Bool} {held : Bool} {x : DataW H} {ps : List MemPlace}
  (hx : DataW.Trod enc Try.prog w' base' spare held t v x ps) : ∃ a b, v = .agg #[.int .i64 a, .int .i64 b] ∧ IB a ∧ IB b := by
 obtain ⟨cs, rfl, _⟩ := okWide_struct hu ok
 obtain ⟨⟨a, b⟩, c1, c2, hcs, h1, h2⟩ := open_agg ho hx
 refine ⟨a.1, b.1, ?_, a.2, b.2⟩
 have hcs' : cs.toList = c1 ++ c2 := hcs
 have e1 : c1 = [.int .i64 a.1] := h1
 have e2 : c2 = [.int .i64 b.1] := h2
 rw [e1, e2] at hcs'
 have : cs = (cs.toList).toArray := rfl
 rw [this, hcs']
 rfl
end Go.Proofs.Ytmhimmodigeeiaa.P
end
