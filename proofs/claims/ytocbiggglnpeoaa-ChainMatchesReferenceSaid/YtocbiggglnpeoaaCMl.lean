/- Part 12 of the base that the seat's proofs share: words, walks and plain laws. -/
import Derived.Test.YtocbiggglnpeoaaCMk
set_option linter.unusedVariables false
set_option linter.unusedSimpArgs false
section
namespace Go.Proofs.Ytocbiggglnpeoaa.M
open Go.RowKit Go.Proofs.YtocbiggglnpeoaaW.PrintWords Go.Proofs.YtocbiggglnpeoaaW.PrintLast Go.Proofs.YtocbiggglnpeoaaW.PrintMore Go.Proofs.YtocbiggglnpeoaaH
open Classical
structure MovesV (fl : List FT) (pa : List PT) (ms : List MT) : Prop where
 fit : ∀ x ∈ ms, Fits fl pa x
 homes : (ms.map (fun x => x.f0)).Nodup
structure GoneV (pa : List PT) (gs : List Int) : Prop where
 party : ∀ k, k < gs.length → ∃ i, i < pa.length ∧ pid pa i = rd gs (k : Int)
 asc : ∀ j k, j < k → k < gs.length → rd gs (j : Int) < rd gs (k : Int)
theorem nodup_index (f : MT → Int) (ms : List MT) : (ms.map f).Nodup ↔ ∀ i j, i < j → j < ms.length → f (mv ms i) ≠ f (mv ms j) := by
 rw [List.Nodup, List.pairwise_iff_getElem]
 simp only [List.length_map, List.getElem_map]
 constructor
 ·intro h i j hij hj
  rw [mv_get ms i (by omega), mv_get ms j hj]
  exact h i j (by omega) hj hij
 ·intro h i j hi hj hij
  rw [← mv_get ms i hi, ← mv_get ms j hj]
  exact h i j hij hj
theorem toM_some {ms : List MT} {h t : Int} {n : Nat} (hn : toM ms n h = some t) : ∃ k, k < n ∧ (mv ms k).f0 = h ∧ (mv ms k).f2 = t := foldM_has _ _ _ _ _ hn
theorem toM_none {ms : List MT} {h : Int} {n : Nat} (hn : toM ms n h = none) : ∀ k, k < n → (mv ms k).f0 ≠ h := foldM_no _ _ _ _ hn
theorem movesB_iff {fl : List FT} {pa : List PT} (hM : Market fl pa) (ms : List MT) : movesB (homesM pa pa.length) (knownM fl fl.length) ms = true ↔ MovesV fl pa ms := by
 unfold movesB stepB
 rw [List.all_eq_true]
 simp only [List.mem_range, Bool.and_eq_true, fits_iff hM, Bool.not_eq_true']
 constructor
 ·intro h
  refine ⟨fun x hx => ?_, (nodup_index _ ms).2 (fun i j hij hj e => ?_)⟩
  ·obtain ⟨k, hk, e⟩ := List.mem_iff_getElem.1 hx
   rw [← e, ← mv_get ms k hk]
   exact (h k hk).2
  ·have h1 := (h j hj).1
   have h2 := (foldM_isSome (fun j : Nat => (rd_T51 ms (j : Int)).f0) (fun j : Nat => (rd_T51 ms (j : Int)).f2) (mv ms j).f0 j).2 ⟨i, hij, e⟩
   have h3 : (toM ms j (mv ms j).f0).isSome = true := h2
   rw [h1] at h3
   cases h3
 ·intro h n hn
  refine ⟨?_, h.fit _ (mv_mem hn)⟩
  cases hx : (toM ms n (rd_T51 ms (n : Int)).f0) with
  | none => rfl
  | some t =>
   obtain ⟨k, hk, e, _⟩ := toM_some hx
   exact absurd e ((nodup_index _ ms).1 h.homes k n hk hn)
theorem goneB_iff {fl : List FT} {pa : List PT} (hM : Market fl pa) (gs : List Int) : goneB (homesM pa pa.length) gs = true ↔ GoneV pa gs := by
 have hsome : ∀ x : Int, (homesM pa pa.length x).isSome = true ↔ ∃ i, i < pa.length ∧ pid pa i = x := fun x => foldM_isSome _ _ _ _
 unfold goneB goneAt
 rw [List.all_eq_true]
 simp only [List.mem_range, Bool.and_eq_true, hsome, Bool.or_eq_true, decide_eq_true_iff]
 have ha := asc_adj (fun n => rd gs (n : Int)) (rd gs 0 - 1) gs.length
 constructor
 ·intro h
  have h2 := ha.1 (fun n hn => by
   by_cases e : n = 0
   ·subst e; rw [if_pos rfl]; show rd gs 0 - 1 < rd gs ((0 : Nat) : Int); have : ((0 : Nat) : Int) = 0 := rfl; rw [this]; omega
   ·rw [if_neg e]
    rcases (h n hn).2 with h1 | h1
    ·exact absurd h1 e
    ·rwa [show ((n : Int) - 1) = ((n - 1 : Nat) : Int) by omega] at h1)
  exact ⟨fun k hk => (h k hk).1, h2.2⟩
 ·intro h n hn
  refine ⟨h.party n hn, ?_⟩
  by_cases e : n = 0
  ·exact .inl e
  ·right
   rw [show ((n : Int) - 1) = ((n - 1 : Nat) : Int) by omega]
   exact h.asc (n - 1) n (by omega) hn
def flA (ms : List MT) (pa : List PT) (i : Nat) : Int := (toM ms ms.length (pid pa i)).getD (pfl pa i)
def stay (gs : List Int) (pa : List PT) (n : Nat) : List Nat := (List.range n).filter (fun i => !gs.contains (pid pa i))
def newP (ms : List MT) (pa : List PT) (i : Nat) : PT := ⟨pid pa i, flA ms pa i, pwt pa i⟩
def kept (ms : List MT) (gs : List Int) (pa : List PT) (n : Nat) : List PT := (stay gs pa n).map (newP ms pa)
theorem stay_succ (gs : List Int) (pa : List PT) (n : Nat) : stay gs pa (n + 1) = stay gs pa n ++ (if pid pa n ∈ gs then [] else [n]) := by
 unfold stay
 rw [List.range_succ, List.filter_append]
 congr 1
 by_cases h : pid pa n ∈ gs <;> simp [h]
theorem mem_stay {gs : List Int} {pa : List PT} {n i : Nat} : i ∈ stay gs pa n ↔ i < n ∧ pid pa i ∉ gs := by
 unfold stay
 simp
def Dist (ms : List MT) (gs : List Int) (pa : List PT) (n : Nat) : Prop := ∀ i j, i < j → j < n → pid pa i ∉ gs → pid pa j ∉ gs → flA ms pa j ≠ 0 → flA ms pa i ≠ flA ms pa j
theorem nxM_spec (ms : List MT) (gs : List Int) (pa : List PT) : ∀ n, n ≤ pa.length → (Dist ms gs pa n → ∃ V, nxM (toM ms ms.length) gs pa n = some (kept ms gs pa n, V) ∧ ∀ x, x ≠ 0 → ((V x).getD false = true ↔ ∃ i, i < n ∧ pid pa i ∉ gs ∧ flA ms pa i = x)) ∧ (¬ Dist ms gs pa n → nxM (toM ms ms.length) gs pa n = none) := by
 intro n
 induction n with
 | zero =>
  intro _
  refine ⟨fun _ => ⟨fun _ => none, rfl, fun x _ => ?_⟩, fun h => absurd (fun i j _ hj => absurd hj (Nat.not_lt_zero _)) h⟩
  constructor
  ·intro h; cases h
  ·rintro ⟨i, hi, _⟩; exact absurd hi (Nat.not_lt_zero _)
 | succ n ih =>
  intro hn
  obtain ⟨h1, h2⟩ := ih (by omega)
  have down : Dist ms gs pa (n + 1) → Dist ms gs pa n := fun h i j hij hj => h i j hij (by omega)
  have hb : nxM (toM ms ms.length) gs pa (n + 1) = (nxM (toM ms ms.length) gs pa n).bind (nxS (toM ms ms.length) gs (rd_T46 pa (n : Int))) := nxM_succ _ _ _ _
  by_cases hd : Dist ms gs pa n
  ·obtain ⟨V, hV, hx⟩ := h1 hd
   rw [hb, hV, Option.bind_some]
   unfold nxS
   by_cases hg : pid pa n ∈ gs
   ·rw [if_pos (by simpa using hg)]
    refine ⟨fun _ => ⟨V, ?_, fun x h0 => ?_⟩, fun hno => absurd (fun i j hij hj hi' hj' => ?_) hno⟩
    ·unfold kept; rw [stay_succ, if_pos hg, List.append_nil]
    ·rw [hx x h0]
     constructor
     ·rintro ⟨i, hi, h⟩; exact ⟨i, by omega, h⟩
     ·rintro ⟨i, hi, hi', e⟩
      by_cases h : i = n
      ·subst h; exact absurd hg hi'
      ·exact ⟨i, by omega, hi', e⟩
    ·by_cases h : j = n
     ·subst h; exact absurd hg hj'
     ·exact hd i j hij (by omega) hi' hj'
   ·rw [if_neg (by simpa using hg)]
    have hfl : (toM ms ms.length (rd_T46 pa (n : Int)).f0).getD (rd_T46 pa (n : Int)).f1 = flA ms pa n := rfl
    simp only [hfl]
    by_cases hc : flA ms pa n ≠ 0 ∧ (V (flA ms pa n)).getD false = true
    ·rw [if_pos hc]
     obtain ⟨i, hi, hi', e⟩ := (hx _ hc.1).1 hc.2
     exact ⟨fun hd' => absurd e (hd' i n hi (by omega) hi' hg hc.1), fun _ => rfl⟩
    ·rw [if_neg hc]
     refine ⟨fun _ => ⟨upd V (flA ms pa n) true, ?_, fun x h0 => ?_⟩, fun hno => absurd (fun i j hij hj hi' hj' h0 => ?_) hno⟩
     ·unfold kept; rw [stay_succ, if_neg hg, List.map_append]; rfl
     ·unfold upd
      by_cases e : x = flA ms pa n
      ·rw [if_pos e]
       exact ⟨fun _ => ⟨n, by omega, hg, e.symm⟩, fun _ => rfl⟩
      ·rw [if_neg e, hx x h0]
       constructor
       ·rintro ⟨i, hi, h⟩; exact ⟨i, by omega, h⟩
       ·rintro ⟨i, hi, hi', e'⟩
        by_cases h : i = n
        ·subst h; exact absurd e'.symm e
        ·exact ⟨i, by omega, hi', e'⟩
     ·by_cases h : j = n
      ·subst h
       intro e
       exact hc ⟨h0, (hx _ h0).2 ⟨i, hij, hi', e⟩⟩
      ·exact hd i j hij (by omega) hi' hj' h0
  ·rw [hb, h2 hd]
   exact ⟨fun h => absurd (down h) hd, fun _ => rfl⟩
theorem nextR_eq (fl : List FT) (pa : List PT) (ms : List MT) (gs : List Int) : nextR fl pa ms gs = if Market fl pa ∧ MovesV fl pa ms ∧ GoneV pa gs then (if Dist ms gs pa pa.length then (fl, kept ms gs pa pa.length, 0) else ([], [], 22)) else ([], [], 1) := by
 unfold nextR
 by_cases h : Market fl pa ∧ MovesV fl pa ms ∧ GoneV pa gs
 ·rw [if_pos h, if_pos ⟨(marketOk_iff fl pa).2 h.1, (movesB_iff h.1 ms).2 h.2.1, (goneB_iff h.1 gs).2 h.2.2⟩]
  obtain ⟨h1, h2⟩ := nxM_spec ms gs pa pa.length (Nat.le_refl _)
  by_cases hd : Dist ms gs pa pa.length
  ·obtain ⟨V, hV, _⟩ := h1 hd
   rw [if_pos hd, hV]
   rfl
  ·rw [if_neg hd, h2 hd]
   rfl
 ·rw [if_neg h, if_neg]
  rintro ⟨h1, h2, h3⟩
  have hm := (marketOk_iff fl pa).1 h1
  exact h ⟨hm, (movesB_iff hm ms).1 h2, (goneB_iff hm gs).1 h3⟩
theorem Next_f {fl : List FT} {pa : List PT} {ms : List MT} {gs : List Int} (h : FewM fl pa) (hm : ms.length ≤ 1000000) (hg : gs.length ≤ 1000000) : chain_Next.f fl pa ms gs = some (nextR fl pa ms gs) := by
 unfold chain_Next.f fewN
 rw [if_pos (by rw [few_M h, Bool.true_and]; exact decide_eq_true ⟨by omega, by omega⟩)]
theorem kept_len (ms : List MT) (gs : List Int) (pa : List PT) (n : Nat) : (kept ms gs pa n).length = (stay gs pa n).length := by unfold kept; rw [List.length_map]
theorem stay_len (gs : List Int) (pa : List PT) (n : Nat) : (stay gs pa n).length ≤ n := by
 unfold stay
 exact Nat.le_trans (List.length_filter_le _ _) (by simp)
theorem kept_at (ms : List MT) (gs : List Int) (pa : List PT) (n : Nat) {a : Nat} (ha : a < (stay gs pa n).length) : rd_T46 (kept ms gs pa n) (a : Int) = newP ms pa ((stay gs pa n)[a]) := by
 rw [pa_get _ a (by rw [kept_len]; exact ha)]
 unfold kept
 rw [List.getElem_map]
theorem stay_at {gs : List Int} {pa : List PT} {n : Nat} {a : Nat} (ha : a < (stay gs pa n).length) : (stay gs pa n)[a] < n ∧ pid pa ((stay gs pa n)[a]) ∉ gs := mem_stay.1 (List.getElem_mem ha)
section
variable {fl : List FT} {pa : List PT} {ms : List MT} {gs : List Int} (hM : Market fl pa) (hV : MovesV fl pa ms)
include hM hV
end
theorem few_kept {fl : List FT} {pa : List PT} {ms : List MT} {gs : List Int} (h : FewM fl pa) : FewM fl (kept ms gs pa pa.length) := by
 have hl := kept_len ms gs pa pa.length
 have hs := stay_len gs pa pa.length
 refine ⟨h.f, by have := h.p; omega, fun a ha => ?_⟩
 rw [hl] at ha
 show (rd_T46 _ (a : Int)).f2.length ≤ 30
 rw [kept_at ms gs pa _ ha]
 exact h.w _ (stay_at ha).1
section
variable {fl : List FT} {pa : List PT} {l : List GT} (hM : Market fl pa) (hR : RingsR fl pa l)
include hM hR
end
end Go.Proofs.Ytocbiggglnpeoaa.M
end
section
namespace Go.Proofs.Ytocbiggglnpeoaa.M
open Go.RowKit Go.Proofs.YtocbiggglnpeoaaW.PrintWords Go.Proofs.YtocbiggglnpeoaaW.PrintLast Go.Proofs.YtocbiggglnpeoaaW.PrintMore Go.Proofs.YtocbiggglnpeoaaH
open Classical
theorem head26 : Ev (fun k => cohousinglaw26_head.f k) true := Ev.of_mono 60 (by kernel_rfl) (fun k => cohousinglaw26_head.mono k)
theorem go_few {rs : List YT} {due : Int} {l : List GT} (hl : l.length ≤ 20) (hm : ∀ i, i < l.length → (rg l i).f1.length ≤ 30) : (goR rs due l l.length).length ≤ 20000 := by
 have h1 := (goR_sub rs due l l.length (Nat.le_refl _)).length_le
 have h2 := ahead_len l (fun i hi => by have := hm i hi; omega) l.length (Nat.le_refl _)
 omega
end Go.Proofs.Ytocbiggglnpeoaa.M
end
section
namespace Go.Proofs.YtocbiggglnpeoaaH
open Go.RowKit Go.ChangeShapes Go.WideShapes Go.Proofs.YtocbiggglnpeoaaW.PrintWords
def Opens {α : Type} (P : Program) (d : Kd α) (t : TypeId) : Prop :=
 ∀ {H : Type} {enc : TypeId × Value → H} {w : World} {base : Nat} {spare : Nat → Bool} {held : Bool} {fuel : Nat} {cs : List Value} {x : DataW H × List MemPlace}, DataW.trod enc P w base spare held fuel t cs = some x → ∃ a : α, d.K w a cs
theorem Opens.int {P : Program} {t : TypeId} {k : IntKind} (h : P.underlying t = some (.int k)) : Opens P (Kd.int k) t := by
 intro H enc w base spare held fuel cs x hx
 obtain ⟨n, rfl, _, _⟩ := DataW.trod_int h hx
 exact ⟨n, rfl⟩
theorem Opens.iso {α β : Type} {P : Program} {d : Kd α} {t : TypeId} (f : β → α) (g : α → β) (hfg : ∀ a, f (g a) = a) (h : Opens P d t) : Opens P (Kd.iso d f) t := by
 intro H enc w base spare held fuel cs x hx
 obtain ⟨a, ha⟩ := h hx
 refine ⟨g a, ?_⟩
 show d.K w (f (g a)) cs
 rw [hfg]
 exact ha
def Segs {β : Type} (P : Program) (d : Kd β) (fs : List Field) (o z : Nat) : Prop :=
 ∀ {H : Type} {enc : TypeId × Value → H} {w : World} {base : Nat} {spare : Nat → Bool} {held : Bool} {fuel : Nat} {cs : List Value}, cs.length = z →
  (∀ f ∈ fs, ∃ x : DataW H × List MemPlace, DataW.trod enc P w base spare held fuel f.type ((cs.drop f.offset).take (P.cellsOf f.type)) = some x) → ∃ b : β, d.K w b (cs.drop o)
theorem Segs.one {α : Type} {P : Program} {d : Kd α} {f : Field} {o z : Nat} (h : Opens P d f.type) (ho : f.offset = o) (hz : z = o + P.cellsOf f.type) : Segs P d [f] o z := by
 intro H enc w base spare held fuel cs hl hf
 obtain ⟨x, hx⟩ := hf f (by simp)
 obtain ⟨a, ha⟩ := h hx
 refine ⟨a, ?_⟩
 rw [ho, List.take_of_length_le (by rw [List.length_drop]; omega)] at ha
 exact ha
theorem Segs.cons {α β : Type} {P : Program} {d : Kd α} {d' : Kd β} {f : Field} {fs : List Field} {o o' z : Nat} (h : Opens P d f.type) (ho : f.offset = o) (ho' : o' = o + P.cellsOf f.type) (hr : Segs P d' fs o' z) : Segs P (Kd.pair d d') (f :: fs) o z := by
 intro H enc w base spare held fuel cs hl hf
 obtain ⟨x, hx⟩ := hf f (by simp)
 obtain ⟨a, ha⟩ := h hx
 obtain ⟨b, hb⟩ := hr hl (fun f' h' => hf f' (List.mem_cons_of_mem _ h'))
 refine ⟨(a, b), _, _, ?_, ha, hb⟩
 rw [ho, ho', ← List.drop_drop, List.take_append_drop]
theorem Opens.struct {β : Type} {P : Program} {d : Kd β} {t : TypeId} {fs : Array Field} (h : P.underlying t = some (.struct fs)) (hr : Segs P d fs.toList 0 (P.cellsOf t)) : Opens P d t := by
 intro H enc w base spare held fuel cs x hx
 obtain ⟨xs, n, _, _, hl, hxl, hf⟩ := DataW.trod_struct h hx
 have := hr (enc := enc) (w := w) (base := base) (spare := spare) (held := held) (fuel := n) (cs := cs) hl (fun f hm => by
  obtain ⟨i, hi, rfl⟩ := List.mem_iff_getElem.1 hm
  have hi' : i < fs.size := by simpa using hi
  have h1 := hf i fs[i] (by simp [hi'])
  refine ⟨xs[i]'(by omega), ?_⟩
  rw [Array.getElem_toList]
  rw [h1]
  simp [hxl, hi'])
 rw [List.drop_zero] at this
 exact this
theorem Opens.row {α : Type} {P : Program} {d : Kd α} {t e : TypeId} (ht : P.underlying t = some (.slice e)) (hsz : P.cellsOf e = d.sz) (he : Opens P d e) {H : Type} {enc : TypeId × Value → H} {w : World} {base : Nat} {spare : Nat → Bool} {held : Bool} {fuel : Nat} {cs : List Value} {x : DataW H × List MemPlace}
  (hx : DataW.trod enc P w base spare held fuel t cs = some x) : ∃ A len cap, cs = [.slice A len cap] ∧ ∃ xs : List α, xs.length = len ∧ len ≤ cap ∧ d.C w A len xs := by
 rcases Deep.open_slice ht hx with ⟨rfl, _⟩ | ⟨a, len, cap, m, n, D, Pl, rfl, _, hl, hm, hmm, _, hel⟩
 ·exact ⟨none, 0, 0, rfl, [], rfl, Nat.le_refl _, rfl, by omega, fun h => absurd h (Nat.lt_irrefl _)⟩
 ·have hlm : len ≤ m := by rw [hmm]; split <;> omega
  have each : ∀ i, i < len → ∃ a' : α, ∃ cs', cs'.length = d.sz ∧ d.K w a' cs' ∧ ∀ j u, cs'[j]? = some u → w.cell? (a.add (i * d.sz + j)) = some u := by
   intro i hi
   obtain ⟨cs', h1, h2⟩ := hel i (by omega)
   obtain ⟨a', ha'⟩ := he h2
   obtain ⟨_, hlen, hcell⟩ := World.cells?_some h1
   refine ⟨a', cs', by omega, ha', fun j u hj => ?_⟩
   have hjl : j < cs'.length := (List.getElem?_eq_some_iff.1 hj).1
   have := hcell j (by omega)
   rw [Deep.add_add, hsz] at this
   rw [this, hj]
  obtain ⟨xs, hxs⟩ : ∃ xs : List α, xs.length = len ∧ ∀ i (h : i < xs.length), ∃ cs', cs'.length = d.sz ∧ d.K w xs[i] cs' ∧ ∀ j u, cs'[j]? = some u → w.cell? (a.add (i * d.sz + j)) = some u := by
   have key : ∀ k, k ≤ len → ∃ xs : List α, xs.length = k ∧ ∀ i (h : i < xs.length), ∃ cs', cs'.length = d.sz ∧ d.K w xs[i] cs' ∧ ∀ j u, cs'[j]? = some u → w.cell? (a.add (i * d.sz + j)) = some u := by
    intro k
    induction k with
    | zero => intro _; exact ⟨[], rfl, fun i h => absurd h (Nat.not_lt_zero _)⟩
    | succ k ih =>
     intro hk
     obtain ⟨xs, hl, hxs⟩ := ih (by omega)
     obtain ⟨a', ha'⟩ := each k (by omega)
     refine ⟨xs ++ [a'], by simp [hl], fun i h => ?_⟩
     by_cases hi : i < xs.length
     ·rw [List.getElem_append_left hi]
      exact hxs i hi
     ·have e : i = xs.length := by simp at h; omega
      subst e
      rw [List.getElem_append_right (Nat.le_refl _)]
      simp only [Nat.sub_self, List.getElem_cons_zero]
      rw [hl]
      exact ha'
   exact key len (Nat.le_refl _)
  refine ⟨some a, len, cap, rfl, xs, hxs.1, hl, hxs.1, ?_, fun _ => ⟨a, rfl, fun j p hj => ?_⟩⟩
  ·have : maxLen = 2 ^ 63 - 1 := rfl
   omega
  ·obtain ⟨hjl, rfl⟩ := List.getElem?_eq_some_iff.1 hj
   exact hxs.2 j hjl
theorem Opens.slice {α : Type} {P : Program} {d : Kd α} {t e : TypeId} (ht : P.underlying t = some (.slice e)) (hsz : P.cellsOf e = d.sz) (he : Opens P d e) : Opens P (Kd.slice e d) t := by
 intro H enc w base spare held fuel cs x hx
 obtain ⟨A, len, cap, rfl, xs, rfl, hl, hC⟩ := Opens.row ht hsz he hx
 exact ⟨xs, A, cap, rfl, hl, hC⟩
theorem open_arg {α : Type} {P : Program} {d : Kd α} {t e : TypeId} (ht : P.underlying t = some (.slice e)) (hsz : P.cellsOf e = d.sz) (he : Opens P d e) {H : Type} {enc : TypeId × Value → H} {w : World} {base : Nat} {spare : Nat → Bool} {held : Bool} {A : Option Addr} {len cap : Nat} {x : DataW H} {ps : List MemPlace}
  (hx : DataW.Trod enc P w base spare held t (.slice A len cap) x ps) : ∃ xs : List α, xs.length = len ∧ len ≤ cap ∧ d.C w A len xs := by
 obtain ⟨fuel, hf⟩ := hx
 obtain ⟨A', len', cap', e1, r⟩ := Opens.row ht hsz he hf
 simp [Value.cells] at e1
 obtain ⟨rfl, rfl, rfl⟩ := e1
 exact r
theorem open_agg {α : Type} {P : Program} {d : Kd α} {t : TypeId} (he : Opens P d t) {H : Type} {enc : TypeId × Value → H} {w : World} {base : Nat} {spare : Nat → Bool} {held : Bool} {v : Value} {x : DataW H} {ps : List MemPlace}
  (hx : DataW.Trod enc P w base spare held t v x ps) : ∃ a : α, d.K w a v.cells.toList := by
 obtain ⟨fuel, hf⟩ := hx
 exact he hf
theorem sized_arg {H : Type} {enc : TypeId × Value → H} {P : Program} {W : World} {base : Nat} {spare : Nat → Bool} {held : Bool} {t e : TypeId} {a : Option Addr} {len cap : Nat} {d : DataW H} {ps : List MemPlace} {ts : List TypeId} {ds : List (DataW H)} {j : Nat}
  (hsz : (DataW.weightsEach P ts ds).all (· ≤ reachBytes) = true) (ht : ts[j]? = some t) (hd : ds[j]? = some d) (hu : P.underlying t = some (.slice e)) {B : Nat} (hB : P.bytesOf e = B)
  (h : DataW.Trod enc P W base spare held t (.slice a len cap) d ps) : len * B ≤ 140737488351232 := by
 obtain ⟨fuel, hf⟩ := h
 rcases Deep.open_slice hu hf with ⟨hcs, _⟩ | ⟨x, l, c, m, n, D, Pl, hcs, _, hl, _, hm, hx, _⟩
 ·simp [Value.cells] at hcs
  obtain ⟨rfl, rfl, rfl⟩ := hcs
  simp
 ·simp [Value.cells] at hcs
  obtain ⟨rfl, rfl, rfl⟩ := hcs
  obtain ⟨hx, _⟩ := Prod.mk.inj hx
  subst hx
  have z := sized_slice hsz ht hd hu
  rw [hB] at z
  simp only [List.length_map, List.length_range] at z
  exact Nat.le_trans (Nat.mul_le_mul_right _ (Nat.le_add_right _ _)) z
end Go.Proofs.YtocbiggglnpeoaaH
end
section
namespace Go.Proofs.YtocbiggglnpeoaaH
open Go.RowKit Go.ChangeShapes Go.WideShapes Go.Proofs.YtocbiggglnpeoaaW.PrintWords
theorem Opens.bool {P : Program} {t : TypeId} (h : P.underlying t = some .bool) : Opens P Kd.bool t := by
 intro H enc w base spare held fuel cs x hx
 obtain ⟨b, rfl, _⟩ := DataW.trod_bool h hx
 exact ⟨b, rfl⟩
end Go.Proofs.YtocbiggglnpeoaaH
end
section
namespace Go.Proofs.YtocbiggglnpeoaaH
open Go.RowKit Go.ChangeShapes Go.WideShapes Go.Proofs.YtocbiggglnpeoaaW.PrintWords
theorem open_two_rows {α β : Type} {P : Program} {d : Kd α} {d' : Kd β} {t e e' : TypeId} {fs : Array Field} (hu : P.underlying t = some (.struct fs)) (he : Opens P (Kd.pair (Kd.slice e d) (Kd.slice e' d')) t) {H : Type} {enc : TypeId × Value → H} {w : World} {r : Reach} {base : Nat} {spare : Nat → Bool} {held : Bool} {v : Value} {x : DataW H} {ps : List MemPlace}
  (ok : Value.okWide P w r base t v) (hx : DataW.Trod enc P w 0 spare held t v x ps) : ∃ A c A' c', ∃ xs : List α, ∃ ys : List β, v = .agg #[.slice A xs.length c, .slice A' ys.length c'] ∧ d.C w A xs.length xs ∧ xs.length ≤ c ∧ d'.C w A' ys.length ys ∧ ys.length ≤ c' := by
 obtain ⟨cs, rfl, _⟩ := okWide_struct hu ok
 obtain ⟨⟨xs, ys⟩, c1, c2, hcs, ⟨A, cap, h1, hl1, hC1⟩, ⟨A', cap', h2, hl2, hC2⟩⟩ := open_agg he hx
 refine ⟨A, cap, A', cap', xs, ys, ?_, hC1, hl1, hC2, hl2⟩
 have hcs' : cs.toList = c1 ++ c2 := hcs
 rw [h1, h2] at hcs'
 have : cs = (cs.toList).toArray := rfl
 rw [this, hcs']
 rfl
end Go.Proofs.YtocbiggglnpeoaaH
end
