/- Part 5 of the base that the seat's proofs share: words, walks and plain laws. -/
import Derived.Test.YtocbiggglnpeoaaCMd
set_option linter.unusedVariables false
set_option linter.unusedSimpArgs false
section
namespace Go.Proofs.Ytocbiggglnpeoaa.M
open Go.RowKit Go.Proofs.YtocbiggglnpeoaaW.PrintWords Go.Proofs.YtocbiggglnpeoaaW.PrintLast Go.Proofs.YtocbiggglnpeoaaW.PrintMore
attribute [local go_sem] max2_int min2_int max_two min_two max_three min_three max_four min_four
set_option linter.unusedVariables false
set_option linter.unusedSimpArgs false
open Go.Proofs.YtocbiggglnpeoaaH
theorem rd_dropI (ps : List Int) (f : Nat) (h : f < ps.length) : ps.drop f = rd ps (f : Int) :: ps.drop (f + 1) := by
 rw [List.drop_eq_getElem_cons h]
 congr 1
 simp [rd, List.getD_eq_getElem?_getD, h]
theorem index_l0 (l : List Int) (x : Int) (hl : l.length ≤ 140737488355328) : ∀ (d i k : Nat), i + d = l.length → d < k → ∃ r, slices_Index_int_int.l0 k l x (l.length : Int) (i : Int) = some r ∧ decide (r ≥ 0) = (l.drop i).contains x := by
 intro d
 induction d with
 | zero =>
  intro i k hi hk
  obtain ⟨k, rfl⟩ : ∃ m, k = m + 1 := ⟨k - 1, by omega⟩
  refine ⟨-1, ?_, ?_⟩
  ·simp only [slices_Index_int_int.l0]
   rw [if_neg (by omega)]
  ·rw [List.drop_of_length_le (by omega)]
   rfl
 | succ d ih =>
  intro i k hi hk
  obtain ⟨k, rfl⟩ : ∃ m, k = m + 1 := ⟨k - 1, by omega⟩
  have hlt : i < l.length := by omega
  simp only [slices_Index_int_int.l0]
  rw [if_pos (by omega), if_pos (by omega), if_pos (by omega), rd_dropI l i hlt]
  by_cases e : x = rd l (i : Int)
  ·rw [if_pos e]
   exact ⟨_, rfl, by rw [decide_eq_true (by omega : (i : Int) ≥ 0), List.contains_cons, e]; simp⟩
  rw [if_neg e, show wrap64 ((i : Int) + 1) = ((i + 1 : Nat) : Int) by unfold wrap64; omega]
  obtain ⟨r, h1, h2⟩ := ih (i + 1) k (by omega) (by omega)
  exact ⟨r, h1, by rw [h2, List.contains_cons, beq_eq_false_iff_ne.2 e, Bool.false_or]⟩
theorem contains_f (l : List Int) (x : Int) (hl : l.length ≤ 140737488355328) : slices_Contains_int_int.f (l.length + 1) l x = some (l.contains x) := by
 obtain ⟨r, h1, h2⟩ := index_l0 l x hl l.length 0 (l.length + 1) (by omega) (by omega)
 unfold slices_Contains_int_int.f slices_Index_int_int.f
 have h1' : slices_Index_int_int.l0 (l.length + 1) l x (l.length : Int) 0 = some r := h1
 rw [h1']
 simp only [Option.bind_some]
 rw [h2]
 rfl
def toM (ms : List S51) (n : Nat) : Int → Option Int := foldM (fun j => (rd_T51 ms (j : Int)).f0) (fun j => (rd_T51 ms (j : Int)).f2) n
theorem toM_succ (ms : List S51) (n : Nat) : toM ms (n + 1) = upd (toM ms n) (rd_T51 ms (n : Int)).f0 (rd_T51 ms (n : Int)).f2 := rfl
def stepB (H : Int → Option Int) (K : Int → Option Bool) (ms : List S51) (n : Nat) : Bool := !(toM ms n (rd_T51 ms (n : Int)).f0).isSome && fitsB H K (rd_T51 ms (n : Int))
def movesB (H : Int → Option Int) (K : Int → Option Bool) (ms : List S51) : Bool := (List.range ms.length).all (stepB H K ms)
def goneAt (H : Int → Option Int) (gs : List Int) (n : Nat) : Bool := (H (rd gs (n : Int))).isSome && (decide (n = 0) || decide (rd gs ((n : Int) - 1) < rd gs (n : Int)))
def goneB (H : Int → Option Int) (gs : List Int) : Bool := (List.range gs.length).all (goneAt H gs)
theorem all_false {p : Nat → Bool} {m n : Nat} (hn : n < m) (h : p n = false) : (List.range m).all p = false := by
 rw [List.all_eq_false]
 exact ⟨n, List.mem_range.2 hn, by simp [h]⟩
theorem all_true {p : Nat → Bool} {m : Nat} (h : ∀ j, j < m → p j = true) : (List.range m).all p = true := by
 rw [List.all_eq_true]
 exact fun j hj => h j (List.mem_range.1 hj)
def nxS (M : Int → Option Int) (gs : List Int) (p : S46) (s : List S46 × (Int → Option Bool)) : Option (List S46 × (Int → Option Bool)) :=
 if gs.contains p.f0 = true then some s else if (M p.f0).getD p.f1 ≠ 0 ∧ (s.2 ((M p.f0).getD p.f1)).getD false = true then none else some (s.1 ++ [⟨p.f0, (M p.f0).getD p.f1, p.f2⟩], upd s.2 ((M p.f0).getD p.f1) true)
def nxM (M : Int → Option Int) (gs : List Int) (pa : List S46) : Nat → Option (List S46 × (Int → Option Bool))
 | 0 => some ([], fun _ => none)
 | n + 1 => (nxM M gs pa n).bind (nxS M gs (rd_T46 pa (n : Int)))
theorem nxM_succ (M : Int → Option Int) (gs : List Int) (pa : List S46) (n : Nat) : nxM M gs pa (n + 1) = (nxM M gs pa n).bind (nxS M gs (rd_T46 pa (n : Int))) := rfl
theorem nxM_none {M : Int → Option Int} {gs : List Int} {pa : List S46} {n : Nat} (h : nxM M gs pa n = none) : ∀ d, nxM M gs pa (n + d) = none
 | 0 => h
 | d + 1 => by
  have := nxM_none h d
  show (nxM M gs pa (n + d)).bind _ = none
  rw [this]
  rfl
theorem nxM_len {M : Int → Option Int} {gs : List Int} {pa : List S46} : ∀ {n : Nat} {s : List S46 × (Int → Option Bool)}, nxM M gs pa n = some s → s.1.length ≤ n
 | 0, s, h => by
  have := Option.some.inj h
  rw [← this]
  simp
 | n + 1, s, h => by
  rw [nxM_succ] at h
  obtain ⟨s0, h0, h1⟩ := Option.bind_eq_some_iff.1 h
  have := nxM_len h0
  unfold nxS at h1
  split at h1
  ·have e := Option.some.inj h1
   rw [← e]
   omega
  ·split at h1
   ·cases h1
   ·have e := Option.some.inj h1
    rw [← e, List.length_append]
    simp
    omega
def nxOut (fl : List S84) : Option (List S46 × (Int → Option Bool)) → List S84 × List S46 × Int
 | none => ([], [], 22)
 | some s => (fl, s.1, 0)
def nextR (fl : List S84) (pa : List S46) (ms : List S51) (gs : List Int) : List S84 × List S46 × Int :=
 if marketOk fl pa = true ∧ movesB (homesM pa pa.length) (knownM fl fl.length) ms = true ∧ goneB (homesM pa pa.length) gs = true then nxOut fl (nxM (toM ms ms.length) gs pa pa.length) else ([], [], 1)
def fewN (fl : List S84) (pa : List S46) (ms : List S51) (gs : List Int) : Bool := fewM fl pa && decide (ms.length ≤ 1000000000 ∧ gs.length ≤ 1000000000)
theorem fewN_at {fl : List S84} {pa : List S46} {ms : List S51} {gs : List Int} (h : fewN fl pa ms gs = true) : fewM fl pa = true ∧ ms.length ≤ 1000000000 ∧ gs.length ≤ 1000000000 := by
 unfold fewN at h
 simp only [Bool.and_eq_true, decide_eq_true_iff] at h
 exact ⟨h.1, h.2.1, h.2.2⟩
def chain_Next.f (l0_0 : List (S84)) (l0_1 : List (S46)) (l1 : List (S51)) (l2 : List Int) : Option ((List (S84)) × (List (S46)) × Int) := if fewN l0_0 l0_1 l1 l2 = true then some (nextR l0_0 l0_1 l1 l2) else none
theorem R_grade {α : Type} {d : Kd α} {e : Nat} {w : World} {a b : Nat} {v : Value} {xs : List α} (h : d.R e w b (fun k_ => b ≤ k_) v xs) (hab : a ≤ b) : d.R e w a (fun k_ => a ≤ k_) v xs := Kd.R_lower (Kd.R_mono h (fun _ hk => Nat.le_trans hab hk)) hab
structure NS (w0 w : World) (gO gT g1 g2 g3 gt : Nat) (H : Int → Option Int) (K T : Int → Option Bool) (M : Int → Option Int) : Prop where
 res : w.heap[gO]? = some (.cells #[.slice none 0 0, .slice none 0 0] 25 (0, 0))
 cell : w.heap[gT]? = some (.cells #[.map (some g1), .map (some g2), .map (some g3)] 68 (0, 0))
 town : Town w w0.heap.size g1 g2 g3 H K T
 too : MapI w gt (mapV vInt M)
 ne : g1 ≠ gt ∧ g2 ≠ gt ∧ g3 ≠ gt
 lo : w0.heap.size ≤ gt ∧ w0.heap.size ≤ gO
 below : Below w0.heap.size w0 w
section
variable {w0 w w' : World} {gO gT g1 g2 g3 gt : Nat} {H : Int → Option Int} {K T : Int → Option Bool} {M : Int → Option Int}
theorem NS.later (h : NS w0 w gO gT g1 g2 g3 gt H K T M) (hb : Below w.heap.size w w') : NS w0 w' gO gT g1 g2 g3 gt H K T M := ⟨blk_below h.res hb, blk_below h.cell hb, h.town.later hb, h.too.below hb, h.ne, h.lo, below_step h.below hb⟩
theorem NS.move (h : NS w0 w gO gT g1 g2 g3 gt H K T M) {k v : Int} (hm : MapI w' gt (setM (mapV vInt M) k (.int .i64 v))) (hg : w.grownBy w' (some gt)) : NS w0 w' gO gT g1 g2 g3 gt H K T (upd M k v) :=
 ⟨blk_grown h.res hg (h.too.ne_blk h.res), blk_grown h.cell hg (h.too.ne_blk h.cell), h.town.grown hg (fun e => h.ne.1 (by cases e; rfl)) (fun e => h.ne.2.1 (by cases e; rfl)) (fun e => h.ne.2.2 (by cases e; rfl)), hm.eq (mapV_set vInt M k v), h.ne, h.lo, grown_below h.below hg (fun k e => by cases e; exact h.lo.1)⟩
theorem NS.put (h : NS w0 w gO gT g1 g2 g3 gt H K T M) {g t : Nat} {cs : Array Value} (hb : w.heap[g]? = some (.cells cs t (0, 0))) (hO : gO ≠ g) (ht : t ≠ 68) (hlo : w0.heap.size ≤ g) (j : Nat) (u : Value) : NS w0 (w.setCell ⟨g, j, none⟩ u) gO gT g1 g2 g3 gt H K T M :=
 ⟨(Below.heap_setCell _ _ _ _ hO).trans h.res, (Below.heap_setCell _ _ _ _ (blk_ne h.cell hb (fun e => ht e.symm))).trans h.cell, h.town.put hb j u, h.too.move (Below.heap_setCell _ _ _ _ (fun e => h.too.ne_blk hb (by rw [e]))), h.ne, h.lo, below_set h.below hlo⟩
theorem NS.far (h : NS w0 w gO gT g1 g2 g3 gt H K T M) {b : Nat} {m : Int → Option Value} (hm : MapI w b m) (n1 : g1 ≠ b) (n2 : g2 ≠ b) (n3 : g3 ≠ b) (n4 : gt ≠ b) (hlo : w0.heap.size ≤ b) (hg : w.grownBy w' (some b)) : NS w0 w' gO gT g1 g2 g3 gt H K T M :=
 ⟨blk_grown h.res hg (hm.ne_blk h.res), blk_grown h.cell hg (hm.ne_blk h.cell), h.town.grown hg (fun e => n1 (by cases e; rfl)) (fun e => n2 (by cases e; rfl)) (fun e => n3 (by cases e; rfl)), h.too.kept hg (fun e => n4 (by cases e; rfl)), h.ne, h.lo, grown_below h.below hg (fun k e => by cases e; exact hlo)⟩
end
section
variable {w0 w w' : World} {gO gT g1 g2 g3 gt : Nat} {H : Int → Option Int} {K T : Int → Option Bool} {M : Int → Option Int}
theorem map_row {b e : Nat} {m : Int → Option Value} (hm : MapI w b m) {v : Value} (ht : ∀ k, v.ownBlock = some k → ∃ cells, w.heap[k]? = some (.cells cells e (0, 0))) : some b ≠ v.ownBlock := fun e1 => by
 obtain ⟨cells, hc⟩ := ht b e1.symm
 exact hm.not_cells hc
theorem NS.row (h : NS w0 w gO gT g1 g2 g3 gt H K T M) {v : Value} (ht : ∀ k, v.ownBlock = some k → ∃ cells, w.heap[k]? = some (.cells cells 46 (0, 0))) (hb : ∀ k, v.ownBlock = some k → w0.heap.size ≤ k) (hg : w.grownBy w' v.ownBlock) : NS w0 w' gO gT g1 g2 g3 gt H K T M := by
 have ne : ∀ {g t : Nat} {cs : Array Value}, w.heap[g]? = some (.cells cs t (0, 0)) → t ≠ 46 → some g ≠ v.ownBlock := fun {g t cs} hc hne e1 => by
  obtain ⟨cells, hk⟩ := ht g e1.symm
  exact blk_ne hc hk hne rfl
 exact ⟨blk_grown h.res hg (ne h.res (by decide)), blk_grown h.cell hg (ne h.cell (by decide)), h.town.grown hg (map_row h.town.flat ht) (map_row h.town.known ht) (map_row h.town.taken ht), h.too.kept hg (map_row h.too ht), h.ne, h.lo, grown_below h.below hg hb⟩
end
structure OS_ (w0 w : World) (gO gU : Nat) (vF vP : Value) (gv : Nat) (fl : List S84) (out : List S46) (V : Int → Option Bool) : Prop where
 box : w.heap[gU]? = some (.cells #[vF, vP] 25 (0, 0))
 flats : Kd.R k84 84 w w0.heap.size (fun k_ => w0.heap.size ≤ k_) vF fl
 parties : Kd.S k46 46 w w0.heap.size (fun k_ => (w0.heap.size ≤ k_ ∧ some k_ ≠ vF.ownBlock) ∧ k_ ≠ gO ∧ k_ ≠ gU ∧ k_ ≠ gv) vP out
 taken : MapI w gv (mapV vBool V)
def okN (w0 : World) (gO gU gv : Nat) (vF : Value) (k_ : Nat) : Prop := (w0.heap.size ≤ k_ ∧ some k_ ≠ vF.ownBlock) ∧ k_ ≠ gO ∧ k_ ≠ gU ∧ k_ ≠ gv
theorem OS_.put {w0 w : World} {gO gU gv : Nat} {vF vP : Value} {fl : List S84} {out : List S46} {V : Int → Option Bool} (h : OS_ w0 w gO gU vF vP gv fl out V) {g : Nat} {cs : Array Value} (hb : w.heap[g]? = some (.cells cs 46 (0, 0))) (hU : gU ≠ g) (hn : Kd.S k46 46 w w0.heap.size (fun k_ => okN w0 gO gU gv vF k_ ∧ k_ ≠ g) vP out) (j : Nat) (u : Value) :
  OS_ w0 (w.setCell ⟨g, j, none⟩ u) gO gU vF vP gv fl out V ∧ Kd.S k46 46 (w.setCell ⟨g, j, none⟩ u) w0.heap.size (fun k_ => okN w0 gO gU gv vF k_ ∧ k_ ≠ g) vP out := by
 have h1 := Kd.S_far hn (p := ⟨g, j, none⟩) (fun k hk => hk.2) u
 exact ⟨⟨(Below.heap_setCell _ _ _ _ hU).trans h.box, Kd.R_set h.flats hb (by decide) _ _, Kd.S_mono h1 (fun _ hk => hk.1), h.taken.move (Below.heap_setCell _ _ _ _ (fun e => h.taken.ne_blk hb (by rw [e])))⟩, h1⟩
theorem OS_.later {w0 w w' : World} {gO gU gv : Nat} {vF vP : Value} {fl : List S84} {out : List S46} {V : Int → Option Bool} (h : OS_ w0 w gO gU vF vP gv fl out V) (hb : Below w.heap.size w w') : OS_ w0 w' gO gU vF vP gv fl out V := ⟨blk_below h.box hb, Kd.R_below h.flats hb, Kd.S_below h.parties hb, h.taken.below hb⟩
set_option maxHeartbeats 16000000 in
set_option maxRecDepth 100000 in
theorem next_calls (A0 : Option Addr) (c0 : Nat) (l0 : List (S84)) (A9 : Option Addr) (c9 : Nat) (l9 : List (S46)) (A1 : Option Addr) (c1 : Nat) (l1 : List (S51)) (A2 : Option Addr) (c2 : Nat) (l2 : List Int) (r : List S84 × List S46 × Int) (w : World) (hr0 : Kd.C k84 w A0 l0.length l0) (hc0 : l0.length ≤ c0) (hr9 : Kd.C k46 w A9 l9.length l9) (hc9 : l9.length ≤ c9) (hr1 : Kd.C k51 w A1 l1.length l1) (hc1 : l1.length ≤ c1) (hr2 : Kd.C (Kd.int .i64) w A2 l2.length l2) (hc2 : l2.length ≤ c2) (hf : fewN l0 l9 l1 l2 = true) (hr : r = nextR l0 l9 l1 l2) :
  Calls Try.prog 15 #[.agg #[.slice A0 l0.length c0, .slice A9 l9.length c9], .slice A1 l1.length c1, .slice A2 l2.length c2] w fun e w' => ∃ v0_ v1_ : Value, e = .returned (.tuple #[.agg #[v0_, v1_], .int .i64 r.2.2]) ∧ Kd.R k84 84 w' w.heap.size (fun k_ => w.heap.size ≤ k_) v0_ r.1 ∧ Kd.S k46 46 w' w.heap.size (fun k_ => (w.heap.size ≤ k_) ∧ some k_ ≠ (v0_ : Value).ownBlock) v1_ r.2.1 ∧ Below w.heap.size w w' := by
 have hu25 := Try.underlying25
 have hu68 := Try.underlying68
 have hu51 := Try.underlying51
 have hu46 := Try.underlying46
 obtain ⟨f1, f2, f3⟩ := fewN_at hf
 have HF := mk_ f1
 have HFA := mk_ (fewM_at f1)
 have HF2 := mk_ f2
 have HF3 := mk_ f3
 have HR0 := mk_ hr0
 have HC0 := mk_ hc0
 have HR9 := mk_ hr9
 have HC9 := mk_ hc9
 have HR1 := mk_ hr1
 have HC1 := mk_ hc1
 have HR2 := mk_ hr2
 have HC2 := mk_ hc2
 have HB := mk_ (Below.refl w.heap.size w)
 have HRR := mk_ hr
 have hmm := @run_makeMap Try.prog
 clear hr0 hc0 hr9 hc9 hr1 hc1 hr2 hc2 hf f1 f2 f3 hr
 go_enter Try.func15, Try.ntmps15
 go_upto_region 2 with (first | ((with_reducible refine gate_dst (N := 3) rfl ?_); refine box_event ?hg (N := 3) ?hd (cs := #[.slice A0 l0.length c0, .slice A9 l9.length c9]) (t := 25) ?hr ?_; (case hd => rfl); (case hg => rfl); (case hr => first | (go_simp; done) | (go_simp; rfl)); intro gM hg_M w1 hbox_ hb_; have n0_ := mk_ (below_step HB.out hb_); have BM := mk_ hbox_; have GM := mk_ (show w.heap.size ≤ gM by rw [hg_M]; exact below_size HB.out); have EM := mk_ hg_M; have hcM0 : w1.cell? ⟨gM, 0, none⟩ = some (.slice A0 l0.length c0) := (blk_cell hbox_ 0).trans rfl; have hfM0 := blk_frozen hbox_ 0; have hcM1 : w1.cell? ⟨gM, 1, none⟩ = some (.slice A9 l9.length c9) := (blk_cell hbox_ 1).trans rfl; have hfM1 := blk_frozen hbox_ 1; have BMk := mk_ hbox_; clear HB hg_M hbox_ hb_; have HB := n0_; clear n0_) | ((with_reducible refine gate_dst (N := 6) rfl ?_); refine box_event ?hg (N := 6) ?hd (cs := #[.slice none 0 0, .slice none 0 0]) (t := 25) ?hr ?_; (case hd => rfl); (case hg => rfl); (case hr => first | (go_simp; done) | (go_simp; rfl)); intro gO hg_O w1b hbox_ hb_; have n0_ := mk_ (below_step HB.out hb_); have BO := mk_ hbox_; have GO := mk_ (show w.heap.size ≤ gO by rw [hg_O]; exact below_size HB.out); have EO := mk_ hg_O; have hcO0 : w1b.cell? ⟨gO, 0, none⟩ = some (.slice none 0 0) := (blk_cell hbox_ 0).trans rfl; have hfO0 := blk_frozen hbox_ 0; have hcO1 : w1b.cell? ⟨gO, 1, none⟩ = some (.slice none 0 0) := (blk_cell hbox_ 1).trans rfl; have hfO1 := blk_frozen hbox_ 1; have BOk := mk_ hbox_; have BMk := mk_ (blk_below BMk.out hb_); replace hcM0 := cd_ hb_ hcM0; replace hcM1 := cd_ hb_ hcM1; clear HB hg_O hbox_ hb_; have HB := n0_; clear n0_) | (go_at_call 30; (with_reducible refine (read_calls A0 c0 l0 A9 c9 l9 _ (Kd.C_below HR0.out HB.out) HC0.out (Kd.C_below HR9.out HB.out) HC9.out HF.out).mono ?_); rintro e w2 ⟨m1, m2, m3, rfl, ht_, hb_⟩; have HT := mk_ (show marketOk l0 l9 = true → ∃ g1 g2 g3, m1 = some g1 ∧ m2 = some g2 ∧ m3 = some g3 ∧ Town w2 w.heap.size g1 g2 g3 (homesM l9 l9.length) (knownM l0 l0.length) (occM l9 l9.length) from fun h_ => by obtain ⟨g1, g2, g3, e1_, e2_, e3_, t_⟩ := ht_ h_; exact ⟨g1, g2, g3, e1_, e2_, e3_, t_.low (below_size HB.out)⟩); have BOk := mk_ (blk_below BOk.out hb_); have BMk := mk_ (blk_below BMk.out hb_); replace hcM0 := cd_ hb_ hcM0; replace hcM1 := cd_ hb_ hcM1; have n0_ := mk_ (below_step HB.out hb_); clear HB hb_ ht_; have HB := n0_; clear n0_) | ((with_reducible refine gate_dst (N := 8) rfl ?_); refine box_event ?hg (N := 8) ?hd (cs := #[.map none, .map none, .map none]) (t := 68) ?hr ?_; (case hd => rfl); (case hg => rfl); (case hr => first | (go_simp; done) | (go_simp; rfl)); intro gT hg_T w3 hbox_ hb_; have n0_ := mk_ (below_step HB.out hb_); have BT := mk_ hbox_; have GT := mk_ (show w.heap.size ≤ gT by rw [hg_T]; exact below_size HB.out); have ET := mk_ hg_T; have hcT0 : w3.cell? ⟨gT, 0, none⟩ = some (.map none) := (blk_cell hbox_ 0).trans rfl; have hfT0 := blk_frozen hbox_ 0; have hcT1 : w3.cell? ⟨gT, 1, none⟩ = some (.map none) := (blk_cell hbox_ 1).trans rfl; have hfT1 := blk_frozen hbox_ 1; have hcT2 : w3.cell? ⟨gT, 2, none⟩ = some (.map none) := (blk_cell hbox_ 2).trans rfl; have hfT2 := blk_frozen hbox_ 2; have n2_ := mk_ (show marketOk l0 l9 = true → ∃ g1 g2 g3, m1 = some g1 ∧ m2 = some g2 ∧ m3 = some g3 ∧ Town w3 w.heap.size g1 g2 g3 (homesM l9 l9.length) (knownM l0 l0.length) (occM l9 l9.length) from fun h_ => by obtain ⟨g1, g2, g3, e1_, e2_, e3_, t_⟩ := HT.out h_; exact ⟨g1, g2, g3, e1_, e2_, e3_, t_.later hb_⟩); clear HT; revert n2_; intro HT; have BOk := mk_ (blk_below BOk.out hb_); have BMk := mk_ (blk_below BMk.out hb_); replace hcM0 := cd_ hb_ hcM0; replace hcM1 := cd_ hb_ hcM1; clear HB hg_T hbox_ hb_; have HB := n0_; clear n0_))
 obtain ⟨w4, hw4⟩ : ∃ w4, w4 = ((w3.setCell ⟨gT, 0, none⟩ (.map m1)).setCell ⟨gT, 1, none⟩ (.map m2)).setCell ⟨gT, 2, none⟩ (.map m3) := ⟨_, rfl⟩
 rw [← hw4]
 have far : ∀ {g t : Nat} {cs : Array Value}, w3.heap[g]? = some (.cells cs t (0, 0)) → t ≠ 68 → w4.heap[g]? = some (.cells cs t (0, 0)) := fun {g t cs} h ht => by
  have hne := blk_ne h BT.out ht
  rw [hw4]
  exact (Below.heap_setCell _ _ _ _ hne).trans ((Below.heap_setCell _ _ _ _ hne).trans ((Below.heap_setCell _ _ _ _ hne).trans h))
 have BT4 := mk_ (show w4.heap[gT]? = some (.cells #[.map m1, .map m2, .map m3] 68 (0, 0)) by rw [hw4]; exact blk_put3 BT.out _ _ _)
 have BM4 := mk_ (far BMk.out (by decide))
 have BO4 := mk_ (far BOk.out (by decide))
 have HT4 := mk_ (show marketOk l0 l9 = true → ∃ g1 g2 g3, m1 = some g1 ∧ m2 = some g2 ∧ m3 = some g3 ∧ Town w4 w.heap.size g1 g2 g3 (homesM l9 l9.length) (knownM l0 l0.length) (occM l9 l9.length) from fun h => by
  obtain ⟨g1, g2, g3, e1, e2, e3, ht⟩ := HT.out h
  refine ⟨g1, g2, g3, e1, e2, e3, ?_⟩
  rw [hw4]
  exact ((ht.put BT.out 0 _).put (blk_put BT.out 0 _ rfl) 1 _).put (blk_put (blk_put BT.out 0 _ rfl) 1 _ rfl) 2 _)
 have HB4 := mk_ (show Below w.heap.size w w4 by rw [hw4]; exact below_put3 HB.out GT.out _ _ _)
 clear HB HT BT far hw4 hcT0 hcT1 hcT2 hfT0 hfT1 hfT2 hcM0 hcM1 hfM0 hfM1 hcO0 hcO1 hfO0 hfO1 BMk BOk BM BO
 cases hx1 : marketOk l0 l9 with
 | false =>
  have HE := mk_ (show r = ([], [], 1) by rw [HRR.out]; unfold nextR; rw [if_neg (by rw [hx1]; rintro ⟨h, _⟩; cases h)])
  have hcO0 := (blk_cell BO4.out 0).trans rfl
  have hcO1 := (blk_cell BO4.out 1).trans rfl
  have hfO0 := blk_frozen BO4.out 0
  have hfO1 := blk_frozen BO4.out 1
  clear hx1
  go_wp2
  refine bodyPost_ret (results_ct rfl _ _ gO 25 #[.slice none 0 0, .slice none 0 0] (0, 0) _ rfl (blk_put2 BO4.out _ _) Try.underlying25 rfl (by kernel_rfl)) rfl ?_
  rw [HE.out]
  exact ⟨_, _, rfl, Kd.R_nil _ _ _ _ _, Kd.S_nil _ _ _ _ _, below_put2 HB4.out GO.out _ _⟩
 | true =>
 obtain ⟨g1, g2, g3, e1, e2, e3, hT⟩ := HT4.out hx1
 subst e1
 subst e2
 subst e3
 have HT5 := mk_ hT
 have HX1 := mk_ hx1
 clear hT HT4 hx1
 go_upto_region 5 with (fail)
 obtain ⟨gt, hgt⟩ : ∃ gt, gt = w4.heap.size := ⟨_, rfl⟩
 obtain ⟨w5, hw5⟩ : ∃ w5, w5 = w4.alloc (Obj.map #[] 0) := ⟨_, rfl⟩
 rw [← hw5, ← hgt]
 obtain ⟨H, hH⟩ : ∃ H, H = homesM l9 l9.length := ⟨_, rfl⟩
 obtain ⟨K, hK⟩ : ∃ K, K = knownM l0 l0.length := ⟨_, rfl⟩
 obtain ⟨T, hT⟩ : ∃ T, T = occM l9 l9.length := ⟨_, rfl⟩
 rw [← hH, ← hK, ← hT] at HT5
 have HS5 := mk_ (show NS w w5 gO gT g1 g2 g3 gt H K T (toM l1 0) by
  have hb5 : Below w4.heap.size w4 w5 := by rw [hw5]; exact below_alloc (Below.refl _ _) _
  have a1 := HT5.out.flat.lt
  have a2 := HT5.out.known.lt
  have a3 := HT5.out.taken.lt
  refine ⟨blk_below BO4.out hb5, blk_below BT4.out hb5, HT5.out.later hb5, ?_, ⟨by omega, by omega, by omega⟩, ⟨by have := below_size HB4.out; omega, GO.out⟩, below_step HB4.out hb5⟩
  rw [hw5, hgt]
  exact (MapI.made w4).none_ vInt)
 have BM5 := mk_ (show w5.heap[gM]? = some (.cells #[.slice A0 l0.length c0, .slice A9 l9.length c9] 25 (0, 0)) by rw [hw5]; exact blk_below BM4.out (below_alloc (Below.refl _ _) _))
 have HRR2 := mk_ (show r = if movesB H K l1 = true ∧ goneB H l2 = true then nxOut l0 (nxM (toM l1 l1.length) l2 l9 l9.length) else ([], [], 1) by
  rw [HRR.out, hH, hK]
  unfold nextR
  rw [HX1.out]
  simp only [true_and])
 clear hw5 hgt hH hK hT HT5 BO4 BT4 BM4 HB4 HRR HX1
 go_wp2
 go_loopg [36] l1.length (fun kq v36 wr => ∃ (n : Nat), v36 = .int .i64 n ∧ Aside0 (kq + n = l1.length) ∧ Aside0 (∀ j, j < n → stepB H K l1 j = true) ∧ Aside0 (wr.heap[gM]? = some (.cells #[.slice A0 l0.length c0, .slice A9 l9.length c9] 25 (0, 0))) ∧ Aside0 (NS w wr gO gT g1 g2 g3 gt H K T (toM l1 n)))
 case atStart => exact ⟨0, rfl, ⟨by omega⟩, ⟨fun j hj => absurd hj (by omega)⟩, BM5, HS5⟩
 case round =>
  clear HS5 BM5
  obtain ⟨n, rfl, HK, HA, BM, HS⟩ := hrel
  by_cases hlt : n < l1.length
  ·obtain ⟨i, hi⟩ : ∃ i : Int, i = (n : Int) := ⟨_, rfl⟩
   rw [← hi]
   have HI2 := mk_ (show 0 ≤ i ∧ i < l1.length ∧ i = (n : Int) from ⟨by omega, by omega, hi⟩)
   have d7 : decide (i < (l1.length : Int)) = true := decide_eq_true HI2.out.2.1
   have ci2 : (0 ≤ i) = True := eq_true HI2.out.1
   have ci3 : (i < l1.length) = True := eq_true HI2.out.2.1
   obtain ⟨adp, ep, hx0, hx1, hx2⟩ := at_T51 (Kd.C_below HR1.out HS.out.below) i HI2.out.1 HI2.out.2.1
   subst ep
   obtain ⟨x, hp⟩ : ∃ x, x = rd_T51 l1 i := ⟨_, rfl⟩
   rw [← hp] at hx0 hx1 hx2
   have HP := mk_ (show rd_T51 l1 (n : Int) = x by rw [hp, hi])
   have hz1 : i + 1 ≤ 9223372036854775807 := by have := HI2.out; have := HF2.out; omega
   have hz2 : -9223372036854775808 ≤ i + 1 := by have := HI2.out; omega
   have HLT := mk_ hlt
   have HSB := mk_ (show stepB H K l1 n = (!(toM l1 n x.f0).isSome && fitsB H K x) by unfold stepB; rw [HP.out])
   clear hi hlt hp
   have HB0 := mk_ (Below.refl wr.heap.size wr)
   go_upto_region 8 with (first | ((with_reducible refine gate_dst (N := 12) rfl ?_); refine box_event ?hg (N := 12) ?hd (cs := #[.int .i64 0, .int .i64 0, .int .i64 0]) (t := 51) ?hr ?_; (case hd => rfl); (case hg => rfl); (case hr => first | (go_simp; done) | (go_simp; rfl)); intro gx hg_X w9 hbox_ hb_; have n0_ := mk_ (below_step HB0.out hb_); have BX := mk_ hbox_; have GX := mk_ (show wr.heap.size ≤ gx by rw [hg_X]; exact below_size HB0.out); have EX := mk_ hg_X; have hcx0 : w9.cell? ⟨gx, 0, none⟩ = some (.int .i64 0) := (blk_cell hbox_ 0).trans rfl; have hfx0 := blk_frozen hbox_ 0; have hcx1 : w9.cell? ⟨gx, 1, none⟩ = some (.int .i64 0) := (blk_cell hbox_ 1).trans rfl; have hfx1 := blk_frozen hbox_ 1; have hcx2 : w9.cell? ⟨gx, 2, none⟩ = some (.int .i64 0) := (blk_cell hbox_ 2).trans rfl; have hfx2 := blk_frozen hbox_ 2; replace hx0 := cd_ hb_ hx0; replace hx1 := cd_ hb_ hx1; replace hx2 := cd_ hb_ hx2; clear HB0 hg_X hbox_ hb_; have HB0 := n0_; clear n0_))
   obtain ⟨w10, hw10⟩ : ∃ w10, w10 = ((w9.setCell ⟨gx, 0, none⟩ (.int .i64 x.f0)).setCell ⟨gx, 1, none⟩ (.int .i64 x.f1)).setCell ⟨gx, 2, none⟩ (.int .i64 x.f2) := ⟨_, rfl⟩
   rw [← hw10]
   have BX10 := mk_ (show w10.heap[gx]? = some (.cells #[.int .i64 x.f0, .int .i64 x.f1, .int .i64 x.f2] 51 (0, 0)) by rw [hw10]; exact blk_put3 BX.out _ _ _)
   have hb10 : Below wr.heap.size wr w10 := by rw [hw10]; exact below_put3 HB0.out GX.out _ _ _
   have HS10 := mk_ (HS.out.later hb10)
   have BM10 := mk_ (blk_below BM.out hb10)
   clear hw10 hb10 BX HB0 hcx0 hcx1 hcx2 hfx0 hfx1 hfx2 hx0 hx1 hx2 HS BM
   have hcx0 := (blk_cell BX10.out 0).trans rfl
   have hcx1 := (blk_cell BX10.out 1).trans rfl
   have hcx2 := (blk_cell BX10.out 2).trans rfl
   have hcT0 := (blk_cell HS10.out.cell 0).trans rfl
   have hcT1 := (blk_cell HS10.out.cell 1).trans rfl
   have hcT2 := (blk_cell HS10.out.cell 2).trans rfl
   have hcO0 := (blk_cell HS10.out.res 0).trans rfl
   have hcO1 := (blk_cell HS10.out.res 1).trans rfl
   have hfO0 := blk_frozen HS10.out.res 0
   have hfO1 := blk_frozen HS10.out.res 1
   cases h1 : (toM l1 n x.f0).isSome with
   | true =>
    have H1 := mk_ h1
    have HE := mk_ (show r = ([], [], 1) by
     have : movesB H K l1 = false := all_false HLT.out (show stepB H K l1 n = false by rw [HSB.out, h1]; rfl)
     rw [HRR2.out, if_neg (by rw [this]; rintro ⟨h, _⟩; cases h)])
    clear h1
    go_wp2_with (first | ((with_reducible refine gate_ (op := .lookup 65 (.tmp 41) (.tmp 43) true) rfl ?_); refine wpList_lookI _ rfl (.tmp 41) (.tmp 43) 65 true rfl 3 3 Try.underlying65 Try.underlying3 (Try.zeroValue3 _) gt (mapV vInt (toM l1 n)) rfl HS10.out.too x.f0 rfl ?_; rw [if_pos rfl, show (Value.int IntKind.i64 0) = vInt 0 from rfl, mapV_get, mapV_some, H1.out]; dsimp only [vInt]))
    refine bodyPost_ret (results_ct rfl _ _ gO 25 #[.slice none 0 0, .slice none 0 0] (0, 0) _ rfl (blk_put2 HS10.out.res _ _) Try.underlying25 rfl (by kernel_rfl)) rfl ?_
    rw [HE.out]
    exact ⟨_, _, rfl, Kd.R_nil _ _ _ _ _, Kd.S_nil _ _ _ _ _, below_put2 HS10.out.below GO.out _ _⟩
   | false =>
    have H1 := mk_ h1
    cases h2 : fitsB H K x with
    | false =>
     have H2 := mk_ h2
     have HE := mk_ (show r = ([], [], 1) by
      have : movesB H K l1 = false := all_false HLT.out (show stepB H K l1 n = false by rw [HSB.out, h2, Bool.and_false])
      rw [HRR2.out, if_neg (by rw [this]; rintro ⟨h, _⟩; cases h)])
     clear h1 h2
     go_wp2_with (first | ((with_reducible refine gate_ (op := .lookup 65 (.tmp 41) (.tmp 43) true) rfl ?_); refine wpList_lookI _ rfl (.tmp 41) (.tmp 43) 65 true rfl 3 3 Try.underlying65 Try.underlying3 (Try.zeroValue3 _) gt (mapV vInt (toM l1 n)) rfl HS10.out.too x.f0 rfl ?_; rw [if_pos rfl, show (Value.int IntKind.i64 0) = vInt 0 from rfl, mapV_get, mapV_some, H1.out]; dsimp only [vInt]) | (go_at_call 37; (with_reducible refine (fits_calls _ w.heap.size g1 g2 g3 H K T x HS10.out.town).mono ?_); rw [H2.out]; rintro e w11 ⟨rfl, hb_⟩; have HS11 := mk_ (HS10.out.later hb_); have BM11 := mk_ (blk_below BM10.out hb_); have BX11 := mk_ (blk_below BX10.out hb_); replace hcx0 := cd_ hb_ hcx0; replace hcx1 := cd_ hb_ hcx1; replace hcx2 := cd_ hb_ hcx2; replace hcO0 := cd_ hb_ hcO0; replace hcO1 := cd_ hb_ hcO1; replace hfO0 := blk_frozen HS11.out.res 0; replace hfO1 := blk_frozen HS11.out.res 1; clear hb_ hcT0 hcT1 hcT2))
     refine bodyPost_ret (results_ct rfl _ _ gO 25 #[.slice none 0 0, .slice none 0 0] (0, 0) _ rfl (blk_put2 HS11.out.res _ _) Try.underlying25 rfl (by kernel_rfl)) rfl ?_
     rw [HE.out]
     exact ⟨_, _, rfl, Kd.R_nil _ _ _ _ _, Kd.S_nil _ _ _ _ _, below_put2 HS11.out.below GO.out _ _⟩
    | true =>
     have H2 := mk_ h2
     have HST := mk_ (show stepB H K l1 n = true by rw [HSB.out, h1, h2]; rfl)
     clear h1 h2
     go_wp2_with (first | ((with_reducible refine gate_ (op := .lookup 65 (.tmp 41) (.tmp 43) true) rfl ?_); refine wpList_lookI _ rfl (.tmp 41) (.tmp 43) 65 true rfl 3 3 Try.underlying65 Try.underlying3 (Try.zeroValue3 _) gt (mapV vInt (toM l1 n)) rfl HS10.out.too x.f0 rfl ?_; rw [if_pos rfl, show (Value.int IntKind.i64 0) = vInt 0 from rfl, mapV_get, mapV_some, H1.out]; dsimp only [vInt]) | (go_at_call 37; (with_reducible refine (fits_calls _ w.heap.size g1 g2 g3 H K T x HS10.out.town).mono ?_); rw [H2.out]; rintro e w11 ⟨rfl, hb_⟩; have HS11 := mk_ (HS10.out.later hb_); have BM11 := mk_ (blk_below BM10.out hb_); have BX11 := mk_ (blk_below BX10.out hb_); replace hcx0 := cd_ hb_ hcx0; replace hcx1 := cd_ hb_ hcx1; replace hcx2 := cd_ hb_ hcx2; replace hcO0 := cd_ hb_ hcO0; replace hcO1 := cd_ hb_ hcO1; replace hfO0 := blk_frozen HS11.out.res 0; replace hfO1 := blk_frozen HS11.out.res 1; clear hb_ hcT0 hcT1 hcT2) | ((with_reducible refine gate_ (op := .mapUpdate 65 (.tmp 55) (.tmp 57) (.tmp 59)) rfl ?_); refine wpList_storeI _ rfl (.tmp 55) (.tmp 57) (.tmp 59) 65 rfl 3 3 Try.underlying65 Try.underlying3 gt (mapV vInt (toM l1 n)) rfl HS11.out.too x.f0 rfl (.int .i64 x.f2) rfl ?_; intro w12 hm_ hg_; have BM12 := mk_ (blk_grown BM11.out hg_ (HS11.out.too.ne_blk BM11.out)); have HS12 := mk_ (show NS w w12 gO gT g1 g2 g3 gt H K T (toM l1 (n + 1)) by rw [toM_succ, HP.out]; exact HS11.out.move hm_ hg_); clear hm_ hg_))
     go_roundg (gk - 1)
     case measure => have := HK.out; have := HLT.out; omega
     case rel =>
      refine ⟨n + 1, ?_, ⟨by have := HK.out; have := HLT.out; omega⟩, ⟨fun j hj => ?_⟩, BM12, HS12⟩
      ·have := HI2.out
       first | (rw [show ((n + 1 : Nat) : Int) = i + 1 from by omega]; done) | (simp; omega)
      ·by_cases e : j = n
       rotate_left
       ·exact HA.out j (by omega)
       rw [e]; exact HST.out
  have d7 : decide ((n : Int) < (l1.length : Int)) = false := decide_eq_false (by omega)
  have d7' : decide (n < l1.length) = false := decide_eq_false hlt
  have hnl : n = l1.length := by have := HK.out; omega
  rw [hnl] at HS HA
  have HMV := mk_ (show movesB H K l1 = true from all_true HA.out)
  clear hlt hnl HK HA
  obtain ⟨M, hM⟩ : ∃ M, M = toM l1 l1.length := ⟨_, rfl⟩
  rw [← hM] at HS
  have HRR3 := mk_ (show r = if goneB H l2 = true then nxOut l0 (nxM M l2 l9 l9.length) else ([], [], 1) by
   rw [HRR2.out, HMV.out, hM]
   simp only [true_and])
  clear hM
  go_wp2
  go_loopg [63] l2.length (fun kq v63 wr => ∃ (n : Nat), v63 = .int .i64 n ∧ Aside0 (kq + n = l2.length) ∧ Aside0 (∀ j, j < n → goneAt H l2 j = true) ∧ Aside0 (wr.heap[gM]? = some (.cells #[.slice A0 l0.length c0, .slice A9 l9.length c9] 25 (0, 0))) ∧ Aside0 (NS w wr gO gT g1 g2 g3 gt H K T M))
  case atStart => exact ⟨0, rfl, ⟨by omega⟩, ⟨fun j hj => absurd hj (by omega)⟩, BM, HS⟩
  case round =>
   clear HS BM
   obtain ⟨n, rfl, HK, HA, BM, HS⟩ := hrel
   by_cases hlt : n < l2.length
   ·obtain ⟨i, hi⟩ : ∃ i : Int, i = (n : Int) := ⟨_, rfl⟩
    rw [← hi]
    have HI2 := mk_ (show 0 ≤ i ∧ i < l2.length ∧ i = (n : Int) from ⟨by omega, by omega, hi⟩)
    have d7 : decide (i < (l2.length : Int)) = true := decide_eq_true HI2.out.2.1
    have ci2 : (0 ≤ i) = True := eq_true HI2.out.1
    have ci3 : (i < l2.length) = True := eq_true HI2.out.2.1
    obtain ⟨adp, ep, hx0⟩ := Kd.at_int (Kd.C_below HR2.out HS.out.below) i HI2.out.1 HI2.out.2.1
    subst ep
    obtain ⟨x, hp⟩ : ∃ x, x = rd l2 i := ⟨_, rfl⟩
    rw [← hp] at hx0
    have HP := mk_ (show rd l2 (n : Int) = x by rw [hp, hi])
    have hz1 : i + 1 ≤ 9223372036854775807 := by have := HI2.out; have := HF3.out; omega
    have hz2 : -9223372036854775808 ≤ i + 1 := by have := HI2.out; omega
    have HLT := mk_ hlt
    have HSB := mk_ (show goneAt H l2 n = ((H x).isSome && (decide (n = 0) || decide (rd l2 ((n : Int) - 1) < x))) by unfold goneAt; rw [HP.out])
    have hcT0 := (blk_cell HS.out.cell 0).trans rfl
    have hcO0 := (blk_cell HS.out.res 0).trans rfl
    have hcO1 := (blk_cell HS.out.res 1).trans rfl
    have hfO0 := blk_frozen HS.out.res 0
    have hfO1 := blk_frozen HS.out.res 1
    clear hi hp
    cases h1 : (H x).isSome with
    | false =>
     have H1 := mk_ h1
     have HE := mk_ (show r = ([], [], 1) by
      have : goneB H l2 = false := all_false HLT.out (show goneAt H l2 n = false by rw [HSB.out, h1]; rfl)
      rw [HRR3.out, if_neg (by rw [this]; intro h; cases h)])
     clear h1 hlt
     go_wp2_with (first | ((with_reducible refine gate_ (op := .lookup 65 (.tmp 70) (.tmp 71) true) rfl ?_); refine wpList_lookI _ rfl (.tmp 70) (.tmp 71) 65 true rfl 3 3 Try.underlying65 Try.underlying3 (Try.zeroValue3 _) g1 (mapV vInt H) rfl HS.out.town.flat x rfl ?_; rw [if_pos rfl, show (Value.int IntKind.i64 0) = vInt 0 from rfl, mapV_get, mapV_some, H1.out]; dsimp only [vInt]))
     refine bodyPost_ret (results_ct rfl _ _ gO 25 #[.slice none 0 0, .slice none 0 0] (0, 0) _ rfl (blk_put2 HS.out.res _ _) Try.underlying25 rfl (by kernel_rfl)) rfl ?_
     rw [HE.out]
     exact ⟨_, _, rfl, Kd.R_nil _ _ _ _ _, Kd.S_nil _ _ _ _ _, below_put2 HS.out.below GO.out _ _⟩
    | true =>
     have H1 := mk_ h1
     by_cases h0 : 0 < i
     rotate_left
     ·have u0 : decide (0 < i) = false := decide_eq_false h0
      have HST := mk_ (show goneAt H l2 n = true by rw [HSB.out, h1, decide_eq_true (show n = 0 by have := HI2.out; omega)]; rfl)
      clear h1 h0 hlt
      go_wp2_with (first | ((with_reducible refine gate_ (op := .lookup 65 (.tmp 70) (.tmp 71) true) rfl ?_); refine wpList_lookI _ rfl (.tmp 70) (.tmp 71) 65 true rfl 3 3 Try.underlying65 Try.underlying3 (Try.zeroValue3 _) g1 (mapV vInt H) rfl HS.out.town.flat x rfl ?_; rw [if_pos rfl, show (Value.int IntKind.i64 0) = vInt 0 from rfl, mapV_get, mapV_some, H1.out]; dsimp only [vInt]))
      go_roundg (gk - 1)
      case measure => have := HK.out; have := HLT.out; omega
      case rel =>
       refine ⟨n + 1, ?_, ⟨by have := HK.out; have := HLT.out; omega⟩, ⟨fun j hj => ?_⟩, BM, HS⟩
       ·have := HI2.out
        first | (rw [show ((n + 1 : Nat) : Int) = i + 1 from by omega]; done) | (simp; omega)
       ·by_cases e : j = n
        rotate_left
        ·exact HA.out j (by omega)
        rw [e]; exact HST.out
     have u0 : decide (0 < i) = true := decide_eq_true h0
     obtain ⟨z, hz⟩ : ∃ z, z = i - 1 := ⟨_, rfl⟩
     have hq0 : wrap64 (i - 1) = z := by rw [hz]; unfold wrap64; have := HI2.out; have := HF3.out; omega
     have HZR := mk_ (show 0 ≤ z ∧ z < l2.length from ⟨by omega, by have := HI2.out; omega⟩)
     have hq3 : (0 ≤ z) = True := eq_true HZR.out.1
     have hq4 : (z < l2.length) = True := eq_true HZR.out.2
     obtain ⟨adx', ex', hv0⟩ := Kd.at_int (Kd.C_below HR2.out HS.out.below) z HZR.out.1 HZR.out.2
     cases ex'
     obtain ⟨y, hy⟩ : ∃ y, y = rd l2 z := ⟨_, rfl⟩
     rw [← hy] at hv0
     have HSB2 := mk_ (show goneAt H l2 n = decide (y < x) by
      rw [HSB.out, h1, decide_eq_false (show ¬ n = 0 by have := HI2.out; omega), hy, hz, HI2.out.2.2]
      simp)
     clear hz hy h1 h0
     by_cases h2 : x ≤ y
     ·have u1 : decide (x ≤ y) = true := decide_eq_true h2
      have HE := mk_ (show r = ([], [], 1) by
       have : goneB H l2 = false := all_false HLT.out (show goneAt H l2 n = false by rw [HSB2.out]; exact decide_eq_false (by omega))
       rw [HRR3.out, if_neg (by rw [this]; intro h; cases h)])
      clear h2 hlt
      go_wp2_with (first | ((with_reducible refine gate_ (op := .lookup 65 (.tmp 70) (.tmp 71) true) rfl ?_); refine wpList_lookI _ rfl (.tmp 70) (.tmp 71) 65 true rfl 3 3 Try.underlying65 Try.underlying3 (Try.zeroValue3 _) g1 (mapV vInt H) rfl HS.out.town.flat x rfl ?_; rw [if_pos rfl, show (Value.int IntKind.i64 0) = vInt 0 from rfl, mapV_get, mapV_some, H1.out]; dsimp only [vInt]))
      refine bodyPost_ret (results_ct rfl _ _ gO 25 #[.slice none 0 0, .slice none 0 0] (0, 0) _ rfl (blk_put2 HS.out.res _ _) Try.underlying25 rfl (by kernel_rfl)) rfl ?_
      rw [HE.out]
      exact ⟨_, _, rfl, Kd.R_nil _ _ _ _ _, Kd.S_nil _ _ _ _ _, below_put2 HS.out.below GO.out _ _⟩
     have u1 : decide (x ≤ y) = false := decide_eq_false h2
     have HST := mk_ (show goneAt H l2 n = true by rw [HSB2.out]; exact decide_eq_true (by omega))
     clear h2 hlt
     go_wp2_with (first | ((with_reducible refine gate_ (op := .lookup 65 (.tmp 70) (.tmp 71) true) rfl ?_); refine wpList_lookI _ rfl (.tmp 70) (.tmp 71) 65 true rfl 3 3 Try.underlying65 Try.underlying3 (Try.zeroValue3 _) g1 (mapV vInt H) rfl HS.out.town.flat x rfl ?_; rw [if_pos rfl, show (Value.int IntKind.i64 0) = vInt 0 from rfl, mapV_get, mapV_some, H1.out]; dsimp only [vInt]))
     go_roundg (gk - 1)
     case measure => have := HK.out; have := HLT.out; omega
     case rel =>
      refine ⟨n + 1, ?_, ⟨by have := HK.out; have := HLT.out; omega⟩, ⟨fun j hj => ?_⟩, BM, HS⟩
      ·have := HI2.out
       first | (rw [show ((n + 1 : Nat) : Int) = i + 1 from by omega]; done) | (simp; omega)
      ·by_cases e : j = n
       rotate_left
       ·exact HA.out j (by omega)
       rw [e]; exact HST.out
   have d7 : decide ((n : Int) < (l2.length : Int)) = false := decide_eq_false (by omega)
   have d7' : decide (n < l2.length) = false := decide_eq_false hlt
   have hnl : n = l2.length := by have := HK.out; omega
   rw [hnl] at HA
   have HGN := mk_ (show goneB H l2 = true from all_true HA.out)
   have HRR4 := mk_ (show r = nxOut l0 (nxM M l2 l9 l9.length) by rw [HRR3.out, if_pos HGN.out])
   clear hlt hnl HK HA
   have hcM0 := bc0_ BM.out
   go_upto_region 21 with (first | (go_at_call 38; (with_reducible refine (slices_Clone_flats.calls A0 c0 l0 l0 _ (Kd.C_below HR0.out HS.out.below) HC0.out (by unfold slices_Clone_flats.f; rw [if_pos (by have := HFA.out.1; omega)])).mono ?_); rintro e w20 ⟨vF, rfl, hR_, hb_⟩; obtain ⟨AF, cF, rfl⟩ := Kd.R_slice hR_; have HS20 := mk_ (HS.out.later hb_); have BM20 := mk_ (blk_below BM.out hb_); have RF20 := mk_ (R_grade hR_ (below_size HS.out.below)); clear hb_ hR_) | (have HB0 := mk_ HS20.out.below; (with_reducible refine gate_dst (N := 19) rfl ?_); refine box_event ?hg (N := 19) ?hd (cs := #[.slice none 0 0, .slice none 0 0]) (t := 25) ?hr ?_; (case hd => rfl); (case hg => rfl); (case hr => first | (go_simp; done) | (go_simp; rfl)); intro gU hg_U w21 hbox_ hb_; have n0_ := mk_ (below_step HB0.out hb_); have BU := mk_ hbox_; have GU := mk_ (show w.heap.size ≤ gU by rw [hg_U]; exact below_size HB0.out); have EU := mk_ hg_U; have hcU0 : w21.cell? ⟨gU, 0, none⟩ = some (.slice none 0 0) := (blk_cell hbox_ 0).trans rfl; have hfU0 := blk_frozen hbox_ 0; have hcU1 : w21.cell? ⟨gU, 1, none⟩ = some (.slice none 0 0) := (blk_cell hbox_ 1).trans rfl; have hfU1 := blk_frozen hbox_ 1; have HS21 := mk_ (HS20.out.later hb_); have BM21 := mk_ (blk_below BM20.out hb_); have RF21 := mk_ (Kd.R_below RF20.out hb_); clear HB0 hg_U hbox_ hb_; have HB0 := n0_; clear n0_))
   obtain ⟨w22, hw22⟩ : ∃ w22, w22 = (w21.setCell ⟨gU, 0, none⟩ (.slice AF l0.length cF)).setCell ⟨gU, 1, none⟩ (.slice none 0 0) := ⟨_, rfl⟩
   rw [← hw22]
   have NOU := mk_ (show gO ≠ gU from fun e => by have := blk_lt HS20.out.res; have := GU.out; have := EU.out; omega)
   have HS22 := mk_ (show NS w w22 gO gT g1 g2 g3 gt H K T M by rw [hw22]; exact (HS21.out.put BU.out NOU.out (by decide) GU.out 0 _).put (blk_put BU.out 0 _ rfl) NOU.out (by decide) GU.out 1 _)
   have BU22 := mk_ (show w22.heap[gU]? = some (.cells #[.slice AF l0.length cF, .slice none 0 0] 25 (0, 0)) by rw [hw22]; exact blk_put2 BU.out _ _)
   have RF22 := mk_ (show Kd.R k84 84 w22 w.heap.size (fun k_ => w.heap.size ≤ k_) (.slice AF l0.length cF) l0 by rw [hw22]; exact Kd.R_set (Kd.R_set RF21.out BU.out (by decide) _ _) (blk_put BU.out 0 _ rfl) (by decide) _ _)
   have BM22 := mk_ (show w22.heap[gM]? = some (.cells #[.slice A0 l0.length c0, .slice A9 l9.length c9] 25 (0, 0)) by
    have hne : gM ≠ gU := fun e => by have := blk_lt BM20.out; have := EU.out; omega
    rw [hw22]
    exact (Below.heap_setCell _ _ _ _ hne).trans ((Below.heap_setCell _ _ _ _ hne).trans BM21.out))
   clear hw22 HS20 HS21 RF21 BM20 BM21 BU hcM0 hcU0 hcU1 hfU0 hfU1
   have hb23 : Below w22.heap.size w22 (w22.alloc (Obj.map #[] 0)) := below_alloc (Below.refl _ _) _
   have hcM1 : (w22.alloc (Obj.map #[] 0)).cell? ⟨gM, 1, none⟩ = some (.slice A9 l9.length c9) := (blk_cell (blk_below BM22.out hb23) 1).trans rfl
   go_wp2
   obtain ⟨gv, hgv⟩ : ∃ gv, gv = w22.heap.size := ⟨_, rfl⟩
   obtain ⟨w23, hw23⟩ : ∃ w23, w23 = w22.alloc (Obj.map #[] 0) := ⟨_, rfl⟩
   rw [← hw23] at hb23
   rw [← hgv, ← hw23]
   have HS23 := mk_ (HS22.out.later hb23)
   have OS23 := mk_ (show OS_ w w23 gO gU (.slice AF l0.length cF) (.slice none 0 0) gv l0 [] (fun _ => none) from ⟨blk_below BU22.out hb23, Kd.R_below RF22.out hb23, Kd.S_nil _ _ _ _ _, by rw [hw23, hgv]; exact (MapI.made w22).none_ vBool⟩)
   have HNV := mk_ (show g1 ≠ gv ∧ g2 ≠ gv ∧ g3 ≠ gv ∧ gt ≠ gv ∧ w.heap.size ≤ gv from ⟨by have := HS22.out.town.flat.lt; omega, by have := HS22.out.town.known.lt; omega, by have := HS22.out.town.taken.lt; omega, by have := HS22.out.too.lt; omega, by have := below_size HS22.out.below; omega⟩)
   clear hw23 hgv hb23 HS22 BU22 RF22 BM22 hcM1
   go_loopg [100] l9.length (fun kq v100 wr => ∃ (n : Nat) (vP : Value) (out : List S46) (V : Int → Option Bool), v100 = .int .i64 n ∧ Aside0 (kq + n = l9.length) ∧ Aside0 (nxM M l2 l9 n = some (out, V)) ∧ Aside0 (NS w wr gO gT g1 g2 g3 gt H K T M) ∧ Aside0 (OS_ w wr gO gU (.slice AF l0.length cF) vP gv l0 out V))
   case atStart => exact ⟨0, _, _, _, rfl, ⟨by omega⟩, ⟨rfl⟩, HS23, OS23⟩
   case round =>
    clear HS23 OS23
    obtain ⟨n, vP, out, V, rfl, HK, HX, HS, HO⟩ := hrel
    by_cases hlt : n < l9.length
    rotate_left
    ·have d7 : decide ((n : Int) < (l9.length : Int)) = false := decide_eq_false (by omega)
     have d7' : decide (n < l9.length) = false := decide_eq_false hlt
     have hnl : n = l9.length := by have := HK.out; omega
     rw [hnl] at HX
     have HE := mk_ (show r = (l0, out, 0) by rw [HRR4.out, HX.out]; rfl)
     have hcU0 : wr.cell? ⟨gU, 0, none⟩ = some (.slice AF l0.length cF) := (blk_cell HO.out.box 0).trans rfl
     obtain ⟨AP, cP, eP⟩ := Kd.S_slice HO.out.parties
     subst eP
     have hcU1 : wr.cell? ⟨gU, 1, none⟩ = some (.slice AP out.length cP) := (blk_cell HO.out.box 1).trans rfl
     have hcO0 : wr.cell? ⟨gO, 0, none⟩ = some (.slice none 0 0) := (blk_cell HS.out.res 0).trans rfl
     have hcO1 : wr.cell? ⟨gO, 1, none⟩ = some (.slice none 0 0) := (blk_cell HS.out.res 1).trans rfl
     have hfO0 := blk_frozen HS.out.res 0
     have hfO1 := blk_frozen HS.out.res 1
     clear hlt hnl
     go_wp2
     refine bodyPost_ret (results_ct rfl _ _ gO 25 #[.slice AF l0.length cF, .slice AP out.length cP] (0, 0) _ rfl (blk_put2 HS.out.res _ _) Try.underlying25 rfl (by kernel_rfl)) rfl ?_
     rw [HE.out]
     exact ⟨_, _, rfl, Kd.R_set (Kd.R_set HO.out.flats HS.out.res (by decide) _ _) (blk_put HS.out.res 0 _ rfl) (by decide) _ _, Kd.S_mono (Kd.S_far (Kd.S_far HO.out.parties (p := ⟨gO, 0, none⟩) (fun k hk => hk.2.1) _) (p := ⟨gO, 1, none⟩) (fun k hk => hk.2.1) _) (fun _ hk => hk.1), below_put2 HS.out.below HS.out.lo.2 _ _⟩
    obtain ⟨i, hi⟩ : ∃ i : Int, i = (n : Int) := ⟨_, rfl⟩
    rw [← hi]
    have HI2 := mk_ (show 0 ≤ i ∧ i < l9.length ∧ i = (n : Int) from ⟨by omega, by omega, hi⟩)
    have d7 : decide (i < (l9.length : Int)) = true := decide_eq_true HI2.out.2.1
    have ci2 : (0 ≤ i) = True := eq_true HI2.out.1
    have ci3 : (i < l9.length) = True := eq_true HI2.out.2.1
    obtain ⟨adp, Ap, cp, ep, hx0, hx1, hx2, hpc, hpC⟩ := at_T46 HR9.out i HI2.out.1 HI2.out.2.1
    subst ep
    obtain ⟨p, hp⟩ : ∃ p, p = rd_T46 l9 i := ⟨_, rfl⟩
    have HPL := mk_ (show p.f2.length ≤ 1000000000000 by rw [hp]; exact HFA.out.2.2 i HI2.out.1 HI2.out.2.1)
    rw [← hp] at hx0 hx1 hx2 hpc hpC
    have HPC := mk_ (And.intro hpc hpC)
    replace hx0 := (HS.out.below.cell (World.block_lt_of_cell? _ _ hx0)).trans hx0
    replace hx1 := (HS.out.below.cell (World.block_lt_of_cell? _ _ hx1)).trans hx1
    replace hx2 := (HS.out.below.cell (World.block_lt_of_cell? _ _ hx2)).trans hx2
    have HP := mk_ (show rd_T46 l9 (n : Int) = p by rw [hp, hi])
    have hz1 : i + 1 ≤ 9223372036854775807 := by have := HI2.out; have := HFA.out.2.1; omega
    have hz2 : -9223372036854775808 ≤ i + 1 := by have := HI2.out; omega
    have HLT := mk_ hlt
    have HXN := mk_ (show nxM M l2 l9 (n + 1) = nxS M l2 p (out, V) by rw [nxM_succ, HX.out, HP.out]; rfl)
    have HOL := mk_ (nxM_len HX.out)
    clear hi hlt hp hpc hpC
    have HB0 := mk_ (Below.refl wr.heap.size wr)
    go_upto_region 25 with (first | ((with_reducible refine gate_dst (N := 22) rfl ?_); refine box_event ?hg (N := 22) ?hd (cs := #[.int .i64 0, .int .i64 0, .slice none 0 0]) (t := 46) ?hr ?_; (case hd => rfl); (case hg => rfl); (case hr => first | (go_simp; done) | (go_simp; rfl)); intro gp hg_P w9 hbox_ hb_; have n0_ := mk_ (below_step HB0.out hb_); have BP := mk_ hbox_; have GP := mk_ (show wr.heap.size ≤ gp by rw [hg_P]; exact below_size HB0.out); have EP := mk_ hg_P; have hcp0 : w9.cell? ⟨gp, 0, none⟩ = some (.int .i64 0) := (blk_cell hbox_ 0).trans rfl; have hfp0 := blk_frozen hbox_ 0; have hcp1 : w9.cell? ⟨gp, 1, none⟩ = some (.int .i64 0) := (blk_cell hbox_ 1).trans rfl; have hfp1 := blk_frozen hbox_ 1; have hcp2 : w9.cell? ⟨gp, 2, none⟩ = some (.slice none 0 0) := (blk_cell hbox_ 2).trans rfl; have hfp2 := blk_frozen hbox_ 2; replace hx0 := cd_ hb_ hx0; replace hx1 := cd_ hb_ hx1; replace hx2 := cd_ hb_ hx2; clear HB0 hg_P hbox_ hb_; have HB0 := n0_; clear n0_))
    obtain ⟨w10, hw10⟩ : ∃ w10, w10 = ((w9.setCell ⟨gp, 0, none⟩ (.int .i64 p.f0)).setCell ⟨gp, 1, none⟩ (.int .i64 p.f1)).setCell ⟨gp, 2, none⟩ (.slice Ap p.f2.length cp) := ⟨_, rfl⟩
    rw [← hw10]
    have BP10 := mk_ (show w10.heap[gp]? = some (.cells #[.int .i64 p.f0, .int .i64 p.f1, .slice Ap p.f2.length cp] 46 (0, 0)) by rw [hw10]; exact blk_put3 BP.out _ _ _)
    have hb10 : Below wr.heap.size wr w10 := by rw [hw10]; exact below_put3 HB0.out GP.out _ _ _
    have HS10 := mk_ (HS.out.later hb10)
    have HO10 := mk_ (HO.out.later hb10)
    have NPW := mk_ (show Kd.S k46 46 w10 w.heap.size (fun k_ => okN w gO gU gv (.slice AF l0.length cF) k_ ∧ k_ ≠ gp) vP out from Kd.S_mono (Kd.S_below (Kd.S_bound HO.out.parties) hb10) (fun k_ hk => ⟨hk.1, fun e => by have := GP.out; have := hk.2.2.1; omega⟩))
    have GPL := mk_ (show gO < gp ∧ gU < gp ∧ w.heap.size ≤ gp ∧ (∀ k, vP.ownBlock = some k → k < gp) from ⟨by have := blk_lt HS.out.res; have := GP.out; omega, by have := blk_lt HO.out.box; have := GP.out; omega, by have := below_size HS.out.below; have := GP.out; omega, fun k hk => by have := Kd.S_lt HO.out.parties k hk; have := GP.out; omega⟩)
    clear hw10 hb10 BP HB0 hcp0 hcp1 hcp2 hfp0 hfp1 hfp2 hx0 hx1 hx2 HS HO
    have hcp0 := bc0_ BP10.out
    have HCN := mk_ (contains_f l2 p.f0 (by have := HF3.out; omega))
    cases hc : l2.contains p.f0 with
    | true =>
     rw [hc] at HCN
     have HN1 := mk_ (show nxM M l2 l9 (n + 1) = some (out, V) by rw [HXN.out]; unfold nxS; rw [if_pos hc])
     clear hc
     go_wp2_with (first | (go_at_call 39; (with_reducible refine (slices_Contains_int_int.calls (l2.length + 1) A2 c2 l2 p.f0 _ _ (Kd.C_below HR2.out HS10.out.below) HC2.out HCN.out).mono ?_); rintro e w11 ⟨rfl, hd_⟩; have hb_ := hd_.below; have HS11 := mk_ (HS10.out.later hb_); have HO11 := mk_ (HO10.out.later hb_); have BP11 := mk_ (blk_below BP10.out hb_); replace hcp0 := cd_ hb_ hcp0; clear hb_ hd_))
     go_roundg (gk - 1)
     case measure => have := HK.out; have := HLT.out; omega
     case rel =>
      refine ⟨n + 1, vP, out, V, ?_, ⟨by have := HK.out; have := HLT.out; omega⟩, HN1, HS11, HO11⟩
      ·have := HI2.out
       first | (rw [show ((n + 1 : Nat) : Int) = i + 1 from by omega]; done) | (simp; omega)
    | false =>
     rw [hc] at HCN
     have HXN2 := mk_ (show nxM M l2 l9 (n + 1) = if (M p.f0).getD p.f1 ≠ 0 ∧ (V ((M p.f0).getD p.f1)).getD false = true then none else some (out ++ [⟨p.f0, (M p.f0).getD p.f1, p.f2⟩], upd V ((M p.f0).getD p.f1) true) by rw [HXN.out]; unfold nxS; rw [if_neg (by rw [hc]; decide)])
     clear hc
     have hcp1 := bc1_ BP10.out
     have NP10 := mk_ (show Kd.S k46 46 w10 w.heap.size (fun k_ => okN w gO gU gv (.slice AF l0.length cF) k_ ∧ k_ ≠ gp) vP out from NPW.out)
     obtain ⟨f, hf⟩ : ∃ f, f = (M p.f0).getD p.f1 := ⟨_, rfl⟩
     rw [← hf] at HXN2
     cases hm : M p.f0 with
     | some f' =>
      have e : f' = f := by rw [hf, hm]; rfl
      subst e
      have HM1 := mk_ hm
      clear hm hf
      go_upto_region 29 with (first | (go_at_call 39; (with_reducible refine (slices_Contains_int_int.calls (l2.length + 1) A2 c2 l2 p.f0 _ _ (Kd.C_below HR2.out HS10.out.below) HC2.out HCN.out).mono ?_); rintro e w11 ⟨rfl, hd_⟩; have hb_ := hd_.below; have HS11 := mk_ (HS10.out.later hb_); have HO11 := mk_ (HO10.out.later hb_); have BP11 := mk_ (blk_below BP10.out hb_); replace hcp0 := cd_ hb_ hcp0; replace hcp1 := cd_ hb_ hcp1; have hfp1 := blk_frozen BP11.out 1; have NP11 := mk_ (Kd.S_below NP10.out hb_); clear hb_ hd_) | ((with_reducible refine gate_ (op := .lookup 65 (.tmp 109) (.tmp 111) true) rfl ?_); refine wpList_lookI _ rfl (.tmp 109) (.tmp 111) 65 true rfl 3 3 Try.underlying65 Try.underlying3 (Try.zeroValue3 _) gt (mapV vInt M) rfl HS11.out.too p.f0 rfl ?_; rw [if_pos rfl, show (Value.int IntKind.i64 0) = vInt 0 from rfl, mapV_get, mapV_some, HM1.out]; dsimp only [vInt, Option.getD_some, Option.isSome_some, Option.getD_none, Option.isSome_none]))
      have hq := HO11.out.put BP11.out (show gU ≠ gp from by have := GPL.out; omega) NP11.out 1 (.int .i64 f')
      obtain ⟨w12, hw12⟩ : ∃ w12, w12 = w11.setCell ⟨gp, 1, none⟩ (.int .i64 f') := ⟨_, rfl⟩
      rw [← hw12]
      rw [← hw12] at hq
      have HO12 := mk_ hq.1
      have NP12 := mk_ hq.2
      have BP12 := mk_ (show w12.heap[gp]? = some (.cells #[.int .i64 p.f0, .int .i64 f', .slice Ap p.f2.length cp] 46 (0, 0)) by rw [hw12]; exact blk_put BP11.out 1 _ rfl)
      have HS12 := mk_ (show NS w w12 gO gT g1 g2 g3 gt H K T M by rw [hw12]; exact HS11.out.put BP11.out (show gO ≠ gp from by have := GPL.out; omega) (by decide) GPL.out.2.2.1 1 _)
      clear hw12 hq hcp0 hcp1 hfp1 HS11 HO11 NP11 BP11
      obtain ⟨f, hf⟩ : ∃ f, f = f' := ⟨_, rfl⟩
      subst hf
      have hcp1 := bc1_ BP12.out
      by_cases hz : f = 0
      ·have z1 : (f == 0) = true := beq_iff_eq.2 hz
       have z2 : (f != 0) = false := by rw [bne_eq_false_iff_eq]; exact hz
       have HN1 := mk_ (show nxM M l2 l9 (n + 1) = some (out ++ [⟨p.f0, f, p.f2⟩], upd V f true) by rw [HXN2.out, if_neg (fun h => h.1 hz)])
       clear hz
       go_upto_region 32 with (first | ((with_reducible refine gate_ (op := .mapUpdate 66 (.tmp 128) (.tmp 130) (.const (.bool true))) rfl ?_); refine wpList_storeI _ rfl (.tmp 128) (.tmp 130) (.const (.bool true)) 66 rfl 3 4 Try.underlying66 Try.underlying3 gv (mapV vBool V) rfl HO12.out.taken f rfl (.bool true) rfl ?_; intro w13 hm_ hg_; have HS13 := mk_ (HS12.out.far HO12.out.taken HNV.out.1 HNV.out.2.1 HNV.out.2.2.1 HNV.out.2.2.2.1 HNV.out.2.2.2.2 hg_); have BP13 := mk_ (blk_grown BP12.out hg_ (HO12.out.taken.ne_blk BP12.out)); have NP13 := mk_ (Kd.S_grown NP12.out hg_ (fun k hk e_ => hk.1.2.2.2 (by cases e_; rfl))); have HO13 := mk_ (show OS_ w w13 gO gU (.slice AF l0.length cF) vP gv l0 out (upd V f true) from ⟨blk_grown HO12.out.box hg_ (HO12.out.taken.ne_blk HO12.out.box), R_map HO12.out.flats HO12.out.taken hg_, Kd.S_mono NP13.out (fun _ hk => hk.1), hm_.eq (mapV_set vBool V f true)⟩); clear hm_ hg_))
       clear hcp1
       have hcp2 := bc2_ BP13.out
       have hfp2 := blk_frozen BP13.out 2
       have HOK := mk_ (show ∀ k, w13.heap.size ≤ k → okN w gO gU gv (.slice AF l0.length cF) k ∧ some k ≠ vP.ownBlock from fun k hk => by
        have a1 := blk_lt HS13.out.res
        have a2 := blk_lt HO13.out.box
        have a3 := HO13.out.taken.lt
        have a4 := below_size HS13.out.below
        exact ⟨⟨⟨by omega, fun e => by have := Kd.R_lt HO13.out.flats k e.symm; omega⟩, by omega, by omega, by omega⟩, fun e => by have := Kd.S_lt HO13.out.parties k e.symm; omega⟩)
       have NB13 := mk_ (show Kd.S k46 46 w13 w.heap.size (fun k_ => (okN w gO gU gv (.slice AF l0.length cF) k_ ∧ k_ ≠ gp) ∧ k_ < w13.heap.size) vP out from Kd.S_mono (Kd.S_bound NP13.out) (fun k hk => ⟨hk.1, hk.2.2.1⟩))
       have HZ13 := mk_ (below_size HS13.out.below)
       go_upto_region 33 with (first | (go_at_call 40; (with_reducible refine (slices_Clone_ints.calls Ap cp p.f2 p.f2 _ (Kd.C_below HPC.out.2 HS13.out.below) HPC.out.1 (by unfold slices_Clone_ints.f; rw [if_pos (by have := HPL.out; omega)])).mono ?_); rintro e w14 ⟨vW, rfl, hR_, hb_⟩; have HS14 := mk_ (HS13.out.later hb_); have HO14 := mk_ (HO13.out.later hb_); have NP14 := mk_ (Kd.S_below NP13.out hb_); have NB14 := mk_ (Kd.S_below NB13.out hb_); have BP14 := mk_ (blk_below BP13.out hb_); have RW14 := mk_ hR_; obtain ⟨AW, cW, eW⟩ := Kd.R_slice hR_; subst eW; have hB14 := mk_ (below_size hb_); replace hcp2 := cd_ hb_ hcp2; replace hfp2 := blk_frozen BP14.out 2; clear hb_ hR_))
       have hq := HO14.out.put BP14.out (show gU ≠ gp from by have := GPL.out; omega) NP14.out 2 (.slice AW p.f2.length cW)
       obtain ⟨w15, hw15⟩ : ∃ w15, w15 = w14.setCell ⟨gp, 2, none⟩ (.slice AW p.f2.length cW) := ⟨_, rfl⟩
       rw [← hw15]
       rw [← hw15] at hq
       have HO15 := mk_ hq.1
       have NB15 := mk_ (show Kd.S k46 46 w15 w.heap.size (fun k_ => (okN w gO gU gv (.slice AF l0.length cF) k_ ∧ k_ ≠ gp) ∧ k_ < w13.heap.size) vP out by rw [hw15]; exact Kd.S_far NB14.out (p := ⟨gp, 2, none⟩) (fun k hk => hk.1.2) _)
       have BP15 := mk_ (show w15.heap[gp]? = some (.cells #[.int .i64 p.f0, .int .i64 f, .slice AW p.f2.length cW] 46 (0, 0)) by rw [hw15]; exact blk_put BP14.out 2 _ rfl)
       have HS15 := mk_ (show NS w w15 gO gT g1 g2 g3 gt H K T M by rw [hw15]; exact HS14.out.put BP14.out (show gO ≠ gp from by have := GPL.out; omega) (by decide) GPL.out.2.2.1 2 _)
       have RW15 := mk_ (show Kd.R (Kd.int .i64) 3 w15 w13.heap.size (fun k_ => w13.heap.size ≤ k_) (.slice AW p.f2.length cW) p.f2 by rw [hw15]; exact Kd.R_set RW14.out BP14.out (by decide) _ _)
       have HZ15 := mk_ (show w13.heap.size ≤ w15.heap.size by rw [hw15]; have := hB14.out; first | (simp; omega) | (rw [World.size_setCell]; exact this))
       clear hw15 hq hcp2 hfp2 HS14 HO14 NP14 NB13 NB14 BP14 RW14 hB14
       obtain ⟨AP, cP, eP⟩ := Kd.S_slice HO15.out.parties
       subst eP
       have hcp0 := bc0_ BP15.out
       have hcp1 := bc1_ BP15.out
       have hcp2 := bc2_ BP15.out
       have hcU1 : w15.cell? ⟨gU, 1, none⟩ = some (.slice AP out.length cP) := (blk_cell HO15.out.box 1).trans rfl
       go_wp2_with (first | ((with_reducible refine gate_builtin (b := .append) (xs := #[.tmp 136, .tmp 138]) rfl ?_); at_builtin; refine Kd.S_append k46 (w0 := w) w.heap.size rfl (.tmp 136) (.tmp 138) 23 46 (.agg #[(.int .i64 0), (.int .i64 0), (.slice none 0 0)]) 40 rfl Try.underlying23 info46 rfl (by decide) (by omega) (.slice AP out.length cP) out (⟨p.f0, f, p.f2⟩ : S46) [.int .i64 p.f0, .int .i64 f, .slice AW p.f2.length cW] (okN w gO gU gv (.slice AF l0.length cF)) (fun k_ => w13.heap.size ≤ k_) rfl rfl (k46_mkM _ _ _ (⟨p.f0, f, p.f2⟩ : S46) (Kd.R_lower RW15.out HZ13.out)) HOK.out (fun k hk => (HOK.out k (Nat.le_trans HZ15.out hk)).1) (Kd.S_mono NB15.out (fun k hk => ⟨hk.1.1, Nat.not_le.2 hk.2⟩)) HS15.out.below (below_size HS15.out.below) (by have := HOL.out; have := HLT.out; have := HFA.out.2.1; omega) ?_; intro v17 w17 ho hb hg hat; have BU17 := mk_ (blk_grown HO15.out.box hg (Kd.R_ne (Kd.S_R HO15.out.parties) HO15.out.box (by decide))); have RF17 := mk_ (Kd.R_over' HO15.out.flats (Kd.S_typed HO15.out.parties) (by decide) hg); have HV17 := mk_ (HO15.out.taken.kept hg (map_row HO15.out.taken (Kd.S_typed HO15.out.parties))); have HS17 := mk_ (HS15.out.row (Kd.S_typed HO15.out.parties) (Kd.S_base HO15.out.parties) hg); have NP17 := mk_ ho; obtain ⟨A17, c17, e17⟩ := Kd.S_slice ho; rw [List.length_append, List.length_singleton] at e17; subst e17; replace hcU1 := (blk_cell BU17.out 1).trans rfl; have hfU1 := blk_frozen BU17.out 1; clear ho hb hg hat))
       go_roundg (gk - 1)
       case measure => have := HK.out; have := HLT.out; omega
       case rel =>
        refine ⟨n + 1, _, _, _, ?_, ⟨by have := HK.out; have := HLT.out; omega⟩, HN1, ⟨HS17.out.put BU17.out NOU.out (by decide) GU.out 1 _⟩, ⟨⟨blk_put BU17.out 1 _ rfl, Kd.R_set RF17.out BU17.out (by decide) _ _, Kd.S_far NP17.out (p := ⟨gU, 1, none⟩) (fun k hk => hk.2.2.1) _, HV17.out.move (Below.heap_setCell _ _ _ _ (fun e => HV17.out.ne_blk BU17.out (by rw [e])))⟩⟩⟩
        ·have := HI2.out
         first | (rw [show ((n + 1 : Nat) : Int) = i + 1 from by omega]; done) | (simp; omega)
      have z1 : (f == 0) = false := beq_eq_false_iff_ne.2 hz
      have z2 : (f != 0) = true := bne_iff_ne.2 hz
      cases hv : (V f).getD false with
      | true =>
       have HE := mk_ (show r = ([], [], 22) by
        have h0 : nxM M l2 l9 (n + 1) = none := by rw [HXN2.out, if_pos ⟨hz, hv⟩]
        have h1 := nxM_none h0 (l9.length - (n + 1))
        rw [show n + 1 + (l9.length - (n + 1)) = l9.length by have := HLT.out; omega] at h1
        rw [HRR4.out, h1]
        rfl)
       have HV1 := mk_ hv
       have hcO0 : w12.cell? ⟨gO, 0, none⟩ = some (.slice none 0 0) := (blk_cell HS12.out.res 0).trans rfl
       have hcO1 : w12.cell? ⟨gO, 1, none⟩ = some (.slice none 0 0) := (blk_cell HS12.out.res 1).trans rfl
       have hfO0 := blk_frozen HS12.out.res 0
       have hfO1 := blk_frozen HS12.out.res 1
       clear hz hv
       go_wp2_with (first | ((with_reducible refine gate_ (op := .lookup 66 (.tmp 122) (.tmp 124) false) rfl ?_); (try (refine gate_guard (by rfl) ?_; dsimp only)); refine wpList_lookI _ rfl (.tmp 122) (.tmp 124) 66 false rfl 3 4 Try.underlying66 Try.underlying3 (Try.zeroValue4 _) gv (mapV vBool V) rfl HO12.out.taken f rfl ?_; rw [if_neg (by decide), show (Value.bool false) = vBool false from rfl, mapV_get, HV1.out]; dsimp only [vBool]))
       refine bodyPost_ret (results_ct rfl _ _ gO 25 #[.slice none 0 0, .slice none 0 0] (0, 0) _ rfl (blk_put2 HS12.out.res _ _) Try.underlying25 rfl (by kernel_rfl)) rfl ?_
       rw [HE.out]
       exact ⟨_, _, rfl, Kd.R_nil _ _ _ _ _, Kd.S_nil _ _ _ _ _, below_put2 HS12.out.below GO.out _ _⟩
      | false =>
       have HV1 := mk_ hv
       have HN1 := mk_ (show nxM M l2 l9 (n + 1) = some (out ++ [⟨p.f0, f, p.f2⟩], upd V f true) by rw [HXN2.out, if_neg (fun h => by have := h.2; rw [hv] at this; cases this)])
       clear hz hv
       go_upto_region 32 with (first | ((with_reducible refine gate_ (op := .lookup 66 (.tmp 122) (.tmp 124) false) rfl ?_); (try (refine gate_guard (by rfl) ?_; dsimp only)); refine wpList_lookI _ rfl (.tmp 122) (.tmp 124) 66 false rfl 3 4 Try.underlying66 Try.underlying3 (Try.zeroValue4 _) gv (mapV vBool V) rfl HO12.out.taken f rfl ?_; rw [if_neg (by decide), show (Value.bool false) = vBool false from rfl, mapV_get, HV1.out]; dsimp only [vBool]) | ((with_reducible refine gate_ (op := .mapUpdate 66 (.tmp 128) (.tmp 130) (.const (.bool true))) rfl ?_); refine wpList_storeI _ rfl (.tmp 128) (.tmp 130) (.const (.bool true)) 66 rfl 3 4 Try.underlying66 Try.underlying3 gv (mapV vBool V) rfl HO12.out.taken f rfl (.bool true) rfl ?_; intro w13 hm_ hg_; have HS13 := mk_ (HS12.out.far HO12.out.taken HNV.out.1 HNV.out.2.1 HNV.out.2.2.1 HNV.out.2.2.2.1 HNV.out.2.2.2.2 hg_); have BP13 := mk_ (blk_grown BP12.out hg_ (HO12.out.taken.ne_blk BP12.out)); have NP13 := mk_ (Kd.S_grown NP12.out hg_ (fun k hk e_ => hk.1.2.2.2 (by cases e_; rfl))); have HO13 := mk_ (show OS_ w w13 gO gU (.slice AF l0.length cF) vP gv l0 out (upd V f true) from ⟨blk_grown HO12.out.box hg_ (HO12.out.taken.ne_blk HO12.out.box), R_map HO12.out.flats HO12.out.taken hg_, Kd.S_mono NP13.out (fun _ hk => hk.1), hm_.eq (mapV_set vBool V f true)⟩); clear hm_ hg_))
       clear hcp1
       have hcp2 := bc2_ BP13.out
       have hfp2 := blk_frozen BP13.out 2
       have HOK := mk_ (show ∀ k, w13.heap.size ≤ k → okN w gO gU gv (.slice AF l0.length cF) k ∧ some k ≠ vP.ownBlock from fun k hk => by
        have a1 := blk_lt HS13.out.res
        have a2 := blk_lt HO13.out.box
        have a3 := HO13.out.taken.lt
        have a4 := below_size HS13.out.below
        exact ⟨⟨⟨by omega, fun e => by have := Kd.R_lt HO13.out.flats k e.symm; omega⟩, by omega, by omega, by omega⟩, fun e => by have := Kd.S_lt HO13.out.parties k e.symm; omega⟩)
       have NB13 := mk_ (show Kd.S k46 46 w13 w.heap.size (fun k_ => (okN w gO gU gv (.slice AF l0.length cF) k_ ∧ k_ ≠ gp) ∧ k_ < w13.heap.size) vP out from Kd.S_mono (Kd.S_bound NP13.out) (fun k hk => ⟨hk.1, hk.2.2.1⟩))
       have HZ13 := mk_ (below_size HS13.out.below)
       go_upto_region 33 with (first | (go_at_call 40; (with_reducible refine (slices_Clone_ints.calls Ap cp p.f2 p.f2 _ (Kd.C_below HPC.out.2 HS13.out.below) HPC.out.1 (by unfold slices_Clone_ints.f; rw [if_pos (by have := HPL.out; omega)])).mono ?_); rintro e w14 ⟨vW, rfl, hR_, hb_⟩; have HS14 := mk_ (HS13.out.later hb_); have HO14 := mk_ (HO13.out.later hb_); have NP14 := mk_ (Kd.S_below NP13.out hb_); have NB14 := mk_ (Kd.S_below NB13.out hb_); have BP14 := mk_ (blk_below BP13.out hb_); have RW14 := mk_ hR_; obtain ⟨AW, cW, eW⟩ := Kd.R_slice hR_; subst eW; have hB14 := mk_ (below_size hb_); replace hcp2 := cd_ hb_ hcp2; replace hfp2 := blk_frozen BP14.out 2; clear hb_ hR_))
       have hq := HO14.out.put BP14.out (show gU ≠ gp from by have := GPL.out; omega) NP14.out 2 (.slice AW p.f2.length cW)
       obtain ⟨w15, hw15⟩ : ∃ w15, w15 = w14.setCell ⟨gp, 2, none⟩ (.slice AW p.f2.length cW) := ⟨_, rfl⟩
       rw [← hw15]
       rw [← hw15] at hq
       have HO15 := mk_ hq.1
       have NB15 := mk_ (show Kd.S k46 46 w15 w.heap.size (fun k_ => (okN w gO gU gv (.slice AF l0.length cF) k_ ∧ k_ ≠ gp) ∧ k_ < w13.heap.size) vP out by rw [hw15]; exact Kd.S_far NB14.out (p := ⟨gp, 2, none⟩) (fun k hk => hk.1.2) _)
       have BP15 := mk_ (show w15.heap[gp]? = some (.cells #[.int .i64 p.f0, .int .i64 f, .slice AW p.f2.length cW] 46 (0, 0)) by rw [hw15]; exact blk_put BP14.out 2 _ rfl)
       have HS15 := mk_ (show NS w w15 gO gT g1 g2 g3 gt H K T M by rw [hw15]; exact HS14.out.put BP14.out (show gO ≠ gp from by have := GPL.out; omega) (by decide) GPL.out.2.2.1 2 _)
       have RW15 := mk_ (show Kd.R (Kd.int .i64) 3 w15 w13.heap.size (fun k_ => w13.heap.size ≤ k_) (.slice AW p.f2.length cW) p.f2 by rw [hw15]; exact Kd.R_set RW14.out BP14.out (by decide) _ _)
       have HZ15 := mk_ (show w13.heap.size ≤ w15.heap.size by rw [hw15]; have := hB14.out; first | (simp; omega) | (rw [World.size_setCell]; exact this))
       clear hw15 hq hcp2 hfp2 HS14 HO14 NP14 NB13 NB14 BP14 RW14 hB14
       obtain ⟨AP, cP, eP⟩ := Kd.S_slice HO15.out.parties
       subst eP
       have hcp0 := bc0_ BP15.out
       have hcp1 := bc1_ BP15.out
       have hcp2 := bc2_ BP15.out
       have hcU1 : w15.cell? ⟨gU, 1, none⟩ = some (.slice AP out.length cP) := (blk_cell HO15.out.box 1).trans rfl
       go_wp2_with (first | ((with_reducible refine gate_builtin (b := .append) (xs := #[.tmp 136, .tmp 138]) rfl ?_); at_builtin; refine Kd.S_append k46 (w0 := w) w.heap.size rfl (.tmp 136) (.tmp 138) 23 46 (.agg #[(.int .i64 0), (.int .i64 0), (.slice none 0 0)]) 40 rfl Try.underlying23 info46 rfl (by decide) (by omega) (.slice AP out.length cP) out (⟨p.f0, f, p.f2⟩ : S46) [.int .i64 p.f0, .int .i64 f, .slice AW p.f2.length cW] (okN w gO gU gv (.slice AF l0.length cF)) (fun k_ => w13.heap.size ≤ k_) rfl rfl (k46_mkM _ _ _ (⟨p.f0, f, p.f2⟩ : S46) (Kd.R_lower RW15.out HZ13.out)) HOK.out (fun k hk => (HOK.out k (Nat.le_trans HZ15.out hk)).1) (Kd.S_mono NB15.out (fun k hk => ⟨hk.1.1, Nat.not_le.2 hk.2⟩)) HS15.out.below (below_size HS15.out.below) (by have := HOL.out; have := HLT.out; have := HFA.out.2.1; omega) ?_; intro v17 w17 ho hb hg hat; have BU17 := mk_ (blk_grown HO15.out.box hg (Kd.R_ne (Kd.S_R HO15.out.parties) HO15.out.box (by decide))); have RF17 := mk_ (Kd.R_over' HO15.out.flats (Kd.S_typed HO15.out.parties) (by decide) hg); have HV17 := mk_ (HO15.out.taken.kept hg (map_row HO15.out.taken (Kd.S_typed HO15.out.parties))); have HS17 := mk_ (HS15.out.row (Kd.S_typed HO15.out.parties) (Kd.S_base HO15.out.parties) hg); have NP17 := mk_ ho; obtain ⟨A17, c17, e17⟩ := Kd.S_slice ho; rw [List.length_append, List.length_singleton] at e17; subst e17; replace hcU1 := (blk_cell BU17.out 1).trans rfl; have hfU1 := blk_frozen BU17.out 1; clear ho hb hg hat))
       go_roundg (gk - 1)
       case measure => have := HK.out; have := HLT.out; omega
       case rel =>
        refine ⟨n + 1, _, _, _, ?_, ⟨by have := HK.out; have := HLT.out; omega⟩, HN1, ⟨HS17.out.put BU17.out NOU.out (by decide) GU.out 1 _⟩, ⟨⟨blk_put BU17.out 1 _ rfl, Kd.R_set RF17.out BU17.out (by decide) _ _, Kd.S_far NP17.out (p := ⟨gU, 1, none⟩) (fun k hk => hk.2.2.1) _, HV17.out.move (Below.heap_setCell _ _ _ _ (fun e => HV17.out.ne_blk BU17.out (by rw [e])))⟩⟩⟩
        ·have := HI2.out
         first | (rw [show ((n + 1 : Nat) : Int) = i + 1 from by omega]; done) | (simp; omega)
     | none =>
      have e : p.f1 = f := by rw [hf, hm]; rfl
      have HM1 := mk_ hm
      have HFE := mk_ e
      clear hm hf
      go_upto_region 29 with (first | (go_at_call 39; (with_reducible refine (slices_Contains_int_int.calls (l2.length + 1) A2 c2 l2 p.f0 _ _ (Kd.C_below HR2.out HS10.out.below) HC2.out HCN.out).mono ?_); rintro e w11 ⟨rfl, hd_⟩; have hb_ := hd_.below; have HS11 := mk_ (HS10.out.later hb_); have HO11 := mk_ (HO10.out.later hb_); have BP11 := mk_ (blk_below BP10.out hb_); replace hcp0 := cd_ hb_ hcp0; replace hcp1 := cd_ hb_ hcp1; have hfp1 := blk_frozen BP11.out 1; have NP11 := mk_ (Kd.S_below NP10.out hb_); clear hb_ hd_) | ((with_reducible refine gate_ (op := .lookup 65 (.tmp 109) (.tmp 111) true) rfl ?_); refine wpList_lookI _ rfl (.tmp 109) (.tmp 111) 65 true rfl 3 3 Try.underlying65 Try.underlying3 (Try.zeroValue3 _) gt (mapV vInt M) rfl HS11.out.too p.f0 rfl ?_; rw [if_pos rfl, show (Value.int IntKind.i64 0) = vInt 0 from rfl, mapV_get, mapV_some, HM1.out]; dsimp only [vInt, Option.getD_some, Option.isSome_some, Option.getD_none, Option.isSome_none]))
      obtain ⟨w12, hw12⟩ : ∃ w12, w12 = w11 := ⟨_, rfl⟩
      rw [← hw12] at HS11 HO11 NP11 BP11 ⊢
      have HS12 := HS11
      have HO12 := HO11
      have NP12 := NP11
      have BP12 := BP11
      rw [e] at BP12
      clear hw12 hcp0 hcp1 hfp1 e HS11 HO11 NP11 BP11
      have hcp1 := bc1_ BP12.out
      by_cases hz : f = 0
      ·have z1 : (f == 0) = true := beq_iff_eq.2 hz
       have z2 : (f != 0) = false := by rw [bne_eq_false_iff_eq]; exact hz
       have HN1 := mk_ (show nxM M l2 l9 (n + 1) = some (out ++ [⟨p.f0, f, p.f2⟩], upd V f true) by rw [HXN2.out, if_neg (fun h => h.1 hz)])
       clear hz
       go_upto_region 32 with (first | ((with_reducible refine gate_ (op := .mapUpdate 66 (.tmp 128) (.tmp 130) (.const (.bool true))) rfl ?_); refine wpList_storeI _ rfl (.tmp 128) (.tmp 130) (.const (.bool true)) 66 rfl 3 4 Try.underlying66 Try.underlying3 gv (mapV vBool V) rfl HO12.out.taken f rfl (.bool true) rfl ?_; intro w13 hm_ hg_; have HS13 := mk_ (HS12.out.far HO12.out.taken HNV.out.1 HNV.out.2.1 HNV.out.2.2.1 HNV.out.2.2.2.1 HNV.out.2.2.2.2 hg_); have BP13 := mk_ (blk_grown BP12.out hg_ (HO12.out.taken.ne_blk BP12.out)); have NP13 := mk_ (Kd.S_grown NP12.out hg_ (fun k hk e_ => hk.1.2.2.2 (by cases e_; rfl))); have HO13 := mk_ (show OS_ w w13 gO gU (.slice AF l0.length cF) vP gv l0 out (upd V f true) from ⟨blk_grown HO12.out.box hg_ (HO12.out.taken.ne_blk HO12.out.box), R_map HO12.out.flats HO12.out.taken hg_, Kd.S_mono NP13.out (fun _ hk => hk.1), hm_.eq (mapV_set vBool V f true)⟩); clear hm_ hg_))
       clear hcp1
       have hcp2 := bc2_ BP13.out
       have hfp2 := blk_frozen BP13.out 2
       have HOK := mk_ (show ∀ k, w13.heap.size ≤ k → okN w gO gU gv (.slice AF l0.length cF) k ∧ some k ≠ vP.ownBlock from fun k hk => by
        have a1 := blk_lt HS13.out.res
        have a2 := blk_lt HO13.out.box
        have a3 := HO13.out.taken.lt
        have a4 := below_size HS13.out.below
        exact ⟨⟨⟨by omega, fun e => by have := Kd.R_lt HO13.out.flats k e.symm; omega⟩, by omega, by omega, by omega⟩, fun e => by have := Kd.S_lt HO13.out.parties k e.symm; omega⟩)
       have NB13 := mk_ (show Kd.S k46 46 w13 w.heap.size (fun k_ => (okN w gO gU gv (.slice AF l0.length cF) k_ ∧ k_ ≠ gp) ∧ k_ < w13.heap.size) vP out from Kd.S_mono (Kd.S_bound NP13.out) (fun k hk => ⟨hk.1, hk.2.2.1⟩))
       have HZ13 := mk_ (below_size HS13.out.below)
       go_upto_region 33 with (first | (go_at_call 40; (with_reducible refine (slices_Clone_ints.calls Ap cp p.f2 p.f2 _ (Kd.C_below HPC.out.2 HS13.out.below) HPC.out.1 (by unfold slices_Clone_ints.f; rw [if_pos (by have := HPL.out; omega)])).mono ?_); rintro e w14 ⟨vW, rfl, hR_, hb_⟩; have HS14 := mk_ (HS13.out.later hb_); have HO14 := mk_ (HO13.out.later hb_); have NP14 := mk_ (Kd.S_below NP13.out hb_); have NB14 := mk_ (Kd.S_below NB13.out hb_); have BP14 := mk_ (blk_below BP13.out hb_); have RW14 := mk_ hR_; obtain ⟨AW, cW, eW⟩ := Kd.R_slice hR_; subst eW; have hB14 := mk_ (below_size hb_); replace hcp2 := cd_ hb_ hcp2; replace hfp2 := blk_frozen BP14.out 2; clear hb_ hR_))
       have hq := HO14.out.put BP14.out (show gU ≠ gp from by have := GPL.out; omega) NP14.out 2 (.slice AW p.f2.length cW)
       obtain ⟨w15, hw15⟩ : ∃ w15, w15 = w14.setCell ⟨gp, 2, none⟩ (.slice AW p.f2.length cW) := ⟨_, rfl⟩
       rw [← hw15]
       rw [← hw15] at hq
       have HO15 := mk_ hq.1
       have NB15 := mk_ (show Kd.S k46 46 w15 w.heap.size (fun k_ => (okN w gO gU gv (.slice AF l0.length cF) k_ ∧ k_ ≠ gp) ∧ k_ < w13.heap.size) vP out by rw [hw15]; exact Kd.S_far NB14.out (p := ⟨gp, 2, none⟩) (fun k hk => hk.1.2) _)
       have BP15 := mk_ (show w15.heap[gp]? = some (.cells #[.int .i64 p.f0, .int .i64 f, .slice AW p.f2.length cW] 46 (0, 0)) by rw [hw15]; exact blk_put BP14.out 2 _ rfl)
       have HS15 := mk_ (show NS w w15 gO gT g1 g2 g3 gt H K T M by rw [hw15]; exact HS14.out.put BP14.out (show gO ≠ gp from by have := GPL.out; omega) (by decide) GPL.out.2.2.1 2 _)
       have RW15 := mk_ (show Kd.R (Kd.int .i64) 3 w15 w13.heap.size (fun k_ => w13.heap.size ≤ k_) (.slice AW p.f2.length cW) p.f2 by rw [hw15]; exact Kd.R_set RW14.out BP14.out (by decide) _ _)
       have HZ15 := mk_ (show w13.heap.size ≤ w15.heap.size by rw [hw15]; have := hB14.out; first | (simp; omega) | (rw [World.size_setCell]; exact this))
       clear hw15 hq hcp2 hfp2 HS14 HO14 NP14 NB13 NB14 BP14 RW14 hB14
       obtain ⟨AP, cP, eP⟩ := Kd.S_slice HO15.out.parties
       subst eP
       have hcp0 := bc0_ BP15.out
       have hcp1 := bc1_ BP15.out
       have hcp2 := bc2_ BP15.out
       have hcU1 : w15.cell? ⟨gU, 1, none⟩ = some (.slice AP out.length cP) := (blk_cell HO15.out.box 1).trans rfl
       go_wp2_with (first | ((with_reducible refine gate_builtin (b := .append) (xs := #[.tmp 136, .tmp 138]) rfl ?_); at_builtin; refine Kd.S_append k46 (w0 := w) w.heap.size rfl (.tmp 136) (.tmp 138) 23 46 (.agg #[(.int .i64 0), (.int .i64 0), (.slice none 0 0)]) 40 rfl Try.underlying23 info46 rfl (by decide) (by omega) (.slice AP out.length cP) out (⟨p.f0, f, p.f2⟩ : S46) [.int .i64 p.f0, .int .i64 f, .slice AW p.f2.length cW] (okN w gO gU gv (.slice AF l0.length cF)) (fun k_ => w13.heap.size ≤ k_) rfl rfl (k46_mkM _ _ _ (⟨p.f0, f, p.f2⟩ : S46) (Kd.R_lower RW15.out HZ13.out)) HOK.out (fun k hk => (HOK.out k (Nat.le_trans HZ15.out hk)).1) (Kd.S_mono NB15.out (fun k hk => ⟨hk.1.1, Nat.not_le.2 hk.2⟩)) HS15.out.below (below_size HS15.out.below) (by have := HOL.out; have := HLT.out; have := HFA.out.2.1; omega) ?_; intro v17 w17 ho hb hg hat; have BU17 := mk_ (blk_grown HO15.out.box hg (Kd.R_ne (Kd.S_R HO15.out.parties) HO15.out.box (by decide))); have RF17 := mk_ (Kd.R_over' HO15.out.flats (Kd.S_typed HO15.out.parties) (by decide) hg); have HV17 := mk_ (HO15.out.taken.kept hg (map_row HO15.out.taken (Kd.S_typed HO15.out.parties))); have HS17 := mk_ (HS15.out.row (Kd.S_typed HO15.out.parties) (Kd.S_base HO15.out.parties) hg); have NP17 := mk_ ho; obtain ⟨A17, c17, e17⟩ := Kd.S_slice ho; rw [List.length_append, List.length_singleton] at e17; subst e17; replace hcU1 := (blk_cell BU17.out 1).trans rfl; have hfU1 := blk_frozen BU17.out 1; clear ho hb hg hat))
       go_roundg (gk - 1)
       case measure => have := HK.out; have := HLT.out; omega
       case rel =>
        refine ⟨n + 1, _, _, _, ?_, ⟨by have := HK.out; have := HLT.out; omega⟩, HN1, ⟨HS17.out.put BU17.out NOU.out (by decide) GU.out 1 _⟩, ⟨⟨blk_put BU17.out 1 _ rfl, Kd.R_set RF17.out BU17.out (by decide) _ _, Kd.S_far NP17.out (p := ⟨gU, 1, none⟩) (fun k hk => hk.2.2.1) _, HV17.out.move (Below.heap_setCell _ _ _ _ (fun e => HV17.out.ne_blk BU17.out (by rw [e])))⟩⟩⟩
        ·have := HI2.out
         first | (rw [show ((n + 1 : Nat) : Int) = i + 1 from by omega]; done) | (simp; omega)
      have z1 : (f == 0) = false := beq_eq_false_iff_ne.2 hz
      have z2 : (f != 0) = true := bne_iff_ne.2 hz
      cases hv : (V f).getD false with
      | true =>
       have HE := mk_ (show r = ([], [], 22) by
        have h0 : nxM M l2 l9 (n + 1) = none := by rw [HXN2.out, if_pos ⟨hz, hv⟩]
        have h1 := nxM_none h0 (l9.length - (n + 1))
        rw [show n + 1 + (l9.length - (n + 1)) = l9.length by have := HLT.out; omega] at h1
        rw [HRR4.out, h1]
        rfl)
       have HV1 := mk_ hv
       have hcO0 : w12.cell? ⟨gO, 0, none⟩ = some (.slice none 0 0) := (blk_cell HS12.out.res 0).trans rfl
       have hcO1 : w12.cell? ⟨gO, 1, none⟩ = some (.slice none 0 0) := (blk_cell HS12.out.res 1).trans rfl
       have hfO0 := blk_frozen HS12.out.res 0
       have hfO1 := blk_frozen HS12.out.res 1
       clear hz hv
       go_wp2_with (first | ((with_reducible refine gate_ (op := .lookup 66 (.tmp 122) (.tmp 124) false) rfl ?_); (try (refine gate_guard (by rfl) ?_; dsimp only)); refine wpList_lookI _ rfl (.tmp 122) (.tmp 124) 66 false rfl 3 4 Try.underlying66 Try.underlying3 (Try.zeroValue4 _) gv (mapV vBool V) rfl HO12.out.taken f rfl ?_; rw [if_neg (by decide), show (Value.bool false) = vBool false from rfl, mapV_get, HV1.out]; dsimp only [vBool]))
       refine bodyPost_ret (results_ct rfl _ _ gO 25 #[.slice none 0 0, .slice none 0 0] (0, 0) _ rfl (blk_put2 HS12.out.res _ _) Try.underlying25 rfl (by kernel_rfl)) rfl ?_
       rw [HE.out]
       exact ⟨_, _, rfl, Kd.R_nil _ _ _ _ _, Kd.S_nil _ _ _ _ _, below_put2 HS12.out.below GO.out _ _⟩
      | false =>
       have HV1 := mk_ hv
       have HN1 := mk_ (show nxM M l2 l9 (n + 1) = some (out ++ [⟨p.f0, f, p.f2⟩], upd V f true) by rw [HXN2.out, if_neg (fun h => by have := h.2; rw [hv] at this; cases this)])
       clear hz hv
       go_upto_region 32 with (first | ((with_reducible refine gate_ (op := .lookup 66 (.tmp 122) (.tmp 124) false) rfl ?_); (try (refine gate_guard (by rfl) ?_; dsimp only)); refine wpList_lookI _ rfl (.tmp 122) (.tmp 124) 66 false rfl 3 4 Try.underlying66 Try.underlying3 (Try.zeroValue4 _) gv (mapV vBool V) rfl HO12.out.taken f rfl ?_; rw [if_neg (by decide), show (Value.bool false) = vBool false from rfl, mapV_get, HV1.out]; dsimp only [vBool]) | ((with_reducible refine gate_ (op := .mapUpdate 66 (.tmp 128) (.tmp 130) (.const (.bool true))) rfl ?_); refine wpList_storeI _ rfl (.tmp 128) (.tmp 130) (.const (.bool true)) 66 rfl 3 4 Try.underlying66 Try.underlying3 gv (mapV vBool V) rfl HO12.out.taken f rfl (.bool true) rfl ?_; intro w13 hm_ hg_; have HS13 := mk_ (HS12.out.far HO12.out.taken HNV.out.1 HNV.out.2.1 HNV.out.2.2.1 HNV.out.2.2.2.1 HNV.out.2.2.2.2 hg_); have BP13 := mk_ (blk_grown BP12.out hg_ (HO12.out.taken.ne_blk BP12.out)); have NP13 := mk_ (Kd.S_grown NP12.out hg_ (fun k hk e_ => hk.1.2.2.2 (by cases e_; rfl))); have HO13 := mk_ (show OS_ w w13 gO gU (.slice AF l0.length cF) vP gv l0 out (upd V f true) from ⟨blk_grown HO12.out.box hg_ (HO12.out.taken.ne_blk HO12.out.box), R_map HO12.out.flats HO12.out.taken hg_, Kd.S_mono NP13.out (fun _ hk => hk.1), hm_.eq (mapV_set vBool V f true)⟩); clear hm_ hg_))
       clear hcp1
       have hcp2 := bc2_ BP13.out
       have hfp2 := blk_frozen BP13.out 2
       have HOK := mk_ (show ∀ k, w13.heap.size ≤ k → okN w gO gU gv (.slice AF l0.length cF) k ∧ some k ≠ vP.ownBlock from fun k hk => by
        have a1 := blk_lt HS13.out.res
        have a2 := blk_lt HO13.out.box
        have a3 := HO13.out.taken.lt
        have a4 := below_size HS13.out.below
        exact ⟨⟨⟨by omega, fun e => by have := Kd.R_lt HO13.out.flats k e.symm; omega⟩, by omega, by omega, by omega⟩, fun e => by have := Kd.S_lt HO13.out.parties k e.symm; omega⟩)
       have NB13 := mk_ (show Kd.S k46 46 w13 w.heap.size (fun k_ => (okN w gO gU gv (.slice AF l0.length cF) k_ ∧ k_ ≠ gp) ∧ k_ < w13.heap.size) vP out from Kd.S_mono (Kd.S_bound NP13.out) (fun k hk => ⟨hk.1, hk.2.2.1⟩))
       have HZ13 := mk_ (below_size HS13.out.below)
       go_upto_region 33 with (first | (go_at_call 40; (with_reducible refine (slices_Clone_ints.calls Ap cp p.f2 p.f2 _ (Kd.C_below HPC.out.2 HS13.out.below) HPC.out.1 (by unfold slices_Clone_ints.f; rw [if_pos (by have := HPL.out; omega)])).mono ?_); rintro e w14 ⟨vW, rfl, hR_, hb_⟩; have HS14 := mk_ (HS13.out.later hb_); have HO14 := mk_ (HO13.out.later hb_); have NP14 := mk_ (Kd.S_below NP13.out hb_); have NB14 := mk_ (Kd.S_below NB13.out hb_); have BP14 := mk_ (blk_below BP13.out hb_); have RW14 := mk_ hR_; obtain ⟨AW, cW, eW⟩ := Kd.R_slice hR_; subst eW; have hB14 := mk_ (below_size hb_); replace hcp2 := cd_ hb_ hcp2; replace hfp2 := blk_frozen BP14.out 2; clear hb_ hR_))
       have hq := HO14.out.put BP14.out (show gU ≠ gp from by have := GPL.out; omega) NP14.out 2 (.slice AW p.f2.length cW)
       obtain ⟨w15, hw15⟩ : ∃ w15, w15 = w14.setCell ⟨gp, 2, none⟩ (.slice AW p.f2.length cW) := ⟨_, rfl⟩
       rw [← hw15]
       rw [← hw15] at hq
       have HO15 := mk_ hq.1
       have NB15 := mk_ (show Kd.S k46 46 w15 w.heap.size (fun k_ => (okN w gO gU gv (.slice AF l0.length cF) k_ ∧ k_ ≠ gp) ∧ k_ < w13.heap.size) vP out by rw [hw15]; exact Kd.S_far NB14.out (p := ⟨gp, 2, none⟩) (fun k hk => hk.1.2) _)
       have BP15 := mk_ (show w15.heap[gp]? = some (.cells #[.int .i64 p.f0, .int .i64 f, .slice AW p.f2.length cW] 46 (0, 0)) by rw [hw15]; exact blk_put BP14.out 2 _ rfl)
       have HS15 := mk_ (show NS w w15 gO gT g1 g2 g3 gt H K T M by rw [hw15]; exact HS14.out.put BP14.out (show gO ≠ gp from by have := GPL.out; omega) (by decide) GPL.out.2.2.1 2 _)
       have RW15 := mk_ (show Kd.R (Kd.int .i64) 3 w15 w13.heap.size (fun k_ => w13.heap.size ≤ k_) (.slice AW p.f2.length cW) p.f2 by rw [hw15]; exact Kd.R_set RW14.out BP14.out (by decide) _ _)
       have HZ15 := mk_ (show w13.heap.size ≤ w15.heap.size by rw [hw15]; have := hB14.out; first | (simp; omega) | (rw [World.size_setCell]; exact this))
       clear hw15 hq hcp2 hfp2 HS14 HO14 NP14 NB13 NB14 BP14 RW14 hB14
       obtain ⟨AP, cP, eP⟩ := Kd.S_slice HO15.out.parties
       subst eP
       have hcp0 := bc0_ BP15.out
       have hcp1 := bc1_ BP15.out
       have hcp2 := bc2_ BP15.out
       have hcU1 : w15.cell? ⟨gU, 1, none⟩ = some (.slice AP out.length cP) := (blk_cell HO15.out.box 1).trans rfl
       go_wp2_with (first | ((with_reducible refine gate_builtin (b := .append) (xs := #[.tmp 136, .tmp 138]) rfl ?_); at_builtin; refine Kd.S_append k46 (w0 := w) w.heap.size rfl (.tmp 136) (.tmp 138) 23 46 (.agg #[(.int .i64 0), (.int .i64 0), (.slice none 0 0)]) 40 rfl Try.underlying23 info46 rfl (by decide) (by omega) (.slice AP out.length cP) out (⟨p.f0, f, p.f2⟩ : S46) [.int .i64 p.f0, .int .i64 f, .slice AW p.f2.length cW] (okN w gO gU gv (.slice AF l0.length cF)) (fun k_ => w13.heap.size ≤ k_) rfl rfl (k46_mkM _ _ _ (⟨p.f0, f, p.f2⟩ : S46) (Kd.R_lower RW15.out HZ13.out)) HOK.out (fun k hk => (HOK.out k (Nat.le_trans HZ15.out hk)).1) (Kd.S_mono NB15.out (fun k hk => ⟨hk.1.1, Nat.not_le.2 hk.2⟩)) HS15.out.below (below_size HS15.out.below) (by have := HOL.out; have := HLT.out; have := HFA.out.2.1; omega) ?_; intro v17 w17 ho hb hg hat; have BU17 := mk_ (blk_grown HO15.out.box hg (Kd.R_ne (Kd.S_R HO15.out.parties) HO15.out.box (by decide))); have RF17 := mk_ (Kd.R_over' HO15.out.flats (Kd.S_typed HO15.out.parties) (by decide) hg); have HV17 := mk_ (HO15.out.taken.kept hg (map_row HO15.out.taken (Kd.S_typed HO15.out.parties))); have HS17 := mk_ (HS15.out.row (Kd.S_typed HO15.out.parties) (Kd.S_base HO15.out.parties) hg); have NP17 := mk_ ho; obtain ⟨A17, c17, e17⟩ := Kd.S_slice ho; rw [List.length_append, List.length_singleton] at e17; subst e17; replace hcU1 := (blk_cell BU17.out 1).trans rfl; have hfU1 := blk_frozen BU17.out 1; clear ho hb hg hat))
       go_roundg (gk - 1)
       case measure => have := HK.out; have := HLT.out; omega
       case rel =>
        refine ⟨n + 1, _, _, _, ?_, ⟨by have := HK.out; have := HLT.out; omega⟩, HN1, ⟨HS17.out.put BU17.out NOU.out (by decide) GU.out 1 _⟩, ⟨⟨blk_put BU17.out 1 _ rfl, Kd.R_set RF17.out BU17.out (by decide) _ _, Kd.S_far NP17.out (p := ⟨gU, 1, none⟩) (fun k hk => hk.2.2.1) _, HV17.out.move (Below.heap_setCell _ _ _ _ (fun e => HV17.out.ne_blk BU17.out (by rw [e])))⟩⟩⟩
        ·have := HI2.out
         first | (rw [show ((n + 1 : Nat) : Int) = i + 1 from by omega]; done) | (simp; omega)
theorem chain_Next.calls (A0_0 : Option Addr) (c0_0 : Nat) (l0_0 : List (S84)) (A0_1 : Option Addr) (c0_1 : Nat) (l0_1 : List (S46)) (A1 : Option Addr) (c1 : Nat) (l1 : List (S51)) (A2 : Option Addr) (c2 : Nat) (l2 : List Int) (r1 : List (S84)) (r2 : List (S46)) (r3 : Int) (w : World) (hr0_0 : Kd.C k84 w A0_0 l0_0.length l0_0) (hc0_0 : l0_0.length ≤ c0_0) (hr0_1 : Kd.C k46 w A0_1 l0_1.length l0_1) (hc0_1 : l0_1.length ≤ c0_1) (hr1 : Kd.C k51 w A1 l1.length l1) (hc1 : l1.length ≤ c1) (hr2 : Kd.C (Kd.int .i64) w A2 l2.length l2) (hc2 : l2.length ≤ c2) (h : chain_Next.f l0_0 l0_1 l1 l2 = some (r1, r2, r3)) :
  Calls Try.prog 15 #[.agg #[.slice A0_0 l0_0.length c0_0, .slice A0_1 l0_1.length c0_1], .slice A1 l1.length c1, .slice A2 l2.length c2] w fun e w' => ∃ v0_ v1_ : Value, e = .returned (.tuple #[.agg #[v0_, v1_], .int .i64 r3]) ∧ Kd.R k84 84 w' w.heap.size (fun _ => True) v0_ r1 ∧ Kd.S k46 46 w' w.heap.size (fun _ => True) v1_ r2 ∧ Below w.heap.size w w' := by
 unfold chain_Next.f at h
 by_cases hf : fewN l0_0 l0_1 l1 l2 = true
 case neg => rw [if_neg hf] at h; cases h
 rw [if_pos hf] at h
 refine (next_calls A0_0 c0_0 l0_0 A0_1 c0_1 l0_1 A1 c1 l1 A2 c2 l2 (r1, r2, r3) w hr0_0 hc0_0 hr0_1 hc0_1 hr1 hc1 hr2 hc2 hf (Option.some.inj h).symm).mono ?_
 rintro e w' ⟨v0_, v1_, he, h0, h1, hb⟩
 exact ⟨v0_, v1_, he, Kd.R_mono h0 (fun _ _ => trivial), Kd.S_mono h1 (fun _ _ => trivial), hb⟩
end Go.Proofs.Ytocbiggglnpeoaa.M
end
section
namespace Go.Proofs.Ytocbiggglnpeoaa.M
open Go.RowKit Go.Proofs.YtocbiggglnpeoaaW.PrintWords Go.Proofs.YtocbiggglnpeoaaW.PrintLast Go.Proofs.YtocbiggglnpeoaaW.PrintMore
attribute [local go_sem] max2_int min2_int max_two min_two max_three min_three max_four min_four
set_option linter.unusedVariables false
set_option linter.unusedSimpArgs false
theorem eqA51 (d : Nat) (w : World) (x0 y0 : Int) (x1 y1 : Int) (x2 y2 : Int) :
  (Op.equalIn (d + 2) 51 (.agg #[.int .i64 x0, .int .i64 x1, .int .i64 x2]) (.agg #[.int .i64 y0, .int .i64 y1, .int .i64 y2])).run Try.prog w = .ok (x0 == y0 && (x1 == y1 && (x2 == y2))) w := by
 refine eqA_of Try.underlying51 (by kernel_rfl) ?_
 refine eqf_cons (by rfl) (by go_simp; rfl) (by go_simp; rfl) (by go_simp) ?_
 refine eqf_cons (by rfl) (by go_simp; rfl) (by go_simp; rfl) (by go_simp) ?_
 exact eqf_last (by rfl) (by go_simp; rfl) (by go_simp; rfl) (by go_simp)
end Go.Proofs.Ytocbiggglnpeoaa.M
end
section
namespace Go.Proofs.Ytocbiggglnpeoaa.M
open Go.RowKit Go.Proofs.YtocbiggglnpeoaaW.PrintWords Go.Proofs.YtocbiggglnpeoaaW.PrintLast Go.Proofs.YtocbiggglnpeoaaW.PrintMore
attribute [local go_sem] max2_int min2_int max_two min_two max_three min_three max_four min_four
set_option linter.unusedVariables false
set_option linter.unusedSimpArgs false
attribute [local go_sem high] eqA51
def cohousingref26_SameMoves.l0 : Nat → List (S51) → List (S51) → Int → Option (Bool)
 | 0, _, _, _ => none
 | k + 1, x0, x1, x5 => if x5 < (x0.length : Int) then (if 0 ≤ x5 then (if x5 < (x1.length : Int) then (if (!(((rd_T51 x0 x5).f0) == ((rd_T51 x1 x5).f0)) || (!(((rd_T51 x0 x5).f1) == ((rd_T51 x1 x5).f1)) || (!(((rd_T51 x0 x5).f2) == ((rd_T51 x1 x5).f2))))) = true then (some false) else (cohousingref26_SameMoves.l0 k x0 x1 (wrap64 (x5 + 1)))) else (none)) else (none)) else (some true)
def cohousingref26_SameMoves.f (k : Nat) (l0 : List (S51)) (l1 : List (S51)) : Option (Bool) := if (l0.length : Int) = (l1.length : Int) then (cohousingref26_SameMoves.l0 k l0 l1 0) else (some false)
theorem cohousingref26_SameMoves.mono_l : ∀ k, (∀ y0 y1 y2, LeO (cohousingref26_SameMoves.l0 k y0 y1 y2) (cohousingref26_SameMoves.l0 (k + 1) y0 y1 y2))
 | 0 => fun _ _ _ r h => by simp [cohousingref26_SameMoves.l0] at h
 | k + 1 => by
  have ih0 := cohousingref26_SameMoves.mono_l k
  ·intro y0 y1 y2
   unfold cohousingref26_SameMoves.l0
   repeat' first
   | (with_reducible exact ih0 _ _ _)
   | (with_reducible exact LeO.refl _)
   | (with_reducible exact LeO.none _)
   | (with_reducible refine LeO.ite ?_ ?_)
   | (with_reducible refine LeO.bind ?_ (fun _ => ?_))
   | exact ih0 _ _ _
   | exact LeO.none _
   | refine LeO.ite ?_ ?_
   | refine LeO.bind ?_ (fun _ => ?_)
theorem cohousingref26_SameMoves.mono : ∀ a0 a1 k, LeO (cohousingref26_SameMoves.f k a0 a1) (cohousingref26_SameMoves.f (k + 1) a0 a1) := by
 intro a0 a1 k
 have ih0 := cohousingref26_SameMoves.mono_l k
 unfold cohousingref26_SameMoves.f
 repeat' first
   | (with_reducible exact ih0 _ _ _)
   | (with_reducible exact LeO.refl _)
   | (with_reducible exact LeO.none _)
   | (with_reducible refine LeO.ite ?_ ?_)
   | (with_reducible refine LeO.bind ?_ (fun _ => ?_))
   | exact ih0 _ _ _
   | exact LeO.none _
   | refine LeO.ite ?_ ?_
   | refine LeO.bind ?_ (fun _ => ?_)
set_option maxHeartbeats 8000000 in
set_option maxRecDepth 100000 in
theorem cohousingref26_SameMoves.calls (k : Nat) (A0 : Option Addr) (c0 : Nat) (l0 : List (S51)) (A1 : Option Addr) (c1 : Nat) (l1 : List (S51)) (r : Bool) (w : World) (hr0 : Kd.C k51 w A0 l0.length l0) (hc0 : l0.length ≤ c0) (hr1 : Kd.C k51 w A1 l1.length l1) (hc1 : l1.length ≤ c1) (h : cohousingref26_SameMoves.f k l0 l1 = some r) :
  Calls Try.prog 17 #[.slice A0 l0.length c0, .slice A1 l1.length c1] w fun e w' => e = .returned (.bool r) ∧ Drawn0 w w' := by
 have hu51 := Try.underlying51
 have HR0 := mk_ hr0
 have HC0 := mk_ hc0
 clear hr0 hc0
 have HR1 := mk_ hr1
 have HC1 := mk_ hc1
 clear hr1 hc1
 have H : (if (l0.length : Int) = (l1.length : Int) then (cohousingref26_SameMoves.l0 k l0 l1 0) else (some false)) = some r := h
 clear h
 by_cases c3 : (l0.length : Int) = (l1.length : Int)
 rotate_left
 ·rw [if_neg c3] at H
  have c3b0 : ((l0.length : Int) == (l1.length : Int)) = false := beq_eq_false_iff_ne.mpr c3
  have c3b1 : ((l0.length : Int) != (l1.length : Int)) = true := bne_iff_ne.mpr c3
  have c3b2 : (l0.length == l1.length) = false := by first | simpa using c3 | (simp at c3 ⊢; omega)
  obtain rfl := Option.some.inj H
  go_enter Try.func17, Try.ntmps17
  go_wp2
  repeat (go_quiet (fail); try go_wp2)
  go_ret
  exact ⟨by first | rfl | (simp; done) | (simp [*]; done), by repeat (first | exact Drawn0.refl _ | apply Drawn0.step)⟩
 rw [if_pos c3] at H
 have c3b0 : ((l0.length : Int) == (l1.length : Int)) = true := beq_iff_eq.mpr c3
 have c3b1 : ((l0.length : Int) != (l1.length : Int)) = false := bne_eq_false_iff_eq.mpr c3
 have c3b2 : (l0.length == l1.length) = true := by first | simpa using c3 | (simp at c3 ⊢; omega)
 clear c3
 have H' := mk_ H
 clear H
 go_enter Try.func17, Try.ntmps17
 go_wp2
 repeat (go_quiet (fail); try go_wp2)
 go_loopg [5] k (fun kq v5 w' => ∃ (x5_1 : Int), v5 = .int .i64 x5_1 ∧ Aside0 (cohousingref26_SameMoves.l0 kq l0 l1 x5_1 = some r) ∧ Aside0 (kq ≤ k) ∧ Drawn0 w w')
 case atStart => exact ⟨(0), sd_, H', ⟨Nat.le_refl _⟩, by repeat (first | exact Drawn0.refl _ | apply Drawn0.step)⟩
 case round =>
  clear H'
  try clear c1; try clear p2; try clear c3; try clear c3b0; try clear c3b1; try clear c3b2
  obtain ⟨x5_1, rfl, HA, HK1, ⟨m1, rfl⟩⟩ := hrel
  cases gk with
  | zero => exact absurd HA.out (by simp [cohousingref26_SameMoves.l0])
  | succ k1 =>
   have H := HA.out
   clear HA
   simp only [cohousingref26_SameMoves.l0] at H
   by_cases c4 : x5_1 < (l0.length : Int)
   rotate_left
   ·rw [if_neg c4] at H
    have c4b0 : decide (x5_1 < (l0.length : Int)) = false := decide_eq_false c4
    clear c4
    obtain rfl := Option.some.inj H
    go_wp2
    repeat (go_quiet (fail); try go_wp2)
    go_ret
    exact ⟨by first | rfl | (simp; done) | (simp [*]; done), by repeat (first | exact Drawn0.refl _ | apply Drawn0.step)⟩
   rw [if_pos c4] at H
   have c4b0 : decide (x5_1 < (l0.length : Int)) = true := decide_eq_true c4
   clear c4
   by_cases c5 : 0 ≤ x5_1
   rotate_left
   ·rw [if_neg c5] at H
    exact absurd H (by simp)
   rw [if_pos c5] at H
   have c5b0 : decide (0 ≤ x5_1) = true := decide_eq_true c5
   clear c5
   by_cases c6 : x5_1 < (l1.length : Int)
   rotate_left
   ·rw [if_neg c6] at H
    exact absurd H (by simp)
   rw [if_pos c6] at H
   have c6b0 : decide (x5_1 < (l1.length : Int)) = true := decide_eq_true c6
   clear c6
   by_cases c7 : (!(((rd_T51 l0 x5_1).f0) == ((rd_T51 l1 x5_1).f0)) || (!(((rd_T51 l0 x5_1).f1) == ((rd_T51 l1 x5_1).f1)) || (!(((rd_T51 l0 x5_1).f2) == ((rd_T51 l1 x5_1).f2))))) = true
   ·rw [if_pos c7] at H
    have c7b0 : (!(((rd_T51 l0 x5_1).f0) == ((rd_T51 l1 x5_1).f0)) || (!(((rd_T51 l0 x5_1).f1) == ((rd_T51 l1 x5_1).f1)) || (!(((rd_T51 l0 x5_1).f2) == ((rd_T51 l1 x5_1).f2))))) = true := c7
    clear c7
    obtain rfl := Option.some.inj H
    have p103 : 0 ≤ (x5_1 : Int) := od_
    have q103 : x5_1 < (l0.length : Int) := od_
    obtain ⟨ad103, e103, hx103_0, hx103_1, hx103_2⟩ := at_T51 HR0.out x5_1 p103 q103
    cases e103
    replace p103 := eq_true p103
    replace q103 := eq_true q103
    have p104 : 0 ≤ (x5_1 : Int) := od_
    have q104 : x5_1 < (l1.length : Int) := od_
    obtain ⟨ad104, e104, hx104_0, hx104_1, hx104_2⟩ := at_T51 HR1.out x5_1 p104 q104
    cases e104
    replace p104 := eq_true p104
    replace q104 := eq_true q104
    go_wp2
    repeat (go_quiet (fail); try go_wp2)
    go_ret
    exact ⟨by first | rfl | (simp; done) | (simp [*]; done), by repeat (first | exact Drawn0.refl _ | apply Drawn0.step)⟩
   rw [if_neg c7] at H
   have c7b0 : (!(((rd_T51 l0 x5_1).f0) == ((rd_T51 l1 x5_1).f0)) || (!(((rd_T51 l0 x5_1).f1) == ((rd_T51 l1 x5_1).f1)) || (!(((rd_T51 l0 x5_1).f2) == ((rd_T51 l1 x5_1).f2))))) = false := by simpa using c7
   clear c7
   have H' := mk_ H
   clear H
   have p103 : 0 ≤ (x5_1 : Int) := od_
   have q103 : x5_1 < (l0.length : Int) := od_
   obtain ⟨ad103, e103, hx103_0, hx103_1, hx103_2⟩ := at_T51 HR0.out x5_1 p103 q103
   cases e103
   replace p103 := eq_true p103
   replace q103 := eq_true q103
   have p104 : 0 ≤ (x5_1 : Int) := od_
   have q104 : x5_1 < (l1.length : Int) := od_
   obtain ⟨ad104, e104, hx104_0, hx104_1, hx104_2⟩ := at_T51 HR1.out x5_1 p104 q104
   cases e104
   replace p104 := eq_true p104
   replace q104 := eq_true q104
   go_wp2
   repeat (go_quiet (fail); try go_wp2)
   go_roundg k1
   case measure => have := HK1.out; omega
   case rel => exact ⟨(wrap64 (x5_1 + 1)), sd_, H', ⟨by have := HK1.out; omega⟩, by repeat (first | exact Drawn0.refl _ | apply Drawn0.step)⟩
end Go.Proofs.Ytocbiggglnpeoaa.M
end
section
namespace Go.Proofs.Ytocbiggglnpeoaa.M
open Go.RowKit Go.Proofs.YtocbiggglnpeoaaW.PrintWords Go.Proofs.YtocbiggglnpeoaaW.PrintLast Go.Proofs.YtocbiggglnpeoaaW.PrintMore
attribute [local go_sem] max2_int min2_int max_two min_two max_three min_three max_four min_four
set_option linter.unusedVariables false
set_option linter.unusedSimpArgs false
def cohousingref23_SameInts.l0 : Nat → List Int → List Int → Int → Option (Bool)
 | 0, _, _, _ => none
 | k + 1, x0, x1, x5 => if x5 < (x0.length : Int) then (if 0 ≤ x5 then (if x5 < (x1.length : Int) then (if (rd x0 x5) = (rd x1 x5) then (cohousingref23_SameInts.l0 k x0 x1 (wrap64 (x5 + 1))) else (some false)) else (none)) else (none)) else (some true)
def cohousingref23_SameInts.f (k : Nat) (l0 : List Int) (l1 : List Int) : Option (Bool) := if (l0.length : Int) = (l1.length : Int) then (cohousingref23_SameInts.l0 k l0 l1 0) else (some false)
theorem cohousingref23_SameInts.mono_l : ∀ k, (∀ y0 y1 y2, LeO (cohousingref23_SameInts.l0 k y0 y1 y2) (cohousingref23_SameInts.l0 (k + 1) y0 y1 y2))
 | 0 => fun _ _ _ r h => by simp [cohousingref23_SameInts.l0] at h
 | k + 1 => by
  have ih0 := cohousingref23_SameInts.mono_l k
  ·intro y0 y1 y2
   unfold cohousingref23_SameInts.l0
   repeat' first
   | (with_reducible exact ih0 _ _ _)
   | (with_reducible exact LeO.refl _)
   | (with_reducible exact LeO.none _)
   | (with_reducible refine LeO.ite ?_ ?_)
   | (with_reducible refine LeO.bind ?_ (fun _ => ?_))
   | exact ih0 _ _ _
   | exact LeO.none _
   | refine LeO.ite ?_ ?_
   | refine LeO.bind ?_ (fun _ => ?_)
theorem cohousingref23_SameInts.mono : ∀ a0 a1 k, LeO (cohousingref23_SameInts.f k a0 a1) (cohousingref23_SameInts.f (k + 1) a0 a1) := by
 intro a0 a1 k
 have ih0 := cohousingref23_SameInts.mono_l k
 unfold cohousingref23_SameInts.f
 repeat' first
   | (with_reducible exact ih0 _ _ _)
   | (with_reducible exact LeO.refl _)
   | (with_reducible exact LeO.none _)
   | (with_reducible refine LeO.ite ?_ ?_)
   | (with_reducible refine LeO.bind ?_ (fun _ => ?_))
   | exact ih0 _ _ _
   | exact LeO.none _
   | refine LeO.ite ?_ ?_
   | refine LeO.bind ?_ (fun _ => ?_)
set_option maxHeartbeats 8000000 in
set_option maxRecDepth 100000 in
theorem cohousingref23_SameInts.calls (k : Nat) (A0 : Option Addr) (c0 : Nat) (l0 : List Int) (A1 : Option Addr) (c1 : Nat) (l1 : List Int) (r : Bool) (w : World) (hr0 : Kd.C (Kd.int .i64) w A0 l0.length l0) (hc0 : l0.length ≤ c0) (hr1 : Kd.C (Kd.int .i64) w A1 l1.length l1) (hc1 : l1.length ≤ c1) (h : cohousingref23_SameInts.f k l0 l1 = some r) :
  Calls Try.prog 18 #[.slice A0 l0.length c0, .slice A1 l1.length c1] w fun e w' => e = .returned (.bool r) ∧ Drawn0 w w' := by
 have HR0 := mk_ hr0
 have HC0 := mk_ hc0
 clear hr0 hc0
 have HR1 := mk_ hr1
 have HC1 := mk_ hc1
 clear hr1 hc1
 have H : (if (l0.length : Int) = (l1.length : Int) then (cohousingref23_SameInts.l0 k l0 l1 0) else (some false)) = some r := h
 clear h
 by_cases c3 : (l0.length : Int) = (l1.length : Int)
 rotate_left
 ·rw [if_neg c3] at H
  have c3b0 : ((l0.length : Int) == (l1.length : Int)) = false := beq_eq_false_iff_ne.mpr c3
  have c3b1 : ((l0.length : Int) != (l1.length : Int)) = true := bne_iff_ne.mpr c3
  have c3b2 : (l0.length == l1.length) = false := by first | simpa using c3 | (simp at c3 ⊢; omega)
  obtain rfl := Option.some.inj H
  go_enter Try.func18, Try.ntmps18
  go_wp2
  repeat (go_quiet (fail); try go_wp2)
  go_ret
  exact ⟨by first | rfl | (simp; done) | (simp [*]; done), by repeat (first | exact Drawn0.refl _ | apply Drawn0.step)⟩
 rw [if_pos c3] at H
 have c3b0 : ((l0.length : Int) == (l1.length : Int)) = true := beq_iff_eq.mpr c3
 have c3b1 : ((l0.length : Int) != (l1.length : Int)) = false := bne_eq_false_iff_eq.mpr c3
 have c3b2 : (l0.length == l1.length) = true := by first | simpa using c3 | (simp at c3 ⊢; omega)
 clear c3
 have H' := mk_ H
 clear H
 go_enter Try.func18, Try.ntmps18
 go_wp2
 repeat (go_quiet (fail); try go_wp2)
 go_loopg [5] k (fun kq v5 w' => ∃ (x5_1 : Int), v5 = .int .i64 x5_1 ∧ Aside0 (cohousingref23_SameInts.l0 kq l0 l1 x5_1 = some r) ∧ Aside0 (kq ≤ k) ∧ Drawn0 w w')
 case atStart => exact ⟨(0), sd_, H', ⟨Nat.le_refl _⟩, by repeat (first | exact Drawn0.refl _ | apply Drawn0.step)⟩
 case round =>
  clear H'
  try clear c1; try clear p2; try clear c3; try clear c3b0; try clear c3b1; try clear c3b2
  obtain ⟨x5_1, rfl, HA, HK1, ⟨m1, rfl⟩⟩ := hrel
  cases gk with
  | zero => exact absurd HA.out (by simp [cohousingref23_SameInts.l0])
  | succ k1 =>
   have H := HA.out
   clear HA
   simp only [cohousingref23_SameInts.l0] at H
   by_cases c4 : x5_1 < (l0.length : Int)
   rotate_left
   ·rw [if_neg c4] at H
    have c4b0 : decide (x5_1 < (l0.length : Int)) = false := decide_eq_false c4
    clear c4
    obtain rfl := Option.some.inj H
    go_wp2
    repeat (go_quiet (fail); try go_wp2)
    go_ret
    exact ⟨by first | rfl | (simp; done) | (simp [*]; done), by repeat (first | exact Drawn0.refl _ | apply Drawn0.step)⟩
   rw [if_pos c4] at H
   have c4b0 : decide (x5_1 < (l0.length : Int)) = true := decide_eq_true c4
   clear c4
   by_cases c5 : 0 ≤ x5_1
   rotate_left
   ·rw [if_neg c5] at H
    exact absurd H (by simp)
   rw [if_pos c5] at H
   have c5b0 : decide (0 ≤ x5_1) = true := decide_eq_true c5
   clear c5
   by_cases c6 : x5_1 < (l1.length : Int)
   rotate_left
   ·rw [if_neg c6] at H
    exact absurd H (by simp)
   rw [if_pos c6] at H
   have c6b0 : decide (x5_1 < (l1.length : Int)) = true := decide_eq_true c6
   clear c6
   by_cases c7 : (rd l0 x5_1) = (rd l1 x5_1)
   rotate_left
   ·rw [if_neg c7] at H
    have c7b0 : ((rd l0 x5_1) == (rd l1 x5_1)) = false := beq_eq_false_iff_ne.mpr c7
    have c7b1 : ((rd l0 x5_1) != (rd l1 x5_1)) = true := bne_iff_ne.mpr c7
    obtain rfl := Option.some.inj H
    have p105 : 0 ≤ (x5_1 : Int) := od_
    have q105 : x5_1 < (l0.length : Int) := od_
    obtain ⟨ad105, e105, hx105_0⟩ := Kd.at_int HR0.out x5_1 p105 q105
    cases e105
    replace p105 := eq_true p105
    replace q105 := eq_true q105
    have p106 : 0 ≤ (x5_1 : Int) := od_
    have q106 : x5_1 < (l1.length : Int) := od_
    obtain ⟨ad106, e106, hx106_0⟩ := Kd.at_int HR1.out x5_1 p106 q106
    cases e106
    replace p106 := eq_true p106
    replace q106 := eq_true q106
    go_wp2
    repeat (go_quiet (fail); try go_wp2)
    go_ret
    exact ⟨by first | rfl | (simp; done) | (simp [*]; done), by repeat (first | exact Drawn0.refl _ | apply Drawn0.step)⟩
   rw [if_pos c7] at H
   have c7b0 : ((rd l0 x5_1) == (rd l1 x5_1)) = true := beq_iff_eq.mpr c7
   have c7b1 : ((rd l0 x5_1) != (rd l1 x5_1)) = false := bne_eq_false_iff_eq.mpr c7
   clear c7
   have H' := mk_ H
   clear H
   have p105 : 0 ≤ (x5_1 : Int) := od_
   have q105 : x5_1 < (l0.length : Int) := od_
   obtain ⟨ad105, e105, hx105_0⟩ := Kd.at_int HR0.out x5_1 p105 q105
   cases e105
   replace p105 := eq_true p105
   replace q105 := eq_true q105
   have p106 : 0 ≤ (x5_1 : Int) := od_
   have q106 : x5_1 < (l1.length : Int) := od_
   obtain ⟨ad106, e106, hx106_0⟩ := Kd.at_int HR1.out x5_1 p106 q106
   cases e106
   replace p106 := eq_true p106
   replace q106 := eq_true q106
   go_wp2
   repeat (go_quiet (fail); try go_wp2)
   go_roundg k1
   case measure => have := HK1.out; omega
   case rel => exact ⟨(wrap64 (x5_1 + 1)), sd_, H', ⟨by have := HK1.out; omega⟩, by repeat (first | exact Drawn0.refl _ | apply Drawn0.step)⟩
end Go.Proofs.Ytocbiggglnpeoaa.M
end
section
namespace Go.Proofs.Ytocbiggglnpeoaa.M
open Go.RowKit Go.Proofs.YtocbiggglnpeoaaW.PrintWords Go.Proofs.YtocbiggglnpeoaaW.PrintLast Go.Proofs.YtocbiggglnpeoaaW.PrintMore
attribute [local go_sem] max2_int min2_int max_two min_two max_three min_three max_four min_four
set_option linter.unusedVariables false
set_option linter.unusedSimpArgs false
def cohousinglaw26_example.f  : Option ((List (S84)) × (List (S46)) × (List (S49))) := some ((([(⟨1, 1⟩ : S84), (⟨2, 1⟩ : S84), (⟨3, 1⟩ : S84)] : List (S84))), (([(⟨5, 1, ([] : List Int)⟩ : S46), (⟨6, 2, ([] : List Int)⟩ : S46), (⟨7, 0, ([] : List Int)⟩ : S46)] : List (S46))), (([(⟨true, (([(⟨5, 1, 3⟩ : S51), (⟨6, 2, 1⟩ : S51), (⟨7, 0, 2⟩ : S51)] : List (S51)))⟩ : S49)] : List (S49))))
set_option maxHeartbeats 8000000 in
set_option maxRecDepth 100000 in
theorem cohousinglaw26_example.calls  (r1 : List (S84)) (r2 : List (S46)) (r3 : List (S49)) (w : World) (h : cohousinglaw26_example.f  = some (r1, r2, r3)) :
  Calls Try.prog 29 #[] w fun e w' => ∃ v0_ v1_ v2_ : Value, e = .returned (.tuple #[.agg #[v0_, v1_], v2_]) ∧ Kd.R k84 84 w' w.heap.size (fun k_ => (w.heap.size ≤ k_)) v0_ r1 ∧ Kd.N k46 46 w' w.heap.size (fun k_ => (w.heap.size ≤ k_) ∧ some k_ ≠ (v0_ : Value).ownBlock ∧ some k_ ≠ (v2_ : Value).ownBlock) v1_ r2 ∧ Kd.N k49 49 w' w.heap.size (fun k_ => (w.heap.size ≤ k_) ∧ some k_ ≠ (v0_ : Value).ownBlock ∧ some k_ ≠ (v1_ : Value).ownBlock) v2_ r3 ∧ Below w.heap.size w w' := by
 have hu25 := Try.underlying25
 have hu84 := Try.underlying84
 have hu46 := Try.underlying46
 have hu51 := Try.underlying51
 have hu49 := Try.underlying49
 have HB := mk_ (Below.refl w.heap.size w)
 have H : (some ((([(⟨1, 1⟩ : S84), (⟨2, 1⟩ : S84), (⟨3, 1⟩ : S84)] : List (S84))), (([(⟨5, 1, ([] : List Int)⟩ : S46), (⟨6, 2, ([] : List Int)⟩ : S46), (⟨7, 0, ([] : List Int)⟩ : S46)] : List (S46))), (([(⟨true, (([(⟨5, 1, 3⟩ : S51), (⟨6, 2, 1⟩ : S51), (⟨7, 0, 2⟩ : S51)] : List (S51)))⟩ : S49)] : List (S49))))) = some (r1, r2, r3) := h
 clear h
 obtain ⟨y108, hy108⟩ : ∃ y_ : List (S84), y_ = (([(⟨1, 1⟩ : S84), (⟨2, 1⟩ : S84), (⟨3, 1⟩ : S84)] : List (S84))) := ⟨_, rfl⟩
 replace H : (some (y108, (([(⟨5, 1, ([] : List Int)⟩ : S46), (⟨6, 2, ([] : List Int)⟩ : S46), (⟨7, 0, ([] : List Int)⟩ : S46)] : List (S46))), (([(⟨true, (([(⟨5, 1, 3⟩ : S51), (⟨6, 2, 1⟩ : S51), (⟨7, 0, 2⟩ : S51)] : List (S51)))⟩ : S49)] : List (S49))))) = some (r1, r2, r3) := by first | (rw [hy108]; with_reducible exact H) | (have H2_ := (Option.bind_some _ _).symm.trans H; rw [hy108]; with_reducible exact H2_) | (have H2_ := (Option.bind_some _ _).symm.trans H; with_reducible exact H2_) | with_reducible exact H | (rw [hy108]; exact H) | exact H
 have Ny108 := mk_ hy108
 clear hy108
 obtain ⟨y111, hy111⟩ : ∃ y_ : List (S46), y_ = (([(⟨5, 1, ([] : List Int)⟩ : S46), (⟨6, 2, ([] : List Int)⟩ : S46), (⟨7, 0, ([] : List Int)⟩ : S46)] : List (S46))) := ⟨_, rfl⟩
 replace H : (some (y108, y111, (([(⟨true, (([(⟨5, 1, 3⟩ : S51), (⟨6, 2, 1⟩ : S51), (⟨7, 0, 2⟩ : S51)] : List (S51)))⟩ : S49)] : List (S49))))) = some (r1, r2, r3) := by first | (rw [hy111]; with_reducible exact H) | (have H2_ := (Option.bind_some _ _).symm.trans H; rw [hy111]; with_reducible exact H2_) | (have H2_ := (Option.bind_some _ _).symm.trans H; with_reducible exact H2_) | with_reducible exact H | (rw [hy111]; exact H) | exact H
 have Ny111 := mk_ hy111
 clear hy111
 obtain ⟨y115, hy115⟩ : ∃ y_ : List (S51), y_ = (([(⟨5, 1, 3⟩ : S51), (⟨6, 2, 1⟩ : S51), (⟨7, 0, 2⟩ : S51)] : List (S51))) := ⟨_, rfl⟩
 replace H : (some (y108, y111, (([(⟨true, y115⟩ : S49)] : List (S49))))) = some (r1, r2, r3) := by first | (rw [hy115]; with_reducible exact H) | (have H2_ := (Option.bind_some _ _).symm.trans H; rw [hy115]; with_reducible exact H2_) | (have H2_ := (Option.bind_some _ _).symm.trans H; with_reducible exact H2_) | with_reducible exact H | (rw [hy115]; exact H) | exact H
 have Ny115 := mk_ hy115
 clear hy115
 obtain ⟨y118, hy118⟩ : ∃ y_ : List (S49), y_ = (([(⟨true, y115⟩ : S49)] : List (S49))) := ⟨_, rfl⟩
 replace H : (some (y108, y111, y118)) = some (r1, r2, r3) := by first | (rw [hy118]; with_reducible exact H) | (have H2_ := (Option.bind_some _ _).symm.trans H; rw [hy118]; with_reducible exact H2_) | (have H2_ := (Option.bind_some _ _).symm.trans H; with_reducible exact H2_) | with_reducible exact H | (rw [hy118]; exact H) | exact H
 have Ny118 := mk_ hy118
 clear hy118
 simp only [Option.some.injEq, Prod.mk.injEq] at H
 obtain ⟨rfl, rfl, rfl⟩ := H
 go_enter Try.func29, Try.ntmps29
 go_wp2_with (first | ((with_reducible refine gate_dst (N := 0) rfl ?_); refine box_event ?hg (N := 0) ?hd (cs := #[.slice none 0 0, .slice none 0 0]) (t := 25) ?hr ?_; (case hd => rfl); (case hg => rfl); (case hr => first | (go_simp; done) | (go_simp; rfl)); intro gb107 hg w1 hbox hb; have n0_ := mk_ (below_step (bb_ HB) hb); have n1_ := mk_ (hbox); have n2_ := mk_ (bz_ hg (bb_ HB)); have n3_ := mk_ (bz_ hg (bb_ HB)); clear HB; revert n0_ n1_ n2_ n3_; intro HB BK107 GW107 GE107; clear hb hbox hg) | ((with_reducible refine gate_dst (N := 6) rfl ?_); refine Kd.R_lit k84 _ 84 ?hg (N := 6) ?hd (xs := ([(⟨1, 1⟩ : S84), (⟨2, 1⟩ : S84), (⟨3, 1⟩ : S84)] : List (S84))) (inner := [.int .i64 1, .int .i64 1, .int .i64 2, .int .i64 1, .int .i64 3, .int .i64 1]) (ok := fun _ => True) (okp := fun _ => True) ?hr ?hp (fun _ hk => hk) trivial (Below.refl _ _) (Nat.le_refl _) (by simp) ?_; (case hd => rfl); (case hg => rfl); (case hr => first | (go_simp; done) | (go_simp; rfl)); (case hp => exact (Reps.c2 (show Kd.M k84 _ _ _ (⟨1, 1⟩ : S84) [.int .i64 1, .int .i64 1] from (k84_mkM _ _ _ (⟨1, 1⟩ : S84) )) (Reps.c2 (show Kd.M k84 _ _ _ (⟨2, 1⟩ : S84) [.int .i64 2, .int .i64 1] from (k84_mkM _ _ _ (⟨2, 1⟩ : S84) )) (Reps.c2 (show Kd.M k84 _ _ _ (⟨3, 1⟩ : S84) [.int .i64 3, .int .i64 1] from (k84_mkM _ _ _ (⟨3, 1⟩ : S84) )) (Reps.none _ _))))); intro v109 w2 ho3 hb hg_ hnew_; clear hg_ hnew_; (first | rw [← Ny108.out] at ho3 | (simp only [Int.reduceToNat] at ho3; rw [← Ny108.out] at ho3)); have n0_ := mk_ (Kd.R_lower (Kd.R_newM (M := fun k_ => (w.heap.size ≤ k_)) ho3 (below_size (bs_ HB GE107.out)) (fun k_ h_ => h_)) (below_size (bs_ HB GE107.out))); have n1_ := mk_ (blk_below (kk_ BK107) hb); have n2_ := mk_ (below_step (bs_ HB GE107.out) hb); clear BK107 HB; revert n0_ n1_ n2_; intro HO110 BK107 HB; clear hb ho3) | ((with_reducible refine gate_dst (N := 10) rfl ?_); refine Kd.N_lit k46 _ 46 ?hg (N' := 10) ?hd (xs := ([(⟨5, 1, ([] : List Int)⟩ : S46), (⟨6, 2, ([] : List Int)⟩ : S46), (⟨7, 0, ([] : List Int)⟩ : S46)] : List (S46))) (inner := [.int .i64 5, .int .i64 1, .slice none 0 0, .int .i64 6, .int .i64 2, .slice none 0 0, .int .i64 7, .int .i64 0, .slice none 0 0]) (ok := (fun k_ => (w.heap.size ≤ k_) ∧ some k_ ≠ (v109 : Value).ownBlock ∧ k_ ≠ gb107)) (okp := (fun k_ => (w.heap.size ≤ k_) ∧ some k_ ≠ (v109 : Value).ownBlock ∧ k_ ≠ gb107)) ?hr ?hp (fun _ hk => hk) ((show ∀ k_, w2.heap.size ≤ k_ → (fun k_ => (w.heap.size ≤ k_) ∧ some k_ ≠ (v109 : Value).ownBlock ∧ k_ ≠ gb107) k_ from fun k_ hk => ⟨(Nat.le_trans (below_size (bs_ HB GE107.out)) hk), Kd.fresh' (Kd.R_lt (rr_ HO110)) k_ hk, Kd.freshB (g := gb107) (o := .cells #[.slice none 0 0, .slice none 0 0] 25 (0, 0)) (kk_ BK107) k_ hk⟩) _ (Nat.le_refl _)) (Below.refl _ _) (Nat.le_refl _) (by simp) ?_; (case hd => rfl); (case hg => rfl); (case hr => first | (go_simp; done) | (go_simp; rfl)); (case hp => exact (Reps.c3 (show Kd.FK k46 _ _ (⟨5, 1, ([] : List Int)⟩ : S46) [.int .i64 5, .int .i64 1, .slice none 0 0] from (k46_mkF _ _ (⟨5, 1, ([] : List Int)⟩ : S46) (Nat.le_refl _) (Kd.F_nil _ _ _))) (Reps.c3 (show Kd.FK k46 _ _ (⟨6, 2, ([] : List Int)⟩ : S46) [.int .i64 6, .int .i64 2, .slice none 0 0] from (k46_mkF _ _ (⟨6, 2, ([] : List Int)⟩ : S46) (Nat.le_refl _) (Kd.F_nil _ _ _))) (Reps.c3 (show Kd.FK k46 _ _ (⟨7, 0, ([] : List Int)⟩ : S46) [.int .i64 7, .int .i64 0, .slice none 0 0] from (k46_mkF _ _ (⟨7, 0, ([] : List Int)⟩ : S46) (Nat.le_refl _) (Kd.F_nil _ _ _))) (Reps.none _ _))))); intro v112 w4 ho5 hb hg_ hnew_; clear hg_ hnew_; (first | rw [← Ny111.out] at ho5 | (simp only [Int.reduceToNat] at ho5; rw [← Ny111.out] at ho5)); have n0_ := mk_ (Kd.R_below (rr_ HO110) hb); have n1_ := mk_ (Kd.N_lower ho5 (below_size (bs_ HB GE107.out))); have n2_ := mk_ (blk_below (kk_ BK107) hb); have n3_ := mk_ (below_step (bs_ HB GE107.out) hb); clear HO110 BK107 HB; revert n0_ n1_ n2_ n3_; intro HO110 HO113 BK107 HB; clear hb ho5; obtain ⟨Ao6, co6, eo6⟩ := Kd.N_slice HO113.out; subst eo6; obtain ⟨Ao7, co7, eo7⟩ := Kd.R_slice HO110.out; subst eo7) | ((with_reducible refine gate_dst (N := 2) rfl ?_); refine box_event ?hg (N := 2) ?hd (cs := #[.slice none 0 0, .slice none 0 0]) (t := 25) ?hr ?_; (case hd => rfl); (case hg => rfl); (case hr => first | (go_simp; done) | (go_simp; rfl)); intro gb114 hg w8 hbox hb; have n0_ := mk_ (Kd.R_below (rr_ HO110) hb); have n1_ := mk_ (Kd.N_below (Kd.N_elderB (nn_ HO113) gb114 (Nat.le_of_eq hg.symm)) hb); have n2_ := mk_ (blk_below (kk_ BK107) hb); have n3_ := mk_ (below_step (bs_ HB GE107.out) hb); have n4_ := mk_ (hbox); have n5_ := mk_ (bz_ hg (bs_ HB GE107.out)); have n6_ := mk_ (bz_ hg (bs_ HB GE107.out)); have n7_ := mk_ (bl_ hg (kk_ BK107)); have n8_ := mk_ (bg_ hg (kk_ BK107)); clear HO110 HO113 BK107 HB; revert n0_ n1_ n2_ n3_ n4_ n5_ n6_ n7_ n8_; intro HO110 HO113 BK107 HB BK114 GW114 GE114 NB107_114 NB114_107; clear hb hbox hg; have hnb9 := NB114_107.out; have hnc9 := NB107_114.out; have hcz10_0 := bc0_ BK114.out; have hcz10_1 := bc1_ BK114.out; have hfz10_0 := blk_frozen BK114.out 0; have hfz10_1 := blk_frozen BK114.out 1) | ((with_reducible refine gate_dst (N := 16) rfl ?_); refine Kd.R_lit k51 _ 51 ?hg (N := 16) ?hd (xs := ([(⟨5, 1, 3⟩ : S51), (⟨6, 2, 1⟩ : S51), (⟨7, 0, 2⟩ : S51)] : List (S51))) (inner := [.int .i64 5, .int .i64 1, .int .i64 3, .int .i64 6, .int .i64 2, .int .i64 1, .int .i64 7, .int .i64 0, .int .i64 2]) (ok := fun _ => True) (okp := fun _ => True) ?hr ?hp (fun _ hk => hk) trivial (Below.refl _ _) (Nat.le_refl _) (by simp) ?_; (case hd => rfl); (case hg => rfl); (case hr => first | (go_simp; done) | (go_simp; rfl)); (case hp => exact (Reps.c3 (show Kd.M k51 _ _ _ (⟨5, 1, 3⟩ : S51) [.int .i64 5, .int .i64 1, .int .i64 3] from (k51_mkM _ _ _ (⟨5, 1, 3⟩ : S51) )) (Reps.c3 (show Kd.M k51 _ _ _ (⟨6, 2, 1⟩ : S51) [.int .i64 6, .int .i64 2, .int .i64 1] from (k51_mkM _ _ _ (⟨6, 2, 1⟩ : S51) )) (Reps.c3 (show Kd.M k51 _ _ _ (⟨7, 0, 2⟩ : S51) [.int .i64 7, .int .i64 0, .int .i64 2] from (k51_mkM _ _ _ (⟨7, 0, 2⟩ : S51) )) (Reps.none _ _))))); intro v116 w11 ho12 hb hg_ hnew_; clear hg_ hnew_; (first | rw [← Ny115.out] at ho12 | (simp only [Int.reduceToNat] at ho12; rw [← Ny115.out] at ho12)); have n0_ := mk_ (Kd.R_below (by (with_reducible repeat (first | apply Kd.R_alloc | apply Kd.R_drewN | apply Kd.R_drew)); exact (Kd.R_mono (Kd.R_far (p := ⟨gb114, 1, none⟩) (Kd.R_far (p := ⟨gb114, 0, none⟩) (Kd.R_types HO110.out BK114.out (by decide)) (fun _ hk => hk.2) (.slice Ao7 y108.length co7)) (fun _ hk => hk.2) (.slice Ao6 y111.length co6)) (fun _ h_ => h_.1))) hb); have n1_ := mk_ (Kd.N_elder' (by (with_reducible repeat (first | apply Kd.N_alloc | apply Kd.N_drewN | apply Kd.N_drew)); exact (Kd.N_mono (Kd.N_far (p := ⟨gb114, 1, none⟩) (Kd.N_far (p := ⟨gb114, 0, none⟩) (Kd.N_mono HO113.out (fun k_ hk => (⟨hk, hk.2⟩ : _ ∧ k_ ≠ gb114))) (fun _ hk => hk.2) (.slice Ao7 y108.length co7)) (fun _ hk => hk.2) (.slice Ao6 y111.length co6)) (fun _ h_ => h_.1))) (Kd.R_base ho12) hb); have n2_ := mk_ (Kd.R_lower (Kd.R_newM (M := fun k_ => (w.heap.size ≤ k_)) ho12 (below_size (bs2_ HB GE107 GE114)) (fun k_ h_ => h_)) (below_size (bs2_ HB GE107 GE114))); have n3_ := mk_ (blk_below (g := gb107) (o := .cells #[.slice none 0 0, .slice none 0 0] 25 (0, 0)) (by (with_reducible repeat (first | refine blk_drewN ?_ _ | refine blk_drew ?_ | refine blk_alloc ?_ _)); refine blk_far ?_ NB107_114.out _; (with_reducible repeat (first | refine blk_drewN ?_ _ | refine blk_drew ?_ | refine blk_alloc ?_ _)); refine blk_far ?_ NB107_114.out _; (with_reducible repeat (first | refine blk_drewN ?_ _ | refine blk_drew ?_ | refine blk_alloc ?_ _)); exact BK107.out) hb); have n4_ := mk_ (blk_below (g := gb114) (o := .cells #[.slice Ao7 y108.length co7, .slice Ao6 y111.length co6] 25 (0, 0)) (by (with_reducible repeat (first | refine blk_drewN ?_ _ | refine blk_drew ?_ | refine blk_alloc ?_ _)); refine blk_put (cs := #[.slice Ao7 y108.length co7, .slice none 0 0]) ?_ 1 _ rfl; (with_reducible repeat (first | refine blk_drewN ?_ _ | refine blk_drew ?_ | refine blk_alloc ?_ _)); refine blk_put (cs := #[.slice none 0 0, .slice none 0 0]) ?_ 0 _ rfl; (with_reducible repeat (first | refine blk_drewN ?_ _ | refine blk_drew ?_ | refine blk_alloc ?_ _)); exact BK114.out) hb); have n5_ := mk_ (below_step (bs2_ HB GE107 GE114) hb); clear HO110 HO113 BK107 BK114 HB; revert n0_ n1_ n2_ n3_ n4_ n5_; intro HO110 HO113 HO117 BK107 BK114 HB; clear hb ho12; obtain ⟨Ao13, co13, eo13⟩ := Kd.R_slice HO117.out; subst eo13) | ((with_reducible refine gate_dst (N := 18) rfl ?_); refine Kd.N_lit k49 _ 49 ?hg (N' := 18) ?hd (xs := ([(⟨true, y115⟩ : S49)] : List (S49))) (inner := [.bool true, .slice Ao13 y115.length co13]) (ok := (fun k_ => (w.heap.size ≤ k_) ∧ some k_ ≠ (.slice Ao7 y108.length co7 : Value).ownBlock ∧ some k_ ≠ (.slice Ao6 y111.length co6 : Value).ownBlock ∧ k_ ≠ gb107 ∧ k_ ≠ gb114)) (okp := (fun k_ => (w.heap.size ≤ k_) ∧ some k_ ≠ (.slice Ao7 y108.length co7 : Value).ownBlock ∧ some k_ ≠ (.slice Ao6 y111.length co6 : Value).ownBlock ∧ k_ ≠ gb107 ∧ k_ ≠ gb114)) ?hr ?hp (fun _ hk => hk) ((show ∀ k_, w11.heap.size ≤ k_ → (fun k_ => (w.heap.size ≤ k_) ∧ some k_ ≠ (.slice Ao7 y108.length co7 : Value).ownBlock ∧ some k_ ≠ (.slice Ao6 y111.length co6 : Value).ownBlock ∧ k_ ≠ gb107 ∧ k_ ≠ gb114) k_ from fun k_ hk => ⟨(Nat.le_trans (below_size (bs2_ HB GE107 GE114)) hk), Kd.fresh' (Kd.R_lt (rr_ HO110)) k_ hk, Kd.fresh' (Kd.N_lt (nn_ HO113)) k_ hk, Kd.freshB (g := gb107) (o := .cells #[.slice none 0 0, .slice none 0 0] 25 (0, 0)) (kk_ BK107) k_ hk, Kd.freshB (g := gb114) (o := .cells #[.slice Ao7 y108.length co7, .slice Ao6 y111.length co6] 25 (0, 0)) (kk_ BK114) k_ hk⟩) _ (Nat.le_refl _)) (Below.refl _ _) (Nat.le_refl _) (by simp) ?_; (case hd => rfl); (case hg => rfl); (case hr => first | (go_simp; done) | (go_simp; rfl)); (case hp => exact (Reps.c2 (show Kd.FK k49 _ _ (⟨true, y115⟩ : S49) [.bool true, .slice Ao13 y115.length co13] from (k49_mkF _ _ (⟨true, y115⟩ : S49) (Kd.R_reads' (Kd.R_mono (ok' := (fun k_ => (w.heap.size ≤ k_) ∧ some k_ ≠ (.slice Ao7 y108.length co7 : Value).ownBlock ∧ some k_ ≠ (.slice Ao6 y111.length co6 : Value).ownBlock ∧ k_ ≠ gb107 ∧ k_ ≠ gb114)) (Kd.R_types (Kd.R_types (Kd.R_apart' (Kd.R_apart' (HO117.out) (Kd.R_typed HO110.out) (by decide)) (Kd.N_typed HO113.out) (by decide)) BK107.out (by decide)) BK114.out (by decide)) (fun k_ hk => ⟨hk.1.1.1.1.1, ⟨hk.1.1.1.2, ⟨hk.1.1.2, ⟨hk.1.2, hk.2⟩⟩⟩⟩))).2.1 (Kd.R_F (Kd.R_mono (ok' := (fun k_ => (w.heap.size ≤ k_) ∧ some k_ ≠ (.slice Ao7 y108.length co7 : Value).ownBlock ∧ some k_ ≠ (.slice Ao6 y111.length co6 : Value).ownBlock ∧ k_ ≠ gb107 ∧ k_ ≠ gb114)) (Kd.R_types (Kd.R_types (Kd.R_apart' (Kd.R_apart' (HO117.out) (Kd.R_typed HO110.out) (by decide)) (Kd.N_typed HO113.out) (by decide)) BK107.out (by decide)) BK114.out (by decide)) (fun k_ hk => ⟨hk.1.1.1.1.1, ⟨hk.1.1.1.2, ⟨hk.1.1.2, ⟨hk.1.2, hk.2⟩⟩⟩⟩))))) (Reps.none _ _))); intro v119 w14 ho15 hb hg_ hnew_; clear hg_ hnew_; (first | rw [← Ny118.out] at ho15 | (simp only [Int.reduceToNat] at ho15; rw [← Ny118.out] at ho15)); have n0_ := mk_ (Kd.R_below (rr_ HO110) hb); have n1_ := mk_ (Kd.N_elder' (nn_ HO113) (Kd.N_base ho15) hb); have n2_ := mk_ (Kd.N_lower ho15 (below_size (bs2_ HB GE107 GE114))); have n3_ := mk_ (blk_below (kk_ BK107) hb); have n4_ := mk_ (blk_below (kk_ BK114) hb); have n5_ := mk_ (below_step (bs2_ HB GE107 GE114) hb); clear HO110 HO113 BK107 BK114 HB HO117; revert n0_ n1_ n2_ n3_ n4_ n5_; intro HO110 HO113 HO120 BK107 BK114 HB; clear hb ho15; have hcz16_0 := bc0_ BK107.out; have hcz16_1 := bc1_ BK107.out; have hfz16_0 := blk_frozen BK107.out 0; have hfz16_1 := blk_frozen BK107.out 1))
 refine bodyPost_ret (results_ct rfl _ _ gb107 25 #[.slice Ao7 y108.length co7, .slice Ao6 y111.length co6] (0, 0) _ rfl (by (with_reducible repeat (first | refine blk_drewN ?_ _ | refine blk_drew ?_ | refine blk_alloc ?_ _)); refine blk_put (cs := #[.slice Ao7 y108.length co7, .slice none 0 0]) ?_ 1 _ rfl; (with_reducible repeat (first | refine blk_drewN ?_ _ | refine blk_drew ?_ | refine blk_alloc ?_ _)); refine blk_put (cs := #[.slice none 0 0, .slice none 0 0]) ?_ 0 _ rfl; (with_reducible repeat (first | refine blk_drewN ?_ _ | refine blk_drew ?_ | refine blk_alloc ?_ _)); exact BK107.out) Try.underlying25 rfl (by kernel_rfl)) rfl ?_
 exact ⟨_, _, _, ew_, by (with_reducible repeat (first | apply Kd.R_alloc | apply Kd.R_drewN | apply Kd.R_drew)); exact Kd.R_mono (Kd.R_far (p := ⟨gb107, 1, none⟩) (Kd.R_far (p := ⟨gb107, 0, none⟩) (Kd.R_types HO110.out BK107.out (by decide)) (fun _ hk => hk.2) (.slice Ao7 y108.length co7)) (fun _ hk => hk.2) (.slice Ao6 y111.length co6)) (fun _ hk => hk.1.1), by (with_reducible repeat (first | apply Kd.N_alloc | apply Kd.N_drewN | apply Kd.N_drew)); exact Kd.N_mono (Kd.N_far (p := ⟨gb107, 1, none⟩) (Kd.N_far (p := ⟨gb107, 0, none⟩) (Kd.N_mono HO113.out (fun k_ hk => (⟨hk, hk.1.1.1.2.2⟩ : _ ∧ k_ ≠ gb107))) (fun _ hk => hk.2) (.slice Ao7 y108.length co7)) (fun _ hk => hk.2) (.slice Ao6 y111.length co6)) (fun _ hk => ⟨hk.1.1.1.1.1, ⟨hk.1.1.1.1.2.1, hk.1.2⟩⟩), by (with_reducible repeat (first | apply Kd.N_alloc | apply Kd.N_drewN | apply Kd.N_drew)); exact Kd.N_mono (Kd.N_far (p := ⟨gb107, 1, none⟩) (Kd.N_far (p := ⟨gb107, 0, none⟩) (Kd.N_mono HO120.out (fun k_ hk => (⟨hk, hk.2.2.2.1⟩ : _ ∧ k_ ≠ gb107))) (fun _ hk => hk.2) (.slice Ao7 y108.length co7)) (fun _ hk => hk.2) (.slice Ao6 y111.length co6)) (fun _ hk => ⟨hk.1.1, ⟨hk.1.2.1, hk.1.2.2.1⟩⟩), bs2_ HB GE107 GE114⟩
end Go.Proofs.Ytocbiggglnpeoaa.M
end
