/- Part 2 of the base that the seat's proofs share: words, walks and plain laws. -/
import Derived.ArgAppend
import Derived.Below
import Derived.BigQuiet
import Derived.ChangeOld
import Derived.ChangeSlices
import Derived.Deep.AppendLies
import Derived.Deep.CutBlock
import Derived.Deep.DeepCutAuto
import Derived.Deep.Draws
import Derived.Deep.LoopGhost
import Derived.Deep.OwnRows
import Derived.Deep.QuietTactic
import Derived.Deep.RegionHeld3
import Derived.Deep.Slices
import Derived.KernelRfl
import Derived.Laws.BitsLemmas
import Derived.Laws.BytesArg
import Derived.Laws.IdiomCopy
import Derived.Laws.MakeOwn
import Derived.Laws.OwnMore
import Derived.Laws.Rows
import Derived.Laws.Slices
import Derived.Laws.StructEq
import Derived.Lib.AppendStr
import Derived.Lib.BufferOwn
import Derived.Lib.ConvBytes
import Derived.Lib.SliceRun
import Derived.LoopIn
import Derived.LoopNIn
import Derived.Maps.AppendAt
import Derived.Maps.Own
import Derived.OpenShut
import Derived.OrdersHeld
import Derived.OwnWalk
import Derived.OwnWalkIn
import Derived.ProofKit
import Derived.RangeFuncBound
import Derived.RangeFuncCalls
import Derived.RangeFuncLeaves
import Derived.RangeFuncNested
import Derived.RowKit
import Derived.RowKit3
import Derived.ShutString
import Derived.SizedLaws
import Derived.Tactics
import Derived.TacticsInMore
import Derived.Test.YtocbiggglnpeoaaProg
import Derived.WalkKit
import Derived.WideLaws
import Derived.Test.YtocbiggglnpeoaaCRa
set_option linter.unusedVariables false
set_option linter.unusedSimpArgs false
section
namespace Go.Proofs.Ytocbiggglnpeoaa.P
open Go.RowKit Go.Proofs.YtocbiggglnpeoaaW.PrintWords Go.Proofs.YtocbiggglnpeoaaW.PrintLast Go.Proofs.YtocbiggglnpeoaaW.PrintMore
attribute [local go_sem] max2_int min2_int max_two min_two max_three min_three max_four min_four
set_option linter.unusedVariables false
set_option linter.unusedSimpArgs false
set_option maxHeartbeats 8000000
set_option maxRecDepth 100000
section
open Go.Proofs.YtocbiggglnpeoaaH
theorem rd_dropI (ps : List Int) (f : Nat) (h : f < ps.length) : ps.drop f = rd ps (f : Int) :: ps.drop (f + 1) := by
 rw [List.drop_eq_getElem_cons h]
 congr 1
 simp [rd, List.getD_eq_getElem?_getD, h]
theorem index_l0 (l : List Int) (x : Int) (hl : l.length ≤ 140737488355328) : ∀ (d i k : Nat), i + d = l.length → d < k → ∃ r, slices_Index_int_int.l0 k l x (l.length : Int) (i : Int) = some r ∧ decide (r ≥ 0) = (l.drop i).contains x := by
 intro d
 induction d with
 | zero =>
  intro i k hi hk
  obtain ⟨k, rfl⟩ : ∃ m, k = m + 1 := ⟨k - 1, by omega⟩
  refine ⟨-1, ?_, ?_⟩
  ·simp only [slices_Index_int_int.l0]
   rw [if_neg (by omega)]
  ·rw [List.drop_of_length_le (by omega)]
   rfl
 | succ d ih =>
  intro i k hi hk
  obtain ⟨k, rfl⟩ : ∃ m, k = m + 1 := ⟨k - 1, by omega⟩
  have hlt : i < l.length := by omega
  simp only [slices_Index_int_int.l0]
  rw [if_pos (by omega), if_pos (by omega), if_pos (by omega), rd_dropI l i hlt]
  by_cases e : x = rd l (i : Int)
  ·rw [if_pos e]
   exact ⟨_, rfl, by rw [decide_eq_true (by omega : (i : Int) ≥ 0), List.contains_cons, e]; simp⟩
  ·rw [if_neg e, show wrap64 ((i : Int) + 1) = ((i + 1 : Nat) : Int) by unfold wrap64; omega]
   obtain ⟨r, h1, h2⟩ := ih (i + 1) k (by omega) (by omega)
   exact ⟨r, h1, by rw [h2, List.contains_cons, beq_eq_false_iff_ne.2 e, Bool.false_or]⟩
theorem contains_f (l : List Int) (x : Int) (hl : l.length ≤ 140737488355328) : slices_Contains_int_int.f (l.length + 1) l x = some (l.contains x) := by
 obtain ⟨r, h1, h2⟩ := index_l0 l x hl l.length 0 (l.length + 1) (by omega) (by omega)
 unfold slices_Contains_int_int.f slices_Index_int_int.f
 have h1' : slices_Index_int_int.l0 (l.length + 1) l x (l.length : Int) 0 = some r := h1
 rw [h1']
 simp only [Option.bind_some]
 rw [h2]
 rfl
def toM (ms : List S51) (n : Nat) : Int → Option Int := foldM (fun j => (rd_T51 ms (j : Int)).f0) (fun j => (rd_T51 ms (j : Int)).f2) n
theorem toM_succ (ms : List S51) (n : Nat) : toM ms (n + 1) = upd (toM ms n) (rd_T51 ms (n : Int)).f0 (rd_T51 ms (n : Int)).f2 := rfl
def stepB (H : Int → Option Int) (K : Int → Option Bool) (ms : List S51) (n : Nat) : Bool := !(toM ms n (rd_T51 ms (n : Int)).f0).isSome && fitsB H K (rd_T51 ms (n : Int))
def movesB (H : Int → Option Int) (K : Int → Option Bool) (ms : List S51) : Bool := (List.range ms.length).all (stepB H K ms)
def goneAt (H : Int → Option Int) (gs : List Int) (n : Nat) : Bool := (H (rd gs (n : Int))).isSome && (decide (n = 0) || decide (rd gs ((n : Int) - 1) < rd gs (n : Int)))
def goneB (H : Int → Option Int) (gs : List Int) : Bool := (List.range gs.length).all (goneAt H gs)
theorem all_false {p : Nat → Bool} {m n : Nat} (hn : n < m) (h : p n = false) : (List.range m).all p = false := by
 rw [List.all_eq_false]
 exact ⟨n, List.mem_range.2 hn, by simp [h]⟩
theorem all_true {p : Nat → Bool} {m : Nat} (h : ∀ j, j < m → p j = true) : (List.range m).all p = true := by
 rw [List.all_eq_true]
 exact fun j hj => h j (List.mem_range.1 hj)
def nxS (M : Int → Option Int) (gs : List Int) (p : S46) (s : List S46 × (Int → Option Bool)) : Option (List S46 × (Int → Option Bool)) :=
 if gs.contains p.f0 = true then some s else if (M p.f0).getD p.f1 ≠ 0 ∧ (s.2 ((M p.f0).getD p.f1)).getD false = true then none else some (s.1 ++ [⟨p.f0, (M p.f0).getD p.f1, p.f2⟩], upd s.2 ((M p.f0).getD p.f1) true)
def nxM (M : Int → Option Int) (gs : List Int) (pa : List S46) : Nat → Option (List S46 × (Int → Option Bool))
 | 0 => some ([], fun _ => none)
 | n + 1 => (nxM M gs pa n).bind (nxS M gs (rd_T46 pa (n : Int)))
theorem nxM_succ (M : Int → Option Int) (gs : List Int) (pa : List S46) (n : Nat) : nxM M gs pa (n + 1) = (nxM M gs pa n).bind (nxS M gs (rd_T46 pa (n : Int))) := rfl
theorem nxM_none {M : Int → Option Int} {gs : List Int} {pa : List S46} {n : Nat} (h : nxM M gs pa n = none) : ∀ d, nxM M gs pa (n + d) = none
 | 0 => h
 | d + 1 => by
  have := nxM_none h d
  show (nxM M gs pa (n + d)).bind _ = none
  rw [this]
  rfl
theorem nxM_len {M : Int → Option Int} {gs : List Int} {pa : List S46} : ∀ {n : Nat} {s : List S46 × (Int → Option Bool)}, nxM M gs pa n = some s → s.1.length ≤ n
 | 0, s, h => by
  have := Option.some.inj h
  rw [← this]
  simp
 | n + 1, s, h => by
  rw [nxM_succ] at h
  obtain ⟨s0, h0, h1⟩ := Option.bind_eq_some_iff.1 h
  have := nxM_len h0
  unfold nxS at h1
  split at h1
  ·have e := Option.some.inj h1
   rw [← e]
   omega
  ·split at h1
   ·cases h1
   ·have e := Option.some.inj h1
    rw [← e, List.length_append]
    simp
    omega
def nxOut (fl : List S84) : Option (List S46 × (Int → Option Bool)) → List S84 × List S46 × Int
 | none => ([], [], 22)
 | some s => (fl, s.1, 0)
def nextR (fl : List S84) (pa : List S46) (ms : List S51) (gs : List Int) : List S84 × List S46 × Int :=
 if marketOk fl pa = true ∧ movesB (homesM pa pa.length) (knownM fl fl.length) ms = true ∧ goneB (homesM pa pa.length) gs = true then nxOut fl (nxM (toM ms ms.length) gs pa pa.length) else ([], [], 1)
def fewN (fl : List S84) (pa : List S46) (ms : List S51) (gs : List Int) : Bool := fewM fl pa && decide (ms.length ≤ 1000000000 ∧ gs.length ≤ 1000000000)
theorem fewN_at {fl : List S84} {pa : List S46} {ms : List S51} {gs : List Int} (h : fewN fl pa ms gs = true) : fewM fl pa = true ∧ ms.length ≤ 1000000000 ∧ gs.length ≤ 1000000000 := by
 unfold fewN at h
 simp only [Bool.and_eq_true, decide_eq_true_iff] at h
 exact ⟨h.1, h.2.1, h.2.2⟩
def chain_Next.f (l0_0 : List (S84)) (l0_1 : List (S46)) (l1 : List (S51)) (l2 : List Int) : Option ((List (S84)) × (List (S46)) × Int) := if fewN l0_0 l0_1 l1 l2 = true then some (nextR l0_0 l0_1 l1 l2) else none
theorem R_grade {α : Type} {d : Kd α} {e : Nat} {w : World} {a b : Nat} {v : Value} {xs : List α} (h : d.R e w b (fun k_ => b ≤ k_) v xs) (hab : a ≤ b) : d.R e w a (fun k_ => a ≤ k_) v xs := Kd.R_lower (Kd.R_mono h (fun _ hk => Nat.le_trans hab hk)) hab
structure NS (w0 w : World) (gO gT g1 g2 g3 gt : Nat) (H : Int → Option Int) (K T : Int → Option Bool) (M : Int → Option Int) : Prop where
 res : w.heap[gO]? = some (.cells #[.slice none 0 0, .slice none 0 0] 25 (0, 0))
 cell : w.heap[gT]? = some (.cells #[.map (some g1), .map (some g2), .map (some g3)] 68 (0, 0))
 town : Town w w0.heap.size g1 g2 g3 H K T
 too : MapI w gt (mapV vInt M)
 ne : g1 ≠ gt ∧ g2 ≠ gt ∧ g3 ≠ gt
 lo : w0.heap.size ≤ gt ∧ w0.heap.size ≤ gO
 below : Below w0.heap.size w0 w
section
variable {w0 w w' : World} {gO gT g1 g2 g3 gt : Nat} {H : Int → Option Int} {K T : Int → Option Bool} {M : Int → Option Int}
theorem NS.later (h : NS w0 w gO gT g1 g2 g3 gt H K T M) (hb : Below w.heap.size w w') : NS w0 w' gO gT g1 g2 g3 gt H K T M := ⟨blk_below h.res hb, blk_below h.cell hb, h.town.later hb, h.too.below hb, h.ne, h.lo, below_step h.below hb⟩
theorem NS.move (h : NS w0 w gO gT g1 g2 g3 gt H K T M) {k v : Int} (hm : MapI w' gt (setM (mapV vInt M) k (.int .i64 v))) (hg : w.grownBy w' (some gt)) : NS w0 w' gO gT g1 g2 g3 gt H K T (upd M k v) :=
 ⟨blk_grown h.res hg (h.too.ne_blk h.res), blk_grown h.cell hg (h.too.ne_blk h.cell), h.town.grown hg (fun e => h.ne.1 (by cases e; rfl)) (fun e => h.ne.2.1 (by cases e; rfl)) (fun e => h.ne.2.2 (by cases e; rfl)), hm.eq (mapV_set vInt M k v), h.ne, h.lo, grown_below h.below hg (fun k e => by cases e; exact h.lo.1)⟩
theorem NS.put (h : NS w0 w gO gT g1 g2 g3 gt H K T M) {g t : Nat} {cs : Array Value} (hb : w.heap[g]? = some (.cells cs t (0, 0))) (hO : gO ≠ g) (ht : t ≠ 68) (hlo : w0.heap.size ≤ g) (j : Nat) (u : Value) : NS w0 (w.setCell ⟨g, j, none⟩ u) gO gT g1 g2 g3 gt H K T M :=
 ⟨(Below.heap_setCell _ _ _ _ hO).trans h.res, (Below.heap_setCell _ _ _ _ (blk_ne h.cell hb (fun e => ht e.symm))).trans h.cell, h.town.put hb j u, h.too.move (Below.heap_setCell _ _ _ _ (fun e => h.too.ne_blk hb (by rw [e]))), h.ne, h.lo, below_set h.below hlo⟩
theorem NS.far (h : NS w0 w gO gT g1 g2 g3 gt H K T M) {b : Nat} {m : Int → Option Value} (hm : MapI w b m) (n1 : g1 ≠ b) (n2 : g2 ≠ b) (n3 : g3 ≠ b) (n4 : gt ≠ b) (hlo : w0.heap.size ≤ b) (hg : w.grownBy w' (some b)) : NS w0 w' gO gT g1 g2 g3 gt H K T M :=
 ⟨blk_grown h.res hg (hm.ne_blk h.res), blk_grown h.cell hg (hm.ne_blk h.cell), h.town.grown hg (fun e => n1 (by cases e; rfl)) (fun e => n2 (by cases e; rfl)) (fun e => n3 (by cases e; rfl)), h.too.kept hg (fun e => n4 (by cases e; rfl)), h.ne, h.lo, grown_below h.below hg (fun k e => by cases e; exact hlo)⟩
end
section
variable {w0 w w' : World} {gO gT g1 g2 g3 gt : Nat} {H : Int → Option Int} {K T : Int → Option Bool} {M : Int → Option Int}
theorem map_row {b e : Nat} {m : Int → Option Value} (hm : MapI w b m) {v : Value} (ht : ∀ k, v.ownBlock = some k → ∃ cells, w.heap[k]? = some (.cells cells e (0, 0))) : some b ≠ v.ownBlock := fun e1 => by
 obtain ⟨cells, hc⟩ := ht b e1.symm
 exact hm.not_cells hc
theorem NS.row (h : NS w0 w gO gT g1 g2 g3 gt H K T M) {v : Value} (ht : ∀ k, v.ownBlock = some k → ∃ cells, w.heap[k]? = some (.cells cells 46 (0, 0))) (hb : ∀ k, v.ownBlock = some k → w0.heap.size ≤ k) (hg : w.grownBy w' v.ownBlock) : NS w0 w' gO gT g1 g2 g3 gt H K T M := by
 have ne : ∀ {g t : Nat} {cs : Array Value}, w.heap[g]? = some (.cells cs t (0, 0)) → t ≠ 46 → some g ≠ v.ownBlock := fun {g t cs} hc hne e1 => by
  obtain ⟨cells, hk⟩ := ht g e1.symm
  exact blk_ne hc hk hne rfl
 exact ⟨blk_grown h.res hg (ne h.res (by decide)), blk_grown h.cell hg (ne h.cell (by decide)), h.town.grown hg (map_row h.town.flat ht) (map_row h.town.known ht) (map_row h.town.taken ht), h.too.kept hg (map_row h.too ht), h.ne, h.lo, grown_below h.below hg hb⟩
end
structure OS_ (w0 w : World) (gO gU : Nat) (vF vP : Value) (gv : Nat) (fl : List S84) (out : List S46) (V : Int → Option Bool) : Prop where
 box : w.heap[gU]? = some (.cells #[vF, vP] 25 (0, 0))
 flats : Kd.R k84 84 w w0.heap.size (fun k_ => w0.heap.size ≤ k_) vF fl
 parties : Kd.S k46 46 w w0.heap.size (fun k_ => (w0.heap.size ≤ k_ ∧ some k_ ≠ vF.ownBlock) ∧ k_ ≠ gO ∧ k_ ≠ gU ∧ k_ ≠ gv) vP out
 taken : MapI w gv (mapV vBool V)
def okN (w0 : World) (gO gU gv : Nat) (vF : Value) (k_ : Nat) : Prop := (w0.heap.size ≤ k_ ∧ some k_ ≠ vF.ownBlock) ∧ k_ ≠ gO ∧ k_ ≠ gU ∧ k_ ≠ gv
theorem OS_.put {w0 w : World} {gO gU gv : Nat} {vF vP : Value} {fl : List S84} {out : List S46} {V : Int → Option Bool} (h : OS_ w0 w gO gU vF vP gv fl out V) {g : Nat} {cs : Array Value} (hb : w.heap[g]? = some (.cells cs 46 (0, 0))) (hU : gU ≠ g) (hn : Kd.S k46 46 w w0.heap.size (fun k_ => okN w0 gO gU gv vF k_ ∧ k_ ≠ g) vP out) (j : Nat) (u : Value) :
  OS_ w0 (w.setCell ⟨g, j, none⟩ u) gO gU vF vP gv fl out V ∧ Kd.S k46 46 (w.setCell ⟨g, j, none⟩ u) w0.heap.size (fun k_ => okN w0 gO gU gv vF k_ ∧ k_ ≠ g) vP out := by
 have h1 := Kd.S_far hn (p := ⟨g, j, none⟩) (fun k hk => hk.2) u
 exact ⟨⟨(Below.heap_setCell _ _ _ _ hU).trans h.box, Kd.R_set h.flats hb (by decide) _ _, Kd.S_mono h1 (fun _ hk => hk.1), h.taken.move (Below.heap_setCell _ _ _ _ (fun e => h.taken.ne_blk hb (by rw [e])))⟩, h1⟩
theorem OS_.later {w0 w w' : World} {gO gU gv : Nat} {vF vP : Value} {fl : List S84} {out : List S46} {V : Int → Option Bool} (h : OS_ w0 w gO gU vF vP gv fl out V) (hb : Below w.heap.size w w') : OS_ w0 w' gO gU vF vP gv fl out V := ⟨blk_below h.box hb, Kd.R_below h.flats hb, Kd.S_below h.parties hb, h.taken.below hb⟩
set_option maxHeartbeats 16000000 in
theorem next_calls (A0 : Option Addr) (c0 : Nat) (l0 : List (S84)) (A9 : Option Addr) (c9 : Nat) (l9 : List (S46)) (A1 : Option Addr) (c1 : Nat) (l1 : List (S51)) (A2 : Option Addr) (c2 : Nat) (l2 : List Int) (r : List S84 × List S46 × Int) (w : World) (hr0 : Kd.C k84 w A0 l0.length l0) (hc0 : l0.length ≤ c0) (hr9 : Kd.C k46 w A9 l9.length l9) (hc9 : l9.length ≤ c9) (hr1 : Kd.C k51 w A1 l1.length l1) (hc1 : l1.length ≤ c1) (hr2 : Kd.C (Kd.int .i64) w A2 l2.length l2) (hc2 : l2.length ≤ c2) (hf : fewN l0 l9 l1 l2 = true) (hr : r = nextR l0 l9 l1 l2) :
  Calls Try.prog 15 #[.agg #[.slice A0 l0.length c0, .slice A9 l9.length c9], .slice A1 l1.length c1, .slice A2 l2.length c2] w fun e w' => ∃ v0_ v1_ : Value, e = .returned (.tuple #[.agg #[v0_, v1_], .int .i64 r.2.2]) ∧ Kd.R k84 84 w' w.heap.size (fun k_ => w.heap.size ≤ k_) v0_ r.1 ∧ Kd.S k46 46 w' w.heap.size (fun k_ => (w.heap.size ≤ k_) ∧ some k_ ≠ (v0_ : Value).ownBlock) v1_ r.2.1 ∧ Below w.heap.size w w' := by
 have hu25 := Try.underlying25
 have hu68 := Try.underlying68
 have hu51 := Try.underlying51
 have hu46 := Try.underlying46
 obtain ⟨f1, f2, f3⟩ := fewN_at hf
 have HF := Aside0.mk f1
 have HFA := Aside0.mk (fewM_at f1)
 have HF2 := Aside0.mk f2
 have HF3 := Aside0.mk f3
 have HR0 := Aside0.mk hr0
 have HC0 := Aside0.mk hc0
 have HR9 := Aside0.mk hr9
 have HC9 := Aside0.mk hc9
 have HR1 := Aside0.mk hr1
 have HC1 := Aside0.mk hc1
 have HR2 := Aside0.mk hr2
 have HC2 := Aside0.mk hc2
 have HB := Aside0.mk (Below.refl w.heap.size w)
 have HRR := Aside0.mk hr
 have hmm := @run_makeMap Try.prog
 clear hr0 hc0 hr9 hc9 hr1 hc1 hr2 hc2 hf f1 f2 f3 hr
 go_enter Try.func15, Try.ntmps15
 go_upto_region 2 with (first | ((with_reducible refine gate_dst (N := 3) rfl ?_); refine box_event ?hg (N := 3) ?hd (cs := #[.slice A0 l0.length c0, .slice A9 l9.length c9]) (t := 25) ?hr ?_; (case hd => rfl); (case hg => rfl); (case hr => first | (go_simp; done) | (go_simp; rfl)); intro gM hg_M w1 hbox_ hb_; have n0_ := Aside0.mk (below_step HB.out hb_); have BM := Aside0.mk hbox_; have GM := Aside0.mk (show w.heap.size ≤ gM by rw [hg_M]; exact below_size HB.out); have EM := Aside0.mk hg_M; have hcM0 : w1.cell? ⟨gM, 0, none⟩ = some (.slice A0 l0.length c0) := (blk_cell hbox_ 0).trans rfl; have hfM0 := blk_frozen hbox_ 0; have hcM1 : w1.cell? ⟨gM, 1, none⟩ = some (.slice A9 l9.length c9) := (blk_cell hbox_ 1).trans rfl; have hfM1 := blk_frozen hbox_ 1; have BMk := Aside0.mk hbox_; clear HB hg_M hbox_ hb_; have HB := n0_; clear n0_) | ((with_reducible refine gate_dst (N := 6) rfl ?_); refine box_event ?hg (N := 6) ?hd (cs := #[.slice none 0 0, .slice none 0 0]) (t := 25) ?hr ?_; (case hd => rfl); (case hg => rfl); (case hr => first | (go_simp; done) | (go_simp; rfl)); intro gO hg_O w1b hbox_ hb_; have n0_ := Aside0.mk (below_step HB.out hb_); have BO := Aside0.mk hbox_; have GO := Aside0.mk (show w.heap.size ≤ gO by rw [hg_O]; exact below_size HB.out); have EO := Aside0.mk hg_O; have hcO0 : w1b.cell? ⟨gO, 0, none⟩ = some (.slice none 0 0) := (blk_cell hbox_ 0).trans rfl; have hfO0 := blk_frozen hbox_ 0; have hcO1 : w1b.cell? ⟨gO, 1, none⟩ = some (.slice none 0 0) := (blk_cell hbox_ 1).trans rfl; have hfO1 := blk_frozen hbox_ 1; have BOk := Aside0.mk hbox_; have BMk := Aside0.mk (blk_below BMk.out hb_); replace hcM0 := (hb_.cell (World.block_lt_of_cell? _ _ hcM0)).trans hcM0; replace hcM1 := (hb_.cell (World.block_lt_of_cell? _ _ hcM1)).trans hcM1; clear HB hg_O hbox_ hb_; have HB := n0_; clear n0_) | (go_at_call 30; (with_reducible refine (read_calls A0 c0 l0 A9 c9 l9 _ (Kd.C_below HR0.out HB.out) HC0.out (Kd.C_below HR9.out HB.out) HC9.out HF.out).mono ?_); rintro e w2 ⟨m1, m2, m3, rfl, ht_, hb_⟩; have HT := Aside0.mk (show marketOk l0 l9 = true → ∃ g1 g2 g3, m1 = some g1 ∧ m2 = some g2 ∧ m3 = some g3 ∧ Town w2 w.heap.size g1 g2 g3 (homesM l9 l9.length) (knownM l0 l0.length) (occM l9 l9.length) from fun h_ => by obtain ⟨g1, g2, g3, e1_, e2_, e3_, t_⟩ := ht_ h_; exact ⟨g1, g2, g3, e1_, e2_, e3_, t_.low (below_size HB.out)⟩); have BOk := Aside0.mk (blk_below BOk.out hb_); have BMk := Aside0.mk (blk_below BMk.out hb_); replace hcM0 := (hb_.cell (World.block_lt_of_cell? _ _ hcM0)).trans hcM0; replace hcM1 := (hb_.cell (World.block_lt_of_cell? _ _ hcM1)).trans hcM1; have n0_ := Aside0.mk (below_step HB.out hb_); clear HB hb_ ht_; have HB := n0_; clear n0_) | ((with_reducible refine gate_dst (N := 8) rfl ?_); refine box_event ?hg (N := 8) ?hd (cs := #[.map none, .map none, .map none]) (t := 68) ?hr ?_; (case hd => rfl); (case hg => rfl); (case hr => first | (go_simp; done) | (go_simp; rfl)); intro gT hg_T w3 hbox_ hb_; have n0_ := Aside0.mk (below_step HB.out hb_); have BT := Aside0.mk hbox_; have GT := Aside0.mk (show w.heap.size ≤ gT by rw [hg_T]; exact below_size HB.out); have ET := Aside0.mk hg_T; have hcT0 : w3.cell? ⟨gT, 0, none⟩ = some (.map none) := (blk_cell hbox_ 0).trans rfl; have hfT0 := blk_frozen hbox_ 0; have hcT1 : w3.cell? ⟨gT, 1, none⟩ = some (.map none) := (blk_cell hbox_ 1).trans rfl; have hfT1 := blk_frozen hbox_ 1; have hcT2 : w3.cell? ⟨gT, 2, none⟩ = some (.map none) := (blk_cell hbox_ 2).trans rfl; have hfT2 := blk_frozen hbox_ 2; have n2_ := Aside0.mk (show marketOk l0 l9 = true → ∃ g1 g2 g3, m1 = some g1 ∧ m2 = some g2 ∧ m3 = some g3 ∧ Town w3 w.heap.size g1 g2 g3 (homesM l9 l9.length) (knownM l0 l0.length) (occM l9 l9.length) from fun h_ => by obtain ⟨g1, g2, g3, e1_, e2_, e3_, t_⟩ := HT.out h_; exact ⟨g1, g2, g3, e1_, e2_, e3_, t_.later hb_⟩); clear HT; have HT := n2_; clear n2_; have BOk := Aside0.mk (blk_below BOk.out hb_); have BMk := Aside0.mk (blk_below BMk.out hb_); replace hcM0 := (hb_.cell (World.block_lt_of_cell? _ _ hcM0)).trans hcM0; replace hcM1 := (hb_.cell (World.block_lt_of_cell? _ _ hcM1)).trans hcM1; clear HB hg_T hbox_ hb_; have HB := n0_; clear n0_))
 obtain ⟨w4, hw4⟩ : ∃ w4, w4 = ((w3.setCell ⟨gT, 0, none⟩ (.map m1)).setCell ⟨gT, 1, none⟩ (.map m2)).setCell ⟨gT, 2, none⟩ (.map m3) := ⟨_, rfl⟩
 rw [← hw4]
 have far : ∀ {g t : Nat} {cs : Array Value}, w3.heap[g]? = some (.cells cs t (0, 0)) → t ≠ 68 → w4.heap[g]? = some (.cells cs t (0, 0)) := fun {g t cs} h ht => by
  have hne := blk_ne h BT.out ht
  rw [hw4]
  exact (Below.heap_setCell _ _ _ _ hne).trans ((Below.heap_setCell _ _ _ _ hne).trans ((Below.heap_setCell _ _ _ _ hne).trans h))
 have BT4 := Aside0.mk (show w4.heap[gT]? = some (.cells #[.map m1, .map m2, .map m3] 68 (0, 0)) by rw [hw4]; exact blk_put3 BT.out _ _ _)
 have BM4 := Aside0.mk (far BMk.out (by decide))
 have BO4 := Aside0.mk (far BOk.out (by decide))
 have HT4 := Aside0.mk (show marketOk l0 l9 = true → ∃ g1 g2 g3, m1 = some g1 ∧ m2 = some g2 ∧ m3 = some g3 ∧ Town w4 w.heap.size g1 g2 g3 (homesM l9 l9.length) (knownM l0 l0.length) (occM l9 l9.length) from fun h => by
  obtain ⟨g1, g2, g3, e1, e2, e3, ht⟩ := HT.out h
  refine ⟨g1, g2, g3, e1, e2, e3, ?_⟩
  rw [hw4]
  exact ((ht.put BT.out 0 _).put (blk_put BT.out 0 _ rfl) 1 _).put (blk_put (blk_put BT.out 0 _ rfl) 1 _ rfl) 2 _)
 have HB4 := Aside0.mk (show Below w.heap.size w w4 by rw [hw4]; exact below_put3 HB.out GT.out _ _ _)
 clear HB HT BT far hw4 hcT0 hcT1 hcT2 hfT0 hfT1 hfT2 hcM0 hcM1 hfM0 hfM1 hcO0 hcO1 hfO0 hfO1 BMk BOk BM BO
 cases hx1 : marketOk l0 l9 with
 | false =>
  have HE := Aside0.mk (show r = ([], [], 1) by rw [HRR.out]; unfold nextR; rw [if_neg (by rw [hx1]; rintro ⟨h, _⟩; cases h)])
  have hcO0 := (blk_cell BO4.out 0).trans rfl
  have hcO1 := (blk_cell BO4.out 1).trans rfl
  have hfO0 := blk_frozen BO4.out 0
  have hfO1 := blk_frozen BO4.out 1
  clear hx1
  go_wp2
  refine bodyPost_ret (results_ct rfl _ _ gO 25 #[.slice none 0 0, .slice none 0 0] (0, 0) _ rfl (blk_put2 BO4.out _ _) Try.underlying25 rfl (by kernel_rfl)) rfl ?_
  rw [HE.out]
  exact ⟨_, _, rfl, Kd.R_nil _ _ _ _ _, Kd.S_nil _ _ _ _ _, below_put2 HB4.out GO.out _ _⟩
 | true =>
 obtain ⟨g1, g2, g3, e1, e2, e3, hT⟩ := HT4.out hx1
 subst e1
 subst e2
 subst e3
 have HT5 := Aside0.mk hT
 have HX1 := Aside0.mk hx1
 clear hT HT4 hx1
 go_upto_region 5 with (fail)
 obtain ⟨gt, hgt⟩ : ∃ gt, gt = w4.heap.size := ⟨_, rfl⟩
 obtain ⟨w5, hw5⟩ : ∃ w5, w5 = w4.alloc (Obj.map #[] 0) := ⟨_, rfl⟩
 rw [← hw5, ← hgt]
 obtain ⟨H, hH⟩ : ∃ H, H = homesM l9 l9.length := ⟨_, rfl⟩
 obtain ⟨K, hK⟩ : ∃ K, K = knownM l0 l0.length := ⟨_, rfl⟩
 obtain ⟨T, hT⟩ : ∃ T, T = occM l9 l9.length := ⟨_, rfl⟩
 rw [← hH, ← hK, ← hT] at HT5
 have HS5 := Aside0.mk (show NS w w5 gO gT g1 g2 g3 gt H K T (toM l1 0) by
  have hb5 : Below w4.heap.size w4 w5 := by rw [hw5]; exact below_alloc (Below.refl _ _) _
  have a1 := HT5.out.flat.lt
  have a2 := HT5.out.known.lt
  have a3 := HT5.out.taken.lt
  refine ⟨blk_below BO4.out hb5, blk_below BT4.out hb5, HT5.out.later hb5, ?_, ⟨by omega, by omega, by omega⟩, ⟨by have := below_size HB4.out; omega, GO.out⟩, below_step HB4.out hb5⟩
  rw [hw5, hgt]
  exact (MapI.made w4).none_ vInt)
 have BM5 := Aside0.mk (show w5.heap[gM]? = some (.cells #[.slice A0 l0.length c0, .slice A9 l9.length c9] 25 (0, 0)) by rw [hw5]; exact blk_below BM4.out (below_alloc (Below.refl _ _) _))
 have HRR2 := Aside0.mk (show r = if movesB H K l1 = true ∧ goneB H l2 = true then nxOut l0 (nxM (toM l1 l1.length) l2 l9 l9.length) else ([], [], 1) by
  rw [HRR.out, hH, hK]
  unfold nextR
  rw [HX1.out]
  simp only [true_and])
 clear hw5 hgt hH hK hT HT5 BO4 BT4 BM4 HB4 HRR HX1
 go_wp2
 go_loopg [36] l1.length (fun kq v36 wr => ∃ (n : Nat), v36 = .int .i64 n ∧ Aside0 (kq + n = l1.length) ∧ Aside0 (∀ j, j < n → stepB H K l1 j = true) ∧ Aside0 (wr.heap[gM]? = some (.cells #[.slice A0 l0.length c0, .slice A9 l9.length c9] 25 (0, 0))) ∧ Aside0 (NS w wr gO gT g1 g2 g3 gt H K T (toM l1 n)))
 case atStart => exact ⟨0, rfl, ⟨by omega⟩, ⟨fun j hj => absurd hj (by omega)⟩, BM5, HS5⟩
 case round =>
  clear HS5 BM5
  obtain ⟨n, rfl, HK, HA, BM, HS⟩ := hrel
  by_cases hlt : n < l1.length
  ·obtain ⟨i, hi⟩ : ∃ i : Int, i = (n : Int) := ⟨_, rfl⟩
   rw [← hi]
   have HI2 := Aside0.mk (show 0 ≤ i ∧ i < l1.length ∧ i = (n : Int) from ⟨by omega, by omega, hi⟩)
   have d7 : decide (i < (l1.length : Int)) = true := decide_eq_true HI2.out.2.1
   have ci2 : (0 ≤ i) = True := eq_true HI2.out.1
   have ci3 : (i < l1.length) = True := eq_true HI2.out.2.1
   obtain ⟨adp, ep, hx0, hx1, hx2⟩ := at_T51 (Kd.C_below HR1.out HS.out.below) i HI2.out.1 HI2.out.2.1
   subst ep
   obtain ⟨x, hp⟩ : ∃ x, x = rd_T51 l1 i := ⟨_, rfl⟩
   rw [← hp] at hx0 hx1 hx2
   have HP := Aside0.mk (show rd_T51 l1 (n : Int) = x by rw [hp, hi])
   have hz1 : i + 1 ≤ 9223372036854775807 := by have := HI2.out; have := HF2.out; omega
   have hz2 : -9223372036854775808 ≤ i + 1 := by have := HI2.out; omega
   have HLT := Aside0.mk hlt
   have HSB := Aside0.mk (show stepB H K l1 n = (!(toM l1 n x.f0).isSome && fitsB H K x) by unfold stepB; rw [HP.out])
   clear hi hlt hp
   have HB0 := Aside0.mk (Below.refl wr.heap.size wr)
   go_upto_region 8 with (first | ((with_reducible refine gate_dst (N := 12) rfl ?_); refine box_event ?hg (N := 12) ?hd (cs := #[.int .i64 0, .int .i64 0, .int .i64 0]) (t := 51) ?hr ?_; (case hd => rfl); (case hg => rfl); (case hr => first | (go_simp; done) | (go_simp; rfl)); intro gx hg_X w9 hbox_ hb_; have n0_ := Aside0.mk (below_step HB0.out hb_); have BX := Aside0.mk hbox_; have GX := Aside0.mk (show wr.heap.size ≤ gx by rw [hg_X]; exact below_size HB0.out); have EX := Aside0.mk hg_X; have hcx0 : w9.cell? ⟨gx, 0, none⟩ = some (.int .i64 0) := (blk_cell hbox_ 0).trans rfl; have hfx0 := blk_frozen hbox_ 0; have hcx1 : w9.cell? ⟨gx, 1, none⟩ = some (.int .i64 0) := (blk_cell hbox_ 1).trans rfl; have hfx1 := blk_frozen hbox_ 1; have hcx2 : w9.cell? ⟨gx, 2, none⟩ = some (.int .i64 0) := (blk_cell hbox_ 2).trans rfl; have hfx2 := blk_frozen hbox_ 2; replace hx0 := (hb_.cell (World.block_lt_of_cell? _ _ hx0)).trans hx0; replace hx1 := (hb_.cell (World.block_lt_of_cell? _ _ hx1)).trans hx1; replace hx2 := (hb_.cell (World.block_lt_of_cell? _ _ hx2)).trans hx2; clear HB0 hg_X hbox_ hb_; have HB0 := n0_; clear n0_))
   obtain ⟨w10, hw10⟩ : ∃ w10, w10 = ((w9.setCell ⟨gx, 0, none⟩ (.int .i64 x.f0)).setCell ⟨gx, 1, none⟩ (.int .i64 x.f1)).setCell ⟨gx, 2, none⟩ (.int .i64 x.f2) := ⟨_, rfl⟩
   rw [← hw10]
   have BX10 := Aside0.mk (show w10.heap[gx]? = some (.cells #[.int .i64 x.f0, .int .i64 x.f1, .int .i64 x.f2] 51 (0, 0)) by rw [hw10]; exact blk_put3 BX.out _ _ _)
   have hb10 : Below wr.heap.size wr w10 := by rw [hw10]; exact below_put3 HB0.out GX.out _ _ _
   have HS10 := Aside0.mk (HS.out.later hb10)
   have BM10 := Aside0.mk (blk_below BM.out hb10)
   clear hw10 hb10 BX HB0 hcx0 hcx1 hcx2 hfx0 hfx1 hfx2 hx0 hx1 hx2 HS BM
   have hcx0 := (blk_cell BX10.out 0).trans rfl
   have hcx1 := (blk_cell BX10.out 1).trans rfl
   have hcx2 := (blk_cell BX10.out 2).trans rfl
   have hcT0 := (blk_cell HS10.out.cell 0).trans rfl
   have hcT1 := (blk_cell HS10.out.cell 1).trans rfl
   have hcT2 := (blk_cell HS10.out.cell 2).trans rfl
   have hcO0 := (blk_cell HS10.out.res 0).trans rfl
   have hcO1 := (blk_cell HS10.out.res 1).trans rfl
   have hfO0 := blk_frozen HS10.out.res 0
   have hfO1 := blk_frozen HS10.out.res 1
   cases h1 : (toM l1 n x.f0).isSome with
   | true =>
    have H1 := Aside0.mk h1
    have HE := Aside0.mk (show r = ([], [], 1) by
     have : movesB H K l1 = false := all_false HLT.out (show stepB H K l1 n = false by rw [HSB.out, h1]; rfl)
     rw [HRR2.out, if_neg (by rw [this]; rintro ⟨h, _⟩; cases h)])
    clear h1
    go_wp2_with (first | ((with_reducible refine gate_ (op := .lookup 65 (.tmp 41) (.tmp 43) true) rfl ?_); refine wpList_lookI _ rfl (.tmp 41) (.tmp 43) 65 true rfl 3 3 Try.underlying65 Try.underlying3 (Try.zeroValue3 _) gt (mapV vInt (toM l1 n)) rfl HS10.out.too x.f0 rfl ?_; rw [if_pos rfl, show (Value.int IntKind.i64 0) = vInt 0 from rfl, mapV_get, mapV_some, H1.out]; dsimp only [vInt]))
    refine bodyPost_ret (results_ct rfl _ _ gO 25 #[.slice none 0 0, .slice none 0 0] (0, 0) _ rfl (blk_put2 HS10.out.res _ _) Try.underlying25 rfl (by kernel_rfl)) rfl ?_
    rw [HE.out]
    exact ⟨_, _, rfl, Kd.R_nil _ _ _ _ _, Kd.S_nil _ _ _ _ _, below_put2 HS10.out.below GO.out _ _⟩
   | false =>
    have H1 := Aside0.mk h1
    cases h2 : fitsB H K x with
    | false =>
     have H2 := Aside0.mk h2
     have HE := Aside0.mk (show r = ([], [], 1) by
      have : movesB H K l1 = false := all_false HLT.out (show stepB H K l1 n = false by rw [HSB.out, h2, Bool.and_false])
      rw [HRR2.out, if_neg (by rw [this]; rintro ⟨h, _⟩; cases h)])
     clear h1 h2
     go_wp2_with (first | ((with_reducible refine gate_ (op := .lookup 65 (.tmp 41) (.tmp 43) true) rfl ?_); refine wpList_lookI _ rfl (.tmp 41) (.tmp 43) 65 true rfl 3 3 Try.underlying65 Try.underlying3 (Try.zeroValue3 _) gt (mapV vInt (toM l1 n)) rfl HS10.out.too x.f0 rfl ?_; rw [if_pos rfl, show (Value.int IntKind.i64 0) = vInt 0 from rfl, mapV_get, mapV_some, H1.out]; dsimp only [vInt]) | (go_at_call 37; (with_reducible refine (fits_calls _ w.heap.size g1 g2 g3 H K T x HS10.out.town).mono ?_); rw [H2.out]; rintro e w11 ⟨rfl, hb_⟩; have HS11 := Aside0.mk (HS10.out.later hb_); have BM11 := Aside0.mk (blk_below BM10.out hb_); have BX11 := Aside0.mk (blk_below BX10.out hb_); replace hcx0 := (hb_.cell (World.block_lt_of_cell? _ _ hcx0)).trans hcx0; replace hcx1 := (hb_.cell (World.block_lt_of_cell? _ _ hcx1)).trans hcx1; replace hcx2 := (hb_.cell (World.block_lt_of_cell? _ _ hcx2)).trans hcx2; replace hcO0 := (hb_.cell (World.block_lt_of_cell? _ _ hcO0)).trans hcO0; replace hcO1 := (hb_.cell (World.block_lt_of_cell? _ _ hcO1)).trans hcO1; replace hfO0 := blk_frozen HS11.out.res 0; replace hfO1 := blk_frozen HS11.out.res 1; clear hb_ hcT0 hcT1 hcT2))
     refine bodyPost_ret (results_ct rfl _ _ gO 25 #[.slice none 0 0, .slice none 0 0] (0, 0) _ rfl (blk_put2 HS11.out.res _ _) Try.underlying25 rfl (by kernel_rfl)) rfl ?_
     rw [HE.out]
     exact ⟨_, _, rfl, Kd.R_nil _ _ _ _ _, Kd.S_nil _ _ _ _ _, below_put2 HS11.out.below GO.out _ _⟩
    | true =>
     have H2 := Aside0.mk h2
     have HST := Aside0.mk (show stepB H K l1 n = true by rw [HSB.out, h1, h2]; rfl)
     clear h1 h2
     go_wp2_with (first | ((with_reducible refine gate_ (op := .lookup 65 (.tmp 41) (.tmp 43) true) rfl ?_); refine wpList_lookI _ rfl (.tmp 41) (.tmp 43) 65 true rfl 3 3 Try.underlying65 Try.underlying3 (Try.zeroValue3 _) gt (mapV vInt (toM l1 n)) rfl HS10.out.too x.f0 rfl ?_; rw [if_pos rfl, show (Value.int IntKind.i64 0) = vInt 0 from rfl, mapV_get, mapV_some, H1.out]; dsimp only [vInt]) | (go_at_call 37; (with_reducible refine (fits_calls _ w.heap.size g1 g2 g3 H K T x HS10.out.town).mono ?_); rw [H2.out]; rintro e w11 ⟨rfl, hb_⟩; have HS11 := Aside0.mk (HS10.out.later hb_); have BM11 := Aside0.mk (blk_below BM10.out hb_); have BX11 := Aside0.mk (blk_below BX10.out hb_); replace hcx0 := (hb_.cell (World.block_lt_of_cell? _ _ hcx0)).trans hcx0; replace hcx1 := (hb_.cell (World.block_lt_of_cell? _ _ hcx1)).trans hcx1; replace hcx2 := (hb_.cell (World.block_lt_of_cell? _ _ hcx2)).trans hcx2; replace hcO0 := (hb_.cell (World.block_lt_of_cell? _ _ hcO0)).trans hcO0; replace hcO1 := (hb_.cell (World.block_lt_of_cell? _ _ hcO1)).trans hcO1; replace hfO0 := blk_frozen HS11.out.res 0; replace hfO1 := blk_frozen HS11.out.res 1; clear hb_ hcT0 hcT1 hcT2) | ((with_reducible refine gate_ (op := .mapUpdate 65 (.tmp 55) (.tmp 57) (.tmp 59)) rfl ?_); refine wpList_storeI _ rfl (.tmp 55) (.tmp 57) (.tmp 59) 65 rfl 3 3 Try.underlying65 Try.underlying3 gt (mapV vInt (toM l1 n)) rfl HS11.out.too x.f0 rfl (.int .i64 x.f2) rfl ?_; intro w12 hm_ hg_; have BM12 := Aside0.mk (blk_grown BM11.out hg_ (HS11.out.too.ne_blk BM11.out)); have HS12 := Aside0.mk (show NS w w12 gO gT g1 g2 g3 gt H K T (toM l1 (n + 1)) by rw [toM_succ, HP.out]; exact HS11.out.move hm_ hg_); clear hm_ hg_))
     go_roundg (gk - 1)
     case measure => have := HK.out; have := HLT.out; omega
     case rel =>
      refine ⟨n + 1, ?_, ⟨by have := HK.out; have := HLT.out; omega⟩, ⟨fun j hj => ?_⟩, BM12, HS12⟩
      ·have := HI2.out
       first | (rw [show ((n + 1 : Nat) : Int) = i + 1 from by omega]; done) | (simp; omega)
      ·by_cases e : j = n
       ·rw [e]; exact HST.out
       ·exact HA.out j (by omega)
  ·have d7 : decide ((n : Int) < (l1.length : Int)) = false := decide_eq_false (by omega)
   have d7' : decide (n < l1.length) = false := decide_eq_false hlt
   have hnl : n = l1.length := by have := HK.out; omega
   rw [hnl] at HS HA
   have HMV := Aside0.mk (show movesB H K l1 = true from all_true HA.out)
   clear hlt hnl HK HA
   obtain ⟨M, hM⟩ : ∃ M, M = toM l1 l1.length := ⟨_, rfl⟩
   rw [← hM] at HS
   have HRR3 := Aside0.mk (show r = if goneB H l2 = true then nxOut l0 (nxM M l2 l9 l9.length) else ([], [], 1) by
    rw [HRR2.out, HMV.out, hM]
    simp only [true_and])
   clear hM
   go_wp2
   go_loopg [63] l2.length (fun kq v63 wr => ∃ (n : Nat), v63 = .int .i64 n ∧ Aside0 (kq + n = l2.length) ∧ Aside0 (∀ j, j < n → goneAt H l2 j = true) ∧ Aside0 (wr.heap[gM]? = some (.cells #[.slice A0 l0.length c0, .slice A9 l9.length c9] 25 (0, 0))) ∧ Aside0 (NS w wr gO gT g1 g2 g3 gt H K T M))
   case atStart => exact ⟨0, rfl, ⟨by omega⟩, ⟨fun j hj => absurd hj (by omega)⟩, BM, HS⟩
   case round =>
    clear HS BM
    obtain ⟨n, rfl, HK, HA, BM, HS⟩ := hrel
    by_cases hlt : n < l2.length
    ·obtain ⟨i, hi⟩ : ∃ i : Int, i = (n : Int) := ⟨_, rfl⟩
     rw [← hi]
     have HI2 := Aside0.mk (show 0 ≤ i ∧ i < l2.length ∧ i = (n : Int) from ⟨by omega, by omega, hi⟩)
     have d7 : decide (i < (l2.length : Int)) = true := decide_eq_true HI2.out.2.1
     have ci2 : (0 ≤ i) = True := eq_true HI2.out.1
     have ci3 : (i < l2.length) = True := eq_true HI2.out.2.1
     obtain ⟨adp, ep, hx0⟩ := Kd.at_int (Kd.C_below HR2.out HS.out.below) i HI2.out.1 HI2.out.2.1
     subst ep
     obtain ⟨x, hp⟩ : ∃ x, x = rd l2 i := ⟨_, rfl⟩
     rw [← hp] at hx0
     have HP := Aside0.mk (show rd l2 (n : Int) = x by rw [hp, hi])
     have hz1 : i + 1 ≤ 9223372036854775807 := by have := HI2.out; have := HF3.out; omega
     have hz2 : -9223372036854775808 ≤ i + 1 := by have := HI2.out; omega
     have HLT := Aside0.mk hlt
     have HSB := Aside0.mk (show goneAt H l2 n = ((H x).isSome && (decide (n = 0) || decide (rd l2 ((n : Int) - 1) < x))) by unfold goneAt; rw [HP.out])
     have hcT0 := (blk_cell HS.out.cell 0).trans rfl
     have hcO0 := (blk_cell HS.out.res 0).trans rfl
     have hcO1 := (blk_cell HS.out.res 1).trans rfl
     have hfO0 := blk_frozen HS.out.res 0
     have hfO1 := blk_frozen HS.out.res 1
     clear hi hp
     cases h1 : (H x).isSome with
     | false =>
      have H1 := Aside0.mk h1
      have HE := Aside0.mk (show r = ([], [], 1) by
       have : goneB H l2 = false := all_false HLT.out (show goneAt H l2 n = false by rw [HSB.out, h1]; rfl)
       rw [HRR3.out, if_neg (by rw [this]; intro h; cases h)])
      clear h1 hlt
      go_wp2_with (first | ((with_reducible refine gate_ (op := .lookup 65 (.tmp 70) (.tmp 71) true) rfl ?_); refine wpList_lookI _ rfl (.tmp 70) (.tmp 71) 65 true rfl 3 3 Try.underlying65 Try.underlying3 (Try.zeroValue3 _) g1 (mapV vInt H) rfl HS.out.town.flat x rfl ?_; rw [if_pos rfl, show (Value.int IntKind.i64 0) = vInt 0 from rfl, mapV_get, mapV_some, H1.out]; dsimp only [vInt]))
      refine bodyPost_ret (results_ct rfl _ _ gO 25 #[.slice none 0 0, .slice none 0 0] (0, 0) _ rfl (blk_put2 HS.out.res _ _) Try.underlying25 rfl (by kernel_rfl)) rfl ?_
      rw [HE.out]
      exact ⟨_, _, rfl, Kd.R_nil _ _ _ _ _, Kd.S_nil _ _ _ _ _, below_put2 HS.out.below GO.out _ _⟩
     | true =>
      have H1 := Aside0.mk h1
      by_cases h0 : 0 < i
      ·have u0 : decide (0 < i) = true := decide_eq_true h0
       obtain ⟨z, hz⟩ : ∃ z, z = i - 1 := ⟨_, rfl⟩
       have hq0 : wrap64 (i - 1) = z := by rw [hz]; unfold wrap64; have := HI2.out; have := HF3.out; omega
       have HZR := Aside0.mk (show 0 ≤ z ∧ z < l2.length from ⟨by omega, by have := HI2.out; omega⟩)
       have hq3 : (0 ≤ z) = True := eq_true HZR.out.1
       have hq4 : (z < l2.length) = True := eq_true HZR.out.2
       obtain ⟨adx', ex', hv0⟩ := Kd.at_int (Kd.C_below HR2.out HS.out.below) z HZR.out.1 HZR.out.2
       cases ex'
       obtain ⟨y, hy⟩ : ∃ y, y = rd l2 z := ⟨_, rfl⟩
       rw [← hy] at hv0
       have HSB2 := Aside0.mk (show goneAt H l2 n = decide (y < x) by
        rw [HSB.out, h1, decide_eq_false (show ¬ n = 0 by have := HI2.out; omega), hy, hz, HI2.out.2.2]
        simp)
       clear hz hy h1 h0
       by_cases h2 : x ≤ y
       ·have u1 : decide (x ≤ y) = true := decide_eq_true h2
        have HE := Aside0.mk (show r = ([], [], 1) by
         have : goneB H l2 = false := all_false HLT.out (show goneAt H l2 n = false by rw [HSB2.out]; exact decide_eq_false (by omega))
         rw [HRR3.out, if_neg (by rw [this]; intro h; cases h)])
        clear h2 hlt
        go_wp2_with (first | ((with_reducible refine gate_ (op := .lookup 65 (.tmp 70) (.tmp 71) true) rfl ?_); refine wpList_lookI _ rfl (.tmp 70) (.tmp 71) 65 true rfl 3 3 Try.underlying65 Try.underlying3 (Try.zeroValue3 _) g1 (mapV vInt H) rfl HS.out.town.flat x rfl ?_; rw [if_pos rfl, show (Value.int IntKind.i64 0) = vInt 0 from rfl, mapV_get, mapV_some, H1.out]; dsimp only [vInt]))
        refine bodyPost_ret (results_ct rfl _ _ gO 25 #[.slice none 0 0, .slice none 0 0] (0, 0) _ rfl (blk_put2 HS.out.res _ _) Try.underlying25 rfl (by kernel_rfl)) rfl ?_
        rw [HE.out]
        exact ⟨_, _, rfl, Kd.R_nil _ _ _ _ _, Kd.S_nil _ _ _ _ _, below_put2 HS.out.below GO.out _ _⟩
       ·have u1 : decide (x ≤ y) = false := decide_eq_false h2
        have HST := Aside0.mk (show goneAt H l2 n = true by rw [HSB2.out]; exact decide_eq_true (by omega))
        clear h2 hlt
        go_wp2_with (first | ((with_reducible refine gate_ (op := .lookup 65 (.tmp 70) (.tmp 71) true) rfl ?_); refine wpList_lookI _ rfl (.tmp 70) (.tmp 71) 65 true rfl 3 3 Try.underlying65 Try.underlying3 (Try.zeroValue3 _) g1 (mapV vInt H) rfl HS.out.town.flat x rfl ?_; rw [if_pos rfl, show (Value.int IntKind.i64 0) = vInt 0 from rfl, mapV_get, mapV_some, H1.out]; dsimp only [vInt]))
        go_roundg (gk - 1)
        case measure => have := HK.out; have := HLT.out; omega
        case rel =>
         refine ⟨n + 1, ?_, ⟨by have := HK.out; have := HLT.out; omega⟩, ⟨fun j hj => ?_⟩, BM, HS⟩
         ·have := HI2.out
          first | (rw [show ((n + 1 : Nat) : Int) = i + 1 from by omega]; done) | (simp; omega)
         ·by_cases e : j = n
          ·rw [e]; exact HST.out
          ·exact HA.out j (by omega)
      ·have u0 : decide (0 < i) = false := decide_eq_false h0
       have HST := Aside0.mk (show goneAt H l2 n = true by rw [HSB.out, h1, decide_eq_true (show n = 0 by have := HI2.out; omega)]; rfl)
       clear h1 h0 hlt
       go_wp2_with (first | ((with_reducible refine gate_ (op := .lookup 65 (.tmp 70) (.tmp 71) true) rfl ?_); refine wpList_lookI _ rfl (.tmp 70) (.tmp 71) 65 true rfl 3 3 Try.underlying65 Try.underlying3 (Try.zeroValue3 _) g1 (mapV vInt H) rfl HS.out.town.flat x rfl ?_; rw [if_pos rfl, show (Value.int IntKind.i64 0) = vInt 0 from rfl, mapV_get, mapV_some, H1.out]; dsimp only [vInt]))
       go_roundg (gk - 1)
       case measure => have := HK.out; have := HLT.out; omega
       case rel =>
        refine ⟨n + 1, ?_, ⟨by have := HK.out; have := HLT.out; omega⟩, ⟨fun j hj => ?_⟩, BM, HS⟩
        ·have := HI2.out
         first | (rw [show ((n + 1 : Nat) : Int) = i + 1 from by omega]; done) | (simp; omega)
        ·by_cases e : j = n
         ·rw [e]; exact HST.out
         ·exact HA.out j (by omega)
    ·have d7 : decide ((n : Int) < (l2.length : Int)) = false := decide_eq_false (by omega)
     have d7' : decide (n < l2.length) = false := decide_eq_false hlt
     have hnl : n = l2.length := by have := HK.out; omega
     rw [hnl] at HA
     have HGN := Aside0.mk (show goneB H l2 = true from all_true HA.out)
     have HRR4 := Aside0.mk (show r = nxOut l0 (nxM M l2 l9 l9.length) by rw [HRR3.out, if_pos HGN.out])
     clear hlt hnl HK HA
     have hcM0 : wr.cell? ⟨gM, 0, none⟩ = some (.slice A0 l0.length c0) := (blk_cell BM.out 0).trans rfl
     go_upto_region 21 with (first | (go_at_call 38; (with_reducible refine (slices_Clone_flats.calls A0 c0 l0 l0 _ (Kd.C_below HR0.out HS.out.below) HC0.out (by unfold slices_Clone_flats.f; rw [if_pos (by have := HFA.out.1; omega)])).mono ?_); rintro e w20 ⟨vF, rfl, hR_, hb_⟩; obtain ⟨AF, cF, rfl⟩ := Kd.R_slice hR_; have HS20 := Aside0.mk (HS.out.later hb_); have BM20 := Aside0.mk (blk_below BM.out hb_); have RF20 := Aside0.mk (R_grade hR_ (below_size HS.out.below)); clear hb_ hR_) | (have HB0 := Aside0.mk HS20.out.below; (with_reducible refine gate_dst (N := 19) rfl ?_); refine box_event ?hg (N := 19) ?hd (cs := #[.slice none 0 0, .slice none 0 0]) (t := 25) ?hr ?_; (case hd => rfl); (case hg => rfl); (case hr => first | (go_simp; done) | (go_simp; rfl)); intro gU hg_U w21 hbox_ hb_; have n0_ := Aside0.mk (below_step HB0.out hb_); have BU := Aside0.mk hbox_; have GU := Aside0.mk (show w.heap.size ≤ gU by rw [hg_U]; exact below_size HB0.out); have EU := Aside0.mk hg_U; have hcU0 : w21.cell? ⟨gU, 0, none⟩ = some (.slice none 0 0) := (blk_cell hbox_ 0).trans rfl; have hfU0 := blk_frozen hbox_ 0; have hcU1 : w21.cell? ⟨gU, 1, none⟩ = some (.slice none 0 0) := (blk_cell hbox_ 1).trans rfl; have hfU1 := blk_frozen hbox_ 1; have HS21 := Aside0.mk (HS20.out.later hb_); have BM21 := Aside0.mk (blk_below BM20.out hb_); have RF21 := Aside0.mk (Kd.R_below RF20.out hb_); clear HB0 hg_U hbox_ hb_; have HB0 := n0_; clear n0_))
     obtain ⟨w22, hw22⟩ : ∃ w22, w22 = (w21.setCell ⟨gU, 0, none⟩ (.slice AF l0.length cF)).setCell ⟨gU, 1, none⟩ (.slice none 0 0) := ⟨_, rfl⟩
     rw [← hw22]
     have NOU := Aside0.mk (show gO ≠ gU from fun e => by have := blk_lt HS20.out.res; have := GU.out; have := EU.out; omega)
     have HS22 := Aside0.mk (show NS w w22 gO gT g1 g2 g3 gt H K T M by rw [hw22]; exact (HS21.out.put BU.out NOU.out (by decide) GU.out 0 _).put (blk_put BU.out 0 _ rfl) NOU.out (by decide) GU.out 1 _)
     have BU22 := Aside0.mk (show w22.heap[gU]? = some (.cells #[.slice AF l0.length cF, .slice none 0 0] 25 (0, 0)) by rw [hw22]; exact blk_put2 BU.out _ _)
     have RF22 := Aside0.mk (show Kd.R k84 84 w22 w.heap.size (fun k_ => w.heap.size ≤ k_) (.slice AF l0.length cF) l0 by rw [hw22]; exact Kd.R_set (Kd.R_set RF21.out BU.out (by decide) _ _) (blk_put BU.out 0 _ rfl) (by decide) _ _)
     have BM22 := Aside0.mk (show w22.heap[gM]? = some (.cells #[.slice A0 l0.length c0, .slice A9 l9.length c9] 25 (0, 0)) by
      have hne : gM ≠ gU := fun e => by have := blk_lt BM20.out; have := EU.out; omega
      rw [hw22]
      exact (Below.heap_setCell _ _ _ _ hne).trans ((Below.heap_setCell _ _ _ _ hne).trans BM21.out))
     clear hw22 HS20 HS21 RF21 BM20 BM21 BU hcM0 hcU0 hcU1 hfU0 hfU1
     have hb23 : Below w22.heap.size w22 (w22.alloc (Obj.map #[] 0)) := below_alloc (Below.refl _ _) _
     have hcM1 : (w22.alloc (Obj.map #[] 0)).cell? ⟨gM, 1, none⟩ = some (.slice A9 l9.length c9) := (blk_cell (blk_below BM22.out hb23) 1).trans rfl
     go_wp2
     obtain ⟨gv, hgv⟩ : ∃ gv, gv = w22.heap.size := ⟨_, rfl⟩
     obtain ⟨w23, hw23⟩ : ∃ w23, w23 = w22.alloc (Obj.map #[] 0) := ⟨_, rfl⟩
     rw [← hw23] at hb23
     rw [← hgv, ← hw23]
     have HS23 := Aside0.mk (HS22.out.later hb23)
     have OS23 := Aside0.mk (show OS_ w w23 gO gU (.slice AF l0.length cF) (.slice none 0 0) gv l0 [] (fun _ => none) from ⟨blk_below BU22.out hb23, Kd.R_below RF22.out hb23, Kd.S_nil _ _ _ _ _, by rw [hw23, hgv]; exact (MapI.made w22).none_ vBool⟩)
     have HNV := Aside0.mk (show g1 ≠ gv ∧ g2 ≠ gv ∧ g3 ≠ gv ∧ gt ≠ gv ∧ w.heap.size ≤ gv from ⟨by have := HS22.out.town.flat.lt; omega, by have := HS22.out.town.known.lt; omega, by have := HS22.out.town.taken.lt; omega, by have := HS22.out.too.lt; omega, by have := below_size HS22.out.below; omega⟩)
     clear hw23 hgv hb23 HS22 BU22 RF22 BM22 hcM1
     go_loopg [100] l9.length (fun kq v100 wr => ∃ (n : Nat) (vP : Value) (out : List S46) (V : Int → Option Bool), v100 = .int .i64 n ∧ Aside0 (kq + n = l9.length) ∧ Aside0 (nxM M l2 l9 n = some (out, V)) ∧ Aside0 (NS w wr gO gT g1 g2 g3 gt H K T M) ∧ Aside0 (OS_ w wr gO gU (.slice AF l0.length cF) vP gv l0 out V))
     case atStart => exact ⟨0, _, _, _, rfl, ⟨by omega⟩, ⟨rfl⟩, HS23, OS23⟩
     case round =>
      clear HS23 OS23
      obtain ⟨n, vP, out, V, rfl, HK, HX, HS, HO⟩ := hrel
      by_cases hlt : n < l9.length
      ·obtain ⟨i, hi⟩ : ∃ i : Int, i = (n : Int) := ⟨_, rfl⟩
       rw [← hi]
       have HI2 := Aside0.mk (show 0 ≤ i ∧ i < l9.length ∧ i = (n : Int) from ⟨by omega, by omega, hi⟩)
       have d7 : decide (i < (l9.length : Int)) = true := decide_eq_true HI2.out.2.1
       have ci2 : (0 ≤ i) = True := eq_true HI2.out.1
       have ci3 : (i < l9.length) = True := eq_true HI2.out.2.1
       obtain ⟨adp, Ap, cp, ep, hx0, hx1, hx2, hpc, hpC⟩ := at_T46 HR9.out i HI2.out.1 HI2.out.2.1
       subst ep
       obtain ⟨p, hp⟩ : ∃ p, p = rd_T46 l9 i := ⟨_, rfl⟩
       have HPL := Aside0.mk (show p.f2.length ≤ 1000000000000 by rw [hp]; exact HFA.out.2.2 i HI2.out.1 HI2.out.2.1)
       rw [← hp] at hx0 hx1 hx2 hpc hpC
       have HPC := Aside0.mk (And.intro hpc hpC)
       replace hx0 := (HS.out.below.cell (World.block_lt_of_cell? _ _ hx0)).trans hx0
       replace hx1 := (HS.out.below.cell (World.block_lt_of_cell? _ _ hx1)).trans hx1
       replace hx2 := (HS.out.below.cell (World.block_lt_of_cell? _ _ hx2)).trans hx2
       have HP := Aside0.mk (show rd_T46 l9 (n : Int) = p by rw [hp, hi])
       have hz1 : i + 1 ≤ 9223372036854775807 := by have := HI2.out; have := HFA.out.2.1; omega
       have hz2 : -9223372036854775808 ≤ i + 1 := by have := HI2.out; omega
       have HLT := Aside0.mk hlt
       have HXN := Aside0.mk (show nxM M l2 l9 (n + 1) = nxS M l2 p (out, V) by rw [nxM_succ, HX.out, HP.out]; rfl)
       have HOL := Aside0.mk (nxM_len HX.out)
       clear hi hlt hp hpc hpC
       have HB0 := Aside0.mk (Below.refl wr.heap.size wr)
       go_upto_region 25 with (first | ((with_reducible refine gate_dst (N := 22) rfl ?_); refine box_event ?hg (N := 22) ?hd (cs := #[.int .i64 0, .int .i64 0, .slice none 0 0]) (t := 46) ?hr ?_; (case hd => rfl); (case hg => rfl); (case hr => first | (go_simp; done) | (go_simp; rfl)); intro gp hg_P w9 hbox_ hb_; have n0_ := Aside0.mk (below_step HB0.out hb_); have BP := Aside0.mk hbox_; have GP := Aside0.mk (show wr.heap.size ≤ gp by rw [hg_P]; exact below_size HB0.out); have EP := Aside0.mk hg_P; have hcp0 : w9.cell? ⟨gp, 0, none⟩ = some (.int .i64 0) := (blk_cell hbox_ 0).trans rfl; have hfp0 := blk_frozen hbox_ 0; have hcp1 : w9.cell? ⟨gp, 1, none⟩ = some (.int .i64 0) := (blk_cell hbox_ 1).trans rfl; have hfp1 := blk_frozen hbox_ 1; have hcp2 : w9.cell? ⟨gp, 2, none⟩ = some (.slice none 0 0) := (blk_cell hbox_ 2).trans rfl; have hfp2 := blk_frozen hbox_ 2; replace hx0 := (hb_.cell (World.block_lt_of_cell? _ _ hx0)).trans hx0; replace hx1 := (hb_.cell (World.block_lt_of_cell? _ _ hx1)).trans hx1; replace hx2 := (hb_.cell (World.block_lt_of_cell? _ _ hx2)).trans hx2; clear HB0 hg_P hbox_ hb_; have HB0 := n0_; clear n0_))
       obtain ⟨w10, hw10⟩ : ∃ w10, w10 = ((w9.setCell ⟨gp, 0, none⟩ (.int .i64 p.f0)).setCell ⟨gp, 1, none⟩ (.int .i64 p.f1)).setCell ⟨gp, 2, none⟩ (.slice Ap p.f2.length cp) := ⟨_, rfl⟩
       rw [← hw10]
       have BP10 := Aside0.mk (show w10.heap[gp]? = some (.cells #[.int .i64 p.f0, .int .i64 p.f1, .slice Ap p.f2.length cp] 46 (0, 0)) by rw [hw10]; exact blk_put3 BP.out _ _ _)
       have hb10 : Below wr.heap.size wr w10 := by rw [hw10]; exact below_put3 HB0.out GP.out _ _ _
       have HS10 := Aside0.mk (HS.out.later hb10)
       have HO10 := Aside0.mk (HO.out.later hb10)
       have NPW := Aside0.mk (show Kd.S k46 46 w10 w.heap.size (fun k_ => okN w gO gU gv (.slice AF l0.length cF) k_ ∧ k_ ≠ gp) vP out from Kd.S_mono (Kd.S_below (Kd.S_bound HO.out.parties) hb10) (fun k_ hk => ⟨hk.1, fun e => by have := GP.out; have := hk.2.2.1; omega⟩))
       have GPL := Aside0.mk (show gO < gp ∧ gU < gp ∧ w.heap.size ≤ gp ∧ (∀ k, vP.ownBlock = some k → k < gp) from ⟨by have := blk_lt HS.out.res; have := GP.out; omega, by have := blk_lt HO.out.box; have := GP.out; omega, by have := below_size HS.out.below; have := GP.out; omega, fun k hk => by have := Kd.S_lt HO.out.parties k hk; have := GP.out; omega⟩)
       clear hw10 hb10 BP HB0 hcp0 hcp1 hcp2 hfp0 hfp1 hfp2 hx0 hx1 hx2 HS HO
       have hcp0 : w10.cell? ⟨gp, 0, none⟩ = some (.int .i64 p.f0) := (blk_cell BP10.out 0).trans rfl
       have HCN := Aside0.mk (contains_f l2 p.f0 (by have := HF3.out; omega))
       cases hc : l2.contains p.f0 with
       | true =>
        rw [hc] at HCN
        have HN1 := Aside0.mk (show nxM M l2 l9 (n + 1) = some (out, V) by rw [HXN.out]; unfold nxS; rw [if_pos hc])
        clear hc
        go_wp2_with (first | (go_at_call 39; (with_reducible refine (slices_Contains_int_int.calls (l2.length + 1) A2 c2 l2 p.f0 _ _ (Kd.C_below HR2.out HS10.out.below) HC2.out HCN.out).mono ?_); rintro e w11 ⟨rfl, hd_⟩; have hb_ := hd_.below; have HS11 := Aside0.mk (HS10.out.later hb_); have HO11 := Aside0.mk (HO10.out.later hb_); have BP11 := Aside0.mk (blk_below BP10.out hb_); replace hcp0 := (hb_.cell (World.block_lt_of_cell? _ _ hcp0)).trans hcp0; clear hb_ hd_))
        go_roundg (gk - 1)
        case measure => have := HK.out; have := HLT.out; omega
        case rel =>
         refine ⟨n + 1, vP, out, V, ?_, ⟨by have := HK.out; have := HLT.out; omega⟩, HN1, HS11, HO11⟩
         ·have := HI2.out
          first | (rw [show ((n + 1 : Nat) : Int) = i + 1 from by omega]; done) | (simp; omega)
       | false =>
        rw [hc] at HCN
        have HXN2 := Aside0.mk (show nxM M l2 l9 (n + 1) = if (M p.f0).getD p.f1 ≠ 0 ∧ (V ((M p.f0).getD p.f1)).getD false = true then none else some (out ++ [⟨p.f0, (M p.f0).getD p.f1, p.f2⟩], upd V ((M p.f0).getD p.f1) true) by rw [HXN.out]; unfold nxS; rw [if_neg (by rw [hc]; decide)])
        clear hc
        have hcp1 : w10.cell? ⟨gp, 1, none⟩ = some (.int .i64 p.f1) := (blk_cell BP10.out 1).trans rfl
        have NP10 := Aside0.mk (show Kd.S k46 46 w10 w.heap.size (fun k_ => okN w gO gU gv (.slice AF l0.length cF) k_ ∧ k_ ≠ gp) vP out from NPW.out)
        obtain ⟨f, hf⟩ : ∃ f, f = (M p.f0).getD p.f1 := ⟨_, rfl⟩
        rw [← hf] at HXN2
        cases hm : M p.f0 with
        | some f' =>
         have e : f' = f := by rw [hf, hm]; rfl
         subst e
         have HM1 := Aside0.mk hm
         clear hm hf
         go_upto_region 29 with (first | (go_at_call 39; (with_reducible refine (slices_Contains_int_int.calls (l2.length + 1) A2 c2 l2 p.f0 _ _ (Kd.C_below HR2.out HS10.out.below) HC2.out HCN.out).mono ?_); rintro e w11 ⟨rfl, hd_⟩; have hb_ := hd_.below; have HS11 := Aside0.mk (HS10.out.later hb_); have HO11 := Aside0.mk (HO10.out.later hb_); have BP11 := Aside0.mk (blk_below BP10.out hb_); replace hcp0 := (hb_.cell (World.block_lt_of_cell? _ _ hcp0)).trans hcp0; replace hcp1 := (hb_.cell (World.block_lt_of_cell? _ _ hcp1)).trans hcp1; have hfp1 := blk_frozen BP11.out 1; have NP11 := Aside0.mk (Kd.S_below NP10.out hb_); clear hb_ hd_) | ((with_reducible refine gate_ (op := .lookup 65 (.tmp 109) (.tmp 111) true) rfl ?_); refine wpList_lookI _ rfl (.tmp 109) (.tmp 111) 65 true rfl 3 3 Try.underlying65 Try.underlying3 (Try.zeroValue3 _) gt (mapV vInt M) rfl HS11.out.too p.f0 rfl ?_; rw [if_pos rfl, show (Value.int IntKind.i64 0) = vInt 0 from rfl, mapV_get, mapV_some, HM1.out]; dsimp only [vInt, Option.getD_some, Option.isSome_some, Option.getD_none, Option.isSome_none]))
         have hq := HO11.out.put BP11.out (show gU ≠ gp from by have := GPL.out; omega) NP11.out 1 (.int .i64 f')
         obtain ⟨w12, hw12⟩ : ∃ w12, w12 = w11.setCell ⟨gp, 1, none⟩ (.int .i64 f') := ⟨_, rfl⟩
         rw [← hw12]
         rw [← hw12] at hq
         have HO12 := Aside0.mk hq.1
         have NP12 := Aside0.mk hq.2
         have BP12 := Aside0.mk (show w12.heap[gp]? = some (.cells #[.int .i64 p.f0, .int .i64 f', .slice Ap p.f2.length cp] 46 (0, 0)) by rw [hw12]; exact blk_put BP11.out 1 _ rfl)
         have HS12 := Aside0.mk (show NS w w12 gO gT g1 g2 g3 gt H K T M by rw [hw12]; exact HS11.out.put BP11.out (show gO ≠ gp from by have := GPL.out; omega) (by decide) GPL.out.2.2.1 1 _)
         clear hw12 hq hcp0 hcp1 hfp1 HS11 HO11 NP11 BP11
         obtain ⟨f, hf⟩ : ∃ f, f = f' := ⟨_, rfl⟩
         subst hf
         have hcp1 : w12.cell? ⟨gp, 1, none⟩ = some (.int .i64 f) := (blk_cell BP12.out 1).trans rfl
         by_cases hz : f = 0
         ·have z1 : (f == 0) = true := beq_iff_eq.2 hz
          have z2 : (f != 0) = false := by rw [bne_eq_false_iff_eq]; exact hz
          have HN1 := Aside0.mk (show nxM M l2 l9 (n + 1) = some (out ++ [⟨p.f0, f, p.f2⟩], upd V f true) by rw [HXN2.out, if_neg (fun h => h.1 hz)])
          clear hz
          go_upto_region 32 with (first | ((with_reducible refine gate_ (op := .mapUpdate 66 (.tmp 128) (.tmp 130) (.const (.bool true))) rfl ?_); refine wpList_storeI _ rfl (.tmp 128) (.tmp 130) (.const (.bool true)) 66 rfl 3 4 Try.underlying66 Try.underlying3 gv (mapV vBool V) rfl HO12.out.taken f rfl (.bool true) rfl ?_; intro w13 hm_ hg_; have HS13 := Aside0.mk (HS12.out.far HO12.out.taken HNV.out.1 HNV.out.2.1 HNV.out.2.2.1 HNV.out.2.2.2.1 HNV.out.2.2.2.2 hg_); have BP13 := Aside0.mk (blk_grown BP12.out hg_ (HO12.out.taken.ne_blk BP12.out)); have NP13 := Aside0.mk (Kd.S_grown NP12.out hg_ (fun k hk e_ => hk.1.2.2.2 (by cases e_; rfl))); have HO13 := Aside0.mk (show OS_ w w13 gO gU (.slice AF l0.length cF) vP gv l0 out (upd V f true) from ⟨blk_grown HO12.out.box hg_ (HO12.out.taken.ne_blk HO12.out.box), R_map HO12.out.flats HO12.out.taken hg_, Kd.S_mono NP13.out (fun _ hk => hk.1), hm_.eq (mapV_set vBool V f true)⟩); clear hm_ hg_))
          clear hcp1
          have hcp2 : w13.cell? ⟨gp, 2, none⟩ = some (.slice Ap p.f2.length cp) := (blk_cell BP13.out 2).trans rfl
          have hfp2 := blk_frozen BP13.out 2
          have HOK := Aside0.mk (show ∀ k, w13.heap.size ≤ k → okN w gO gU gv (.slice AF l0.length cF) k ∧ some k ≠ vP.ownBlock from fun k hk => by
           have a1 := blk_lt HS13.out.res
           have a2 := blk_lt HO13.out.box
           have a3 := HO13.out.taken.lt
           have a4 := below_size HS13.out.below
           exact ⟨⟨⟨by omega, fun e => by have := Kd.R_lt HO13.out.flats k e.symm; omega⟩, by omega, by omega, by omega⟩, fun e => by have := Kd.S_lt HO13.out.parties k e.symm; omega⟩)
          have NB13 := Aside0.mk (show Kd.S k46 46 w13 w.heap.size (fun k_ => (okN w gO gU gv (.slice AF l0.length cF) k_ ∧ k_ ≠ gp) ∧ k_ < w13.heap.size) vP out from Kd.S_mono (Kd.S_bound NP13.out) (fun k hk => ⟨hk.1, hk.2.2.1⟩))
          have HZ13 := Aside0.mk (below_size HS13.out.below)
          go_upto_region 33 with (first | (go_at_call 40; (with_reducible refine (slices_Clone_ints.calls Ap cp p.f2 p.f2 _ (Kd.C_below HPC.out.2 HS13.out.below) HPC.out.1 (by unfold slices_Clone_ints.f; rw [if_pos (by have := HPL.out; omega)])).mono ?_); rintro e w14 ⟨vW, rfl, hR_, hb_⟩; have HS14 := Aside0.mk (HS13.out.later hb_); have HO14 := Aside0.mk (HO13.out.later hb_); have NP14 := Aside0.mk (Kd.S_below NP13.out hb_); have NB14 := Aside0.mk (Kd.S_below NB13.out hb_); have BP14 := Aside0.mk (blk_below BP13.out hb_); have RW14 := Aside0.mk hR_; obtain ⟨AW, cW, eW⟩ := Kd.R_slice hR_; subst eW; have hB14 := Aside0.mk (below_size hb_); replace hcp2 := (hb_.cell (World.block_lt_of_cell? _ _ hcp2)).trans hcp2; replace hfp2 := blk_frozen BP14.out 2; clear hb_ hR_))
          have hq := HO14.out.put BP14.out (show gU ≠ gp from by have := GPL.out; omega) NP14.out 2 (.slice AW p.f2.length cW)
          obtain ⟨w15, hw15⟩ : ∃ w15, w15 = w14.setCell ⟨gp, 2, none⟩ (.slice AW p.f2.length cW) := ⟨_, rfl⟩
          rw [← hw15]
          rw [← hw15] at hq
          have HO15 := Aside0.mk hq.1
          have NB15 := Aside0.mk (show Kd.S k46 46 w15 w.heap.size (fun k_ => (okN w gO gU gv (.slice AF l0.length cF) k_ ∧ k_ ≠ gp) ∧ k_ < w13.heap.size) vP out by rw [hw15]; exact Kd.S_far NB14.out (p := ⟨gp, 2, none⟩) (fun k hk => hk.1.2) _)
          have BP15 := Aside0.mk (show w15.heap[gp]? = some (.cells #[.int .i64 p.f0, .int .i64 f, .slice AW p.f2.length cW] 46 (0, 0)) by rw [hw15]; exact blk_put BP14.out 2 _ rfl)
          have HS15 := Aside0.mk (show NS w w15 gO gT g1 g2 g3 gt H K T M by rw [hw15]; exact HS14.out.put BP14.out (show gO ≠ gp from by have := GPL.out; omega) (by decide) GPL.out.2.2.1 2 _)
          have RW15 := Aside0.mk (show Kd.R (Kd.int .i64) 3 w15 w13.heap.size (fun k_ => w13.heap.size ≤ k_) (.slice AW p.f2.length cW) p.f2 by rw [hw15]; exact Kd.R_set RW14.out BP14.out (by decide) _ _)
          have HZ15 := Aside0.mk (show w13.heap.size ≤ w15.heap.size by rw [hw15]; have := hB14.out; first | (simp; omega) | (rw [World.size_setCell]; exact this))
          clear hw15 hq hcp2 hfp2 HS14 HO14 NP14 NB13 NB14 BP14 RW14 hB14
          obtain ⟨AP, cP, eP⟩ := Kd.S_slice HO15.out.parties
          subst eP
          have hcp0 : w15.cell? ⟨gp, 0, none⟩ = some (.int .i64 p.f0) := (blk_cell BP15.out 0).trans rfl
          have hcp1 : w15.cell? ⟨gp, 1, none⟩ = some (.int .i64 f) := (blk_cell BP15.out 1).trans rfl
          have hcp2 : w15.cell? ⟨gp, 2, none⟩ = some (.slice AW p.f2.length cW) := (blk_cell BP15.out 2).trans rfl
          have hcU1 : w15.cell? ⟨gU, 1, none⟩ = some (.slice AP out.length cP) := (blk_cell HO15.out.box 1).trans rfl
          go_wp2_with (first | ((with_reducible refine gate_builtin (b := .append) (xs := #[.tmp 136, .tmp 138]) rfl ?_); at_builtin; refine Kd.S_append k46 (w0 := w) w.heap.size rfl (.tmp 136) (.tmp 138) 23 46 (.agg #[(.int .i64 0), (.int .i64 0), (.slice none 0 0)]) 40 rfl Try.underlying23 info46 rfl (by decide) (by omega) (.slice AP out.length cP) out (⟨p.f0, f, p.f2⟩ : S46) [.int .i64 p.f0, .int .i64 f, .slice AW p.f2.length cW] (okN w gO gU gv (.slice AF l0.length cF)) (fun k_ => w13.heap.size ≤ k_) rfl rfl (k46_mkM _ _ _ (⟨p.f0, f, p.f2⟩ : S46) (Kd.R_lower RW15.out HZ13.out)) HOK.out (fun k hk => (HOK.out k (Nat.le_trans HZ15.out hk)).1) (Kd.S_mono NB15.out (fun k hk => ⟨hk.1.1, Nat.not_le.2 hk.2⟩)) HS15.out.below (below_size HS15.out.below) (by have := HOL.out; have := HLT.out; have := HFA.out.2.1; omega) ?_; intro v17 w17 ho hb hg hat; have BU17 := Aside0.mk (blk_grown HO15.out.box hg (Kd.R_ne (Kd.S_R HO15.out.parties) HO15.out.box (by decide))); have RF17 := Aside0.mk (Kd.R_over' HO15.out.flats (Kd.S_typed HO15.out.parties) (by decide) hg); have HV17 := Aside0.mk (HO15.out.taken.kept hg (map_row HO15.out.taken (Kd.S_typed HO15.out.parties))); have HS17 := Aside0.mk (HS15.out.row (Kd.S_typed HO15.out.parties) (Kd.S_base HO15.out.parties) hg); have NP17 := Aside0.mk ho; obtain ⟨A17, c17, e17⟩ := Kd.S_slice ho; rw [List.length_append, List.length_singleton] at e17; subst e17; replace hcU1 := (blk_cell BU17.out 1).trans rfl; have hfU1 := blk_frozen BU17.out 1; clear ho hb hg hat))
          go_roundg (gk - 1)
          case measure => have := HK.out; have := HLT.out; omega
          case rel =>
           refine ⟨n + 1, _, _, _, ?_, ⟨by have := HK.out; have := HLT.out; omega⟩, HN1, ⟨HS17.out.put BU17.out NOU.out (by decide) GU.out 1 _⟩, ⟨⟨blk_put BU17.out 1 _ rfl, Kd.R_set RF17.out BU17.out (by decide) _ _, Kd.S_far NP17.out (p := ⟨gU, 1, none⟩) (fun k hk => hk.2.2.1) _, HV17.out.move (Below.heap_setCell _ _ _ _ (fun e => HV17.out.ne_blk BU17.out (by rw [e])))⟩⟩⟩
           ·have := HI2.out
            first | (rw [show ((n + 1 : Nat) : Int) = i + 1 from by omega]; done) | (simp; omega)
         have z1 : (f == 0) = false := beq_eq_false_iff_ne.2 hz
         have z2 : (f != 0) = true := bne_iff_ne.2 hz
         cases hv : (V f).getD false with
         | true =>
          have HE := Aside0.mk (show r = ([], [], 22) by
           have h0 : nxM M l2 l9 (n + 1) = none := by rw [HXN2.out, if_pos ⟨hz, hv⟩]
           have h1 := nxM_none h0 (l9.length - (n + 1))
           rw [show n + 1 + (l9.length - (n + 1)) = l9.length by have := HLT.out; omega] at h1
           rw [HRR4.out, h1]
           rfl)
          have HV1 := Aside0.mk hv
          have hcO0 : w12.cell? ⟨gO, 0, none⟩ = some (.slice none 0 0) := (blk_cell HS12.out.res 0).trans rfl
          have hcO1 : w12.cell? ⟨gO, 1, none⟩ = some (.slice none 0 0) := (blk_cell HS12.out.res 1).trans rfl
          have hfO0 := blk_frozen HS12.out.res 0
          have hfO1 := blk_frozen HS12.out.res 1
          clear hz hv
          go_wp2_with (first | ((with_reducible refine gate_ (op := .lookup 66 (.tmp 122) (.tmp 124) false) rfl ?_); (try (refine gate_guard (by rfl) ?_; dsimp only)); refine wpList_lookI _ rfl (.tmp 122) (.tmp 124) 66 false rfl 3 4 Try.underlying66 Try.underlying3 (Try.zeroValue4 _) gv (mapV vBool V) rfl HO12.out.taken f rfl ?_; rw [if_neg (by decide), show (Value.bool false) = vBool false from rfl, mapV_get, HV1.out]; dsimp only [vBool]))
          refine bodyPost_ret (results_ct rfl _ _ gO 25 #[.slice none 0 0, .slice none 0 0] (0, 0) _ rfl (blk_put2 HS12.out.res _ _) Try.underlying25 rfl (by kernel_rfl)) rfl ?_
          rw [HE.out]
          exact ⟨_, _, rfl, Kd.R_nil _ _ _ _ _, Kd.S_nil _ _ _ _ _, below_put2 HS12.out.below GO.out _ _⟩
         | false =>
          have HV1 := Aside0.mk hv
          have HN1 := Aside0.mk (show nxM M l2 l9 (n + 1) = some (out ++ [⟨p.f0, f, p.f2⟩], upd V f true) by rw [HXN2.out, if_neg (fun h => by have := h.2; rw [hv] at this; cases this)])
          clear hz hv
          go_upto_region 32 with (first | ((with_reducible refine gate_ (op := .lookup 66 (.tmp 122) (.tmp 124) false) rfl ?_); (try (refine gate_guard (by rfl) ?_; dsimp only)); refine wpList_lookI _ rfl (.tmp 122) (.tmp 124) 66 false rfl 3 4 Try.underlying66 Try.underlying3 (Try.zeroValue4 _) gv (mapV vBool V) rfl HO12.out.taken f rfl ?_; rw [if_neg (by decide), show (Value.bool false) = vBool false from rfl, mapV_get, HV1.out]; dsimp only [vBool]) | ((with_reducible refine gate_ (op := .mapUpdate 66 (.tmp 128) (.tmp 130) (.const (.bool true))) rfl ?_); refine wpList_storeI _ rfl (.tmp 128) (.tmp 130) (.const (.bool true)) 66 rfl 3 4 Try.underlying66 Try.underlying3 gv (mapV vBool V) rfl HO12.out.taken f rfl (.bool true) rfl ?_; intro w13 hm_ hg_; have HS13 := Aside0.mk (HS12.out.far HO12.out.taken HNV.out.1 HNV.out.2.1 HNV.out.2.2.1 HNV.out.2.2.2.1 HNV.out.2.2.2.2 hg_); have BP13 := Aside0.mk (blk_grown BP12.out hg_ (HO12.out.taken.ne_blk BP12.out)); have NP13 := Aside0.mk (Kd.S_grown NP12.out hg_ (fun k hk e_ => hk.1.2.2.2 (by cases e_; rfl))); have HO13 := Aside0.mk (show OS_ w w13 gO gU (.slice AF l0.length cF) vP gv l0 out (upd V f true) from ⟨blk_grown HO12.out.box hg_ (HO12.out.taken.ne_blk HO12.out.box), R_map HO12.out.flats HO12.out.taken hg_, Kd.S_mono NP13.out (fun _ hk => hk.1), hm_.eq (mapV_set vBool V f true)⟩); clear hm_ hg_))
          clear hcp1
          have hcp2 : w13.cell? ⟨gp, 2, none⟩ = some (.slice Ap p.f2.length cp) := (blk_cell BP13.out 2).trans rfl
          have hfp2 := blk_frozen BP13.out 2
          have HOK := Aside0.mk (show ∀ k, w13.heap.size ≤ k → okN w gO gU gv (.slice AF l0.length cF) k ∧ some k ≠ vP.ownBlock from fun k hk => by
           have a1 := blk_lt HS13.out.res
           have a2 := blk_lt HO13.out.box
           have a3 := HO13.out.taken.lt
           have a4 := below_size HS13.out.below
           exact ⟨⟨⟨by omega, fun e => by have := Kd.R_lt HO13.out.flats k e.symm; omega⟩, by omega, by omega, by omega⟩, fun e => by have := Kd.S_lt HO13.out.parties k e.symm; omega⟩)
          have NB13 := Aside0.mk (show Kd.S k46 46 w13 w.heap.size (fun k_ => (okN w gO gU gv (.slice AF l0.length cF) k_ ∧ k_ ≠ gp) ∧ k_ < w13.heap.size) vP out from Kd.S_mono (Kd.S_bound NP13.out) (fun k hk => ⟨hk.1, hk.2.2.1⟩))
          have HZ13 := Aside0.mk (below_size HS13.out.below)
          go_upto_region 33 with (first | (go_at_call 40; (with_reducible refine (slices_Clone_ints.calls Ap cp p.f2 p.f2 _ (Kd.C_below HPC.out.2 HS13.out.below) HPC.out.1 (by unfold slices_Clone_ints.f; rw [if_pos (by have := HPL.out; omega)])).mono ?_); rintro e w14 ⟨vW, rfl, hR_, hb_⟩; have HS14 := Aside0.mk (HS13.out.later hb_); have HO14 := Aside0.mk (HO13.out.later hb_); have NP14 := Aside0.mk (Kd.S_below NP13.out hb_); have NB14 := Aside0.mk (Kd.S_below NB13.out hb_); have BP14 := Aside0.mk (blk_below BP13.out hb_); have RW14 := Aside0.mk hR_; obtain ⟨AW, cW, eW⟩ := Kd.R_slice hR_; subst eW; have hB14 := Aside0.mk (below_size hb_); replace hcp2 := (hb_.cell (World.block_lt_of_cell? _ _ hcp2)).trans hcp2; replace hfp2 := blk_frozen BP14.out 2; clear hb_ hR_))
          have hq := HO14.out.put BP14.out (show gU ≠ gp from by have := GPL.out; omega) NP14.out 2 (.slice AW p.f2.length cW)
          obtain ⟨w15, hw15⟩ : ∃ w15, w15 = w14.setCell ⟨gp, 2, none⟩ (.slice AW p.f2.length cW) := ⟨_, rfl⟩
          rw [← hw15]
          rw [← hw15] at hq
          have HO15 := Aside0.mk hq.1
          have NB15 := Aside0.mk (show Kd.S k46 46 w15 w.heap.size (fun k_ => (okN w gO gU gv (.slice AF l0.length cF) k_ ∧ k_ ≠ gp) ∧ k_ < w13.heap.size) vP out by rw [hw15]; exact Kd.S_far NB14.out (p := ⟨gp, 2, none⟩) (fun k hk => hk.1.2) _)
          have BP15 := Aside0.mk (show w15.heap[gp]? = some (.cells #[.int .i64 p.f0, .int .i64 f, .slice AW p.f2.length cW] 46 (0, 0)) by rw [hw15]; exact blk_put BP14.out 2 _ rfl)
          have HS15 := Aside0.mk (show NS w w15 gO gT g1 g2 g3 gt H K T M by rw [hw15]; exact HS14.out.put BP14.out (show gO ≠ gp from by have := GPL.out; omega) (by decide) GPL.out.2.2.1 2 _)
          have RW15 := Aside0.mk (show Kd.R (Kd.int .i64) 3 w15 w13.heap.size (fun k_ => w13.heap.size ≤ k_) (.slice AW p.f2.length cW) p.f2 by rw [hw15]; exact Kd.R_set RW14.out BP14.out (by decide) _ _)
          have HZ15 := Aside0.mk (show w13.heap.size ≤ w15.heap.size by rw [hw15]; have := hB14.out; first | (simp; omega) | (rw [World.size_setCell]; exact this))
          clear hw15 hq hcp2 hfp2 HS14 HO14 NP14 NB13 NB14 BP14 RW14 hB14
          obtain ⟨AP, cP, eP⟩ := Kd.S_slice HO15.out.parties
          subst eP
          have hcp0 : w15.cell? ⟨gp, 0, none⟩ = some (.int .i64 p.f0) := (blk_cell BP15.out 0).trans rfl
          have hcp1 : w15.cell? ⟨gp, 1, none⟩ = some (.int .i64 f) := (blk_cell BP15.out 1).trans rfl
          have hcp2 : w15.cell? ⟨gp, 2, none⟩ = some (.slice AW p.f2.length cW) := (blk_cell BP15.out 2).trans rfl
          have hcU1 : w15.cell? ⟨gU, 1, none⟩ = some (.slice AP out.length cP) := (blk_cell HO15.out.box 1).trans rfl
          go_wp2_with (first | ((with_reducible refine gate_builtin (b := .append) (xs := #[.tmp 136, .tmp 138]) rfl ?_); at_builtin; refine Kd.S_append k46 (w0 := w) w.heap.size rfl (.tmp 136) (.tmp 138) 23 46 (.agg #[(.int .i64 0), (.int .i64 0), (.slice none 0 0)]) 40 rfl Try.underlying23 info46 rfl (by decide) (by omega) (.slice AP out.length cP) out (⟨p.f0, f, p.f2⟩ : S46) [.int .i64 p.f0, .int .i64 f, .slice AW p.f2.length cW] (okN w gO gU gv (.slice AF l0.length cF)) (fun k_ => w13.heap.size ≤ k_) rfl rfl (k46_mkM _ _ _ (⟨p.f0, f, p.f2⟩ : S46) (Kd.R_lower RW15.out HZ13.out)) HOK.out (fun k hk => (HOK.out k (Nat.le_trans HZ15.out hk)).1) (Kd.S_mono NB15.out (fun k hk => ⟨hk.1.1, Nat.not_le.2 hk.2⟩)) HS15.out.below (below_size HS15.out.below) (by have := HOL.out; have := HLT.out; have := HFA.out.2.1; omega) ?_; intro v17 w17 ho hb hg hat; have BU17 := Aside0.mk (blk_grown HO15.out.box hg (Kd.R_ne (Kd.S_R HO15.out.parties) HO15.out.box (by decide))); have RF17 := Aside0.mk (Kd.R_over' HO15.out.flats (Kd.S_typed HO15.out.parties) (by decide) hg); have HV17 := Aside0.mk (HO15.out.taken.kept hg (map_row HO15.out.taken (Kd.S_typed HO15.out.parties))); have HS17 := Aside0.mk (HS15.out.row (Kd.S_typed HO15.out.parties) (Kd.S_base HO15.out.parties) hg); have NP17 := Aside0.mk ho; obtain ⟨A17, c17, e17⟩ := Kd.S_slice ho; rw [List.length_append, List.length_singleton] at e17; subst e17; replace hcU1 := (blk_cell BU17.out 1).trans rfl; have hfU1 := blk_frozen BU17.out 1; clear ho hb hg hat))
          go_roundg (gk - 1)
          case measure => have := HK.out; have := HLT.out; omega
          case rel =>
           refine ⟨n + 1, _, _, _, ?_, ⟨by have := HK.out; have := HLT.out; omega⟩, HN1, ⟨HS17.out.put BU17.out NOU.out (by decide) GU.out 1 _⟩, ⟨⟨blk_put BU17.out 1 _ rfl, Kd.R_set RF17.out BU17.out (by decide) _ _, Kd.S_far NP17.out (p := ⟨gU, 1, none⟩) (fun k hk => hk.2.2.1) _, HV17.out.move (Below.heap_setCell _ _ _ _ (fun e => HV17.out.ne_blk BU17.out (by rw [e])))⟩⟩⟩
           ·have := HI2.out
            first | (rw [show ((n + 1 : Nat) : Int) = i + 1 from by omega]; done) | (simp; omega)
        | none =>
         have e : p.f1 = f := by rw [hf, hm]; rfl
         have HM1 := Aside0.mk hm
         have HFE := Aside0.mk e
         clear hm hf
         go_upto_region 29 with (first | (go_at_call 39; (with_reducible refine (slices_Contains_int_int.calls (l2.length + 1) A2 c2 l2 p.f0 _ _ (Kd.C_below HR2.out HS10.out.below) HC2.out HCN.out).mono ?_); rintro e w11 ⟨rfl, hd_⟩; have hb_ := hd_.below; have HS11 := Aside0.mk (HS10.out.later hb_); have HO11 := Aside0.mk (HO10.out.later hb_); have BP11 := Aside0.mk (blk_below BP10.out hb_); replace hcp0 := (hb_.cell (World.block_lt_of_cell? _ _ hcp0)).trans hcp0; replace hcp1 := (hb_.cell (World.block_lt_of_cell? _ _ hcp1)).trans hcp1; have hfp1 := blk_frozen BP11.out 1; have NP11 := Aside0.mk (Kd.S_below NP10.out hb_); clear hb_ hd_) | ((with_reducible refine gate_ (op := .lookup 65 (.tmp 109) (.tmp 111) true) rfl ?_); refine wpList_lookI _ rfl (.tmp 109) (.tmp 111) 65 true rfl 3 3 Try.underlying65 Try.underlying3 (Try.zeroValue3 _) gt (mapV vInt M) rfl HS11.out.too p.f0 rfl ?_; rw [if_pos rfl, show (Value.int IntKind.i64 0) = vInt 0 from rfl, mapV_get, mapV_some, HM1.out]; dsimp only [vInt, Option.getD_some, Option.isSome_some, Option.getD_none, Option.isSome_none]))
         obtain ⟨w12, hw12⟩ : ∃ w12, w12 = w11 := ⟨_, rfl⟩
         rw [← hw12] at HS11 HO11 NP11 BP11 ⊢
         have HS12 := HS11
         have HO12 := HO11
         have NP12 := NP11
         have BP12 := BP11
         rw [e] at BP12
         clear hw12 hcp0 hcp1 hfp1 e HS11 HO11 NP11 BP11
         have hcp1 : w12.cell? ⟨gp, 1, none⟩ = some (.int .i64 f) := (blk_cell BP12.out 1).trans rfl
         by_cases hz : f = 0
         ·have z1 : (f == 0) = true := beq_iff_eq.2 hz
          have z2 : (f != 0) = false := by rw [bne_eq_false_iff_eq]; exact hz
          have HN1 := Aside0.mk (show nxM M l2 l9 (n + 1) = some (out ++ [⟨p.f0, f, p.f2⟩], upd V f true) by rw [HXN2.out, if_neg (fun h => h.1 hz)])
          clear hz
          go_upto_region 32 with (first | ((with_reducible refine gate_ (op := .mapUpdate 66 (.tmp 128) (.tmp 130) (.const (.bool true))) rfl ?_); refine wpList_storeI _ rfl (.tmp 128) (.tmp 130) (.const (.bool true)) 66 rfl 3 4 Try.underlying66 Try.underlying3 gv (mapV vBool V) rfl HO12.out.taken f rfl (.bool true) rfl ?_; intro w13 hm_ hg_; have HS13 := Aside0.mk (HS12.out.far HO12.out.taken HNV.out.1 HNV.out.2.1 HNV.out.2.2.1 HNV.out.2.2.2.1 HNV.out.2.2.2.2 hg_); have BP13 := Aside0.mk (blk_grown BP12.out hg_ (HO12.out.taken.ne_blk BP12.out)); have NP13 := Aside0.mk (Kd.S_grown NP12.out hg_ (fun k hk e_ => hk.1.2.2.2 (by cases e_; rfl))); have HO13 := Aside0.mk (show OS_ w w13 gO gU (.slice AF l0.length cF) vP gv l0 out (upd V f true) from ⟨blk_grown HO12.out.box hg_ (HO12.out.taken.ne_blk HO12.out.box), R_map HO12.out.flats HO12.out.taken hg_, Kd.S_mono NP13.out (fun _ hk => hk.1), hm_.eq (mapV_set vBool V f true)⟩); clear hm_ hg_))
          clear hcp1
          have hcp2 : w13.cell? ⟨gp, 2, none⟩ = some (.slice Ap p.f2.length cp) := (blk_cell BP13.out 2).trans rfl
          have hfp2 := blk_frozen BP13.out 2
          have HOK := Aside0.mk (show ∀ k, w13.heap.size ≤ k → okN w gO gU gv (.slice AF l0.length cF) k ∧ some k ≠ vP.ownBlock from fun k hk => by
           have a1 := blk_lt HS13.out.res
           have a2 := blk_lt HO13.out.box
           have a3 := HO13.out.taken.lt
           have a4 := below_size HS13.out.below
           exact ⟨⟨⟨by omega, fun e => by have := Kd.R_lt HO13.out.flats k e.symm; omega⟩, by omega, by omega, by omega⟩, fun e => by have := Kd.S_lt HO13.out.parties k e.symm; omega⟩)
          have NB13 := Aside0.mk (show Kd.S k46 46 w13 w.heap.size (fun k_ => (okN w gO gU gv (.slice AF l0.length cF) k_ ∧ k_ ≠ gp) ∧ k_ < w13.heap.size) vP out from Kd.S_mono (Kd.S_bound NP13.out) (fun k hk => ⟨hk.1, hk.2.2.1⟩))
          have HZ13 := Aside0.mk (below_size HS13.out.below)
          go_upto_region 33 with (first | (go_at_call 40; (with_reducible refine (slices_Clone_ints.calls Ap cp p.f2 p.f2 _ (Kd.C_below HPC.out.2 HS13.out.below) HPC.out.1 (by unfold slices_Clone_ints.f; rw [if_pos (by have := HPL.out; omega)])).mono ?_); rintro e w14 ⟨vW, rfl, hR_, hb_⟩; have HS14 := Aside0.mk (HS13.out.later hb_); have HO14 := Aside0.mk (HO13.out.later hb_); have NP14 := Aside0.mk (Kd.S_below NP13.out hb_); have NB14 := Aside0.mk (Kd.S_below NB13.out hb_); have BP14 := Aside0.mk (blk_below BP13.out hb_); have RW14 := Aside0.mk hR_; obtain ⟨AW, cW, eW⟩ := Kd.R_slice hR_; subst eW; have hB14 := Aside0.mk (below_size hb_); replace hcp2 := (hb_.cell (World.block_lt_of_cell? _ _ hcp2)).trans hcp2; replace hfp2 := blk_frozen BP14.out 2; clear hb_ hR_))
          have hq := HO14.out.put BP14.out (show gU ≠ gp from by have := GPL.out; omega) NP14.out 2 (.slice AW p.f2.length cW)
          obtain ⟨w15, hw15⟩ : ∃ w15, w15 = w14.setCell ⟨gp, 2, none⟩ (.slice AW p.f2.length cW) := ⟨_, rfl⟩
          rw [← hw15]
          rw [← hw15] at hq
          have HO15 := Aside0.mk hq.1
          have NB15 := Aside0.mk (show Kd.S k46 46 w15 w.heap.size (fun k_ => (okN w gO gU gv (.slice AF l0.length cF) k_ ∧ k_ ≠ gp) ∧ k_ < w13.heap.size) vP out by rw [hw15]; exact Kd.S_far NB14.out (p := ⟨gp, 2, none⟩) (fun k hk => hk.1.2) _)
          have BP15 := Aside0.mk (show w15.heap[gp]? = some (.cells #[.int .i64 p.f0, .int .i64 f, .slice AW p.f2.length cW] 46 (0, 0)) by rw [hw15]; exact blk_put BP14.out 2 _ rfl)
          have HS15 := Aside0.mk (show NS w w15 gO gT g1 g2 g3 gt H K T M by rw [hw15]; exact HS14.out.put BP14.out (show gO ≠ gp from by have := GPL.out; omega) (by decide) GPL.out.2.2.1 2 _)
          have RW15 := Aside0.mk (show Kd.R (Kd.int .i64) 3 w15 w13.heap.size (fun k_ => w13.heap.size ≤ k_) (.slice AW p.f2.length cW) p.f2 by rw [hw15]; exact Kd.R_set RW14.out BP14.out (by decide) _ _)
          have HZ15 := Aside0.mk (show w13.heap.size ≤ w15.heap.size by rw [hw15]; have := hB14.out; first | (simp; omega) | (rw [World.size_setCell]; exact this))
          clear hw15 hq hcp2 hfp2 HS14 HO14 NP14 NB13 NB14 BP14 RW14 hB14
          obtain ⟨AP, cP, eP⟩ := Kd.S_slice HO15.out.parties
          subst eP
          have hcp0 : w15.cell? ⟨gp, 0, none⟩ = some (.int .i64 p.f0) := (blk_cell BP15.out 0).trans rfl
          have hcp1 : w15.cell? ⟨gp, 1, none⟩ = some (.int .i64 f) := (blk_cell BP15.out 1).trans rfl
          have hcp2 : w15.cell? ⟨gp, 2, none⟩ = some (.slice AW p.f2.length cW) := (blk_cell BP15.out 2).trans rfl
          have hcU1 : w15.cell? ⟨gU, 1, none⟩ = some (.slice AP out.length cP) := (blk_cell HO15.out.box 1).trans rfl
          go_wp2_with (first | ((with_reducible refine gate_builtin (b := .append) (xs := #[.tmp 136, .tmp 138]) rfl ?_); at_builtin; refine Kd.S_append k46 (w0 := w) w.heap.size rfl (.tmp 136) (.tmp 138) 23 46 (.agg #[(.int .i64 0), (.int .i64 0), (.slice none 0 0)]) 40 rfl Try.underlying23 info46 rfl (by decide) (by omega) (.slice AP out.length cP) out (⟨p.f0, f, p.f2⟩ : S46) [.int .i64 p.f0, .int .i64 f, .slice AW p.f2.length cW] (okN w gO gU gv (.slice AF l0.length cF)) (fun k_ => w13.heap.size ≤ k_) rfl rfl (k46_mkM _ _ _ (⟨p.f0, f, p.f2⟩ : S46) (Kd.R_lower RW15.out HZ13.out)) HOK.out (fun k hk => (HOK.out k (Nat.le_trans HZ15.out hk)).1) (Kd.S_mono NB15.out (fun k hk => ⟨hk.1.1, Nat.not_le.2 hk.2⟩)) HS15.out.below (below_size HS15.out.below) (by have := HOL.out; have := HLT.out; have := HFA.out.2.1; omega) ?_; intro v17 w17 ho hb hg hat; have BU17 := Aside0.mk (blk_grown HO15.out.box hg (Kd.R_ne (Kd.S_R HO15.out.parties) HO15.out.box (by decide))); have RF17 := Aside0.mk (Kd.R_over' HO15.out.flats (Kd.S_typed HO15.out.parties) (by decide) hg); have HV17 := Aside0.mk (HO15.out.taken.kept hg (map_row HO15.out.taken (Kd.S_typed HO15.out.parties))); have HS17 := Aside0.mk (HS15.out.row (Kd.S_typed HO15.out.parties) (Kd.S_base HO15.out.parties) hg); have NP17 := Aside0.mk ho; obtain ⟨A17, c17, e17⟩ := Kd.S_slice ho; rw [List.length_append, List.length_singleton] at e17; subst e17; replace hcU1 := (blk_cell BU17.out 1).trans rfl; have hfU1 := blk_frozen BU17.out 1; clear ho hb hg hat))
          go_roundg (gk - 1)
          case measure => have := HK.out; have := HLT.out; omega
          case rel =>
           refine ⟨n + 1, _, _, _, ?_, ⟨by have := HK.out; have := HLT.out; omega⟩, HN1, ⟨HS17.out.put BU17.out NOU.out (by decide) GU.out 1 _⟩, ⟨⟨blk_put BU17.out 1 _ rfl, Kd.R_set RF17.out BU17.out (by decide) _ _, Kd.S_far NP17.out (p := ⟨gU, 1, none⟩) (fun k hk => hk.2.2.1) _, HV17.out.move (Below.heap_setCell _ _ _ _ (fun e => HV17.out.ne_blk BU17.out (by rw [e])))⟩⟩⟩
           ·have := HI2.out
            first | (rw [show ((n + 1 : Nat) : Int) = i + 1 from by omega]; done) | (simp; omega)
         have z1 : (f == 0) = false := beq_eq_false_iff_ne.2 hz
         have z2 : (f != 0) = true := bne_iff_ne.2 hz
         cases hv : (V f).getD false with
         | true =>
          have HE := Aside0.mk (show r = ([], [], 22) by
           have h0 : nxM M l2 l9 (n + 1) = none := by rw [HXN2.out, if_pos ⟨hz, hv⟩]
           have h1 := nxM_none h0 (l9.length - (n + 1))
           rw [show n + 1 + (l9.length - (n + 1)) = l9.length by have := HLT.out; omega] at h1
           rw [HRR4.out, h1]
           rfl)
          have HV1 := Aside0.mk hv
          have hcO0 : w12.cell? ⟨gO, 0, none⟩ = some (.slice none 0 0) := (blk_cell HS12.out.res 0).trans rfl
          have hcO1 : w12.cell? ⟨gO, 1, none⟩ = some (.slice none 0 0) := (blk_cell HS12.out.res 1).trans rfl
          have hfO0 := blk_frozen HS12.out.res 0
          have hfO1 := blk_frozen HS12.out.res 1
          clear hz hv
          go_wp2_with (first | ((with_reducible refine gate_ (op := .lookup 66 (.tmp 122) (.tmp 124) false) rfl ?_); (try (refine gate_guard (by rfl) ?_; dsimp only)); refine wpList_lookI _ rfl (.tmp 122) (.tmp 124) 66 false rfl 3 4 Try.underlying66 Try.underlying3 (Try.zeroValue4 _) gv (mapV vBool V) rfl HO12.out.taken f rfl ?_; rw [if_neg (by decide), show (Value.bool false) = vBool false from rfl, mapV_get, HV1.out]; dsimp only [vBool]))
          refine bodyPost_ret (results_ct rfl _ _ gO 25 #[.slice none 0 0, .slice none 0 0] (0, 0) _ rfl (blk_put2 HS12.out.res _ _) Try.underlying25 rfl (by kernel_rfl)) rfl ?_
          rw [HE.out]
          exact ⟨_, _, rfl, Kd.R_nil _ _ _ _ _, Kd.S_nil _ _ _ _ _, below_put2 HS12.out.below GO.out _ _⟩
         | false =>
          have HV1 := Aside0.mk hv
          have HN1 := Aside0.mk (show nxM M l2 l9 (n + 1) = some (out ++ [⟨p.f0, f, p.f2⟩], upd V f true) by rw [HXN2.out, if_neg (fun h => by have := h.2; rw [hv] at this; cases this)])
          clear hz hv
          go_upto_region 32 with (first | ((with_reducible refine gate_ (op := .lookup 66 (.tmp 122) (.tmp 124) false) rfl ?_); (try (refine gate_guard (by rfl) ?_; dsimp only)); refine wpList_lookI _ rfl (.tmp 122) (.tmp 124) 66 false rfl 3 4 Try.underlying66 Try.underlying3 (Try.zeroValue4 _) gv (mapV vBool V) rfl HO12.out.taken f rfl ?_; rw [if_neg (by decide), show (Value.bool false) = vBool false from rfl, mapV_get, HV1.out]; dsimp only [vBool]) | ((with_reducible refine gate_ (op := .mapUpdate 66 (.tmp 128) (.tmp 130) (.const (.bool true))) rfl ?_); refine wpList_storeI _ rfl (.tmp 128) (.tmp 130) (.const (.bool true)) 66 rfl 3 4 Try.underlying66 Try.underlying3 gv (mapV vBool V) rfl HO12.out.taken f rfl (.bool true) rfl ?_; intro w13 hm_ hg_; have HS13 := Aside0.mk (HS12.out.far HO12.out.taken HNV.out.1 HNV.out.2.1 HNV.out.2.2.1 HNV.out.2.2.2.1 HNV.out.2.2.2.2 hg_); have BP13 := Aside0.mk (blk_grown BP12.out hg_ (HO12.out.taken.ne_blk BP12.out)); have NP13 := Aside0.mk (Kd.S_grown NP12.out hg_ (fun k hk e_ => hk.1.2.2.2 (by cases e_; rfl))); have HO13 := Aside0.mk (show OS_ w w13 gO gU (.slice AF l0.length cF) vP gv l0 out (upd V f true) from ⟨blk_grown HO12.out.box hg_ (HO12.out.taken.ne_blk HO12.out.box), R_map HO12.out.flats HO12.out.taken hg_, Kd.S_mono NP13.out (fun _ hk => hk.1), hm_.eq (mapV_set vBool V f true)⟩); clear hm_ hg_))
          clear hcp1
          have hcp2 : w13.cell? ⟨gp, 2, none⟩ = some (.slice Ap p.f2.length cp) := (blk_cell BP13.out 2).trans rfl
          have hfp2 := blk_frozen BP13.out 2
          have HOK := Aside0.mk (show ∀ k, w13.heap.size ≤ k → okN w gO gU gv (.slice AF l0.length cF) k ∧ some k ≠ vP.ownBlock from fun k hk => by
           have a1 := blk_lt HS13.out.res
           have a2 := blk_lt HO13.out.box
           have a3 := HO13.out.taken.lt
           have a4 := below_size HS13.out.below
           exact ⟨⟨⟨by omega, fun e => by have := Kd.R_lt HO13.out.flats k e.symm; omega⟩, by omega, by omega, by omega⟩, fun e => by have := Kd.S_lt HO13.out.parties k e.symm; omega⟩)
          have NB13 := Aside0.mk (show Kd.S k46 46 w13 w.heap.size (fun k_ => (okN w gO gU gv (.slice AF l0.length cF) k_ ∧ k_ ≠ gp) ∧ k_ < w13.heap.size) vP out from Kd.S_mono (Kd.S_bound NP13.out) (fun k hk => ⟨hk.1, hk.2.2.1⟩))
          have HZ13 := Aside0.mk (below_size HS13.out.below)
          go_upto_region 33 with (first | (go_at_call 40; (with_reducible refine (slices_Clone_ints.calls Ap cp p.f2 p.f2 _ (Kd.C_below HPC.out.2 HS13.out.below) HPC.out.1 (by unfold slices_Clone_ints.f; rw [if_pos (by have := HPL.out; omega)])).mono ?_); rintro e w14 ⟨vW, rfl, hR_, hb_⟩; have HS14 := Aside0.mk (HS13.out.later hb_); have HO14 := Aside0.mk (HO13.out.later hb_); have NP14 := Aside0.mk (Kd.S_below NP13.out hb_); have NB14 := Aside0.mk (Kd.S_below NB13.out hb_); have BP14 := Aside0.mk (blk_below BP13.out hb_); have RW14 := Aside0.mk hR_; obtain ⟨AW, cW, eW⟩ := Kd.R_slice hR_; subst eW; have hB14 := Aside0.mk (below_size hb_); replace hcp2 := (hb_.cell (World.block_lt_of_cell? _ _ hcp2)).trans hcp2; replace hfp2 := blk_frozen BP14.out 2; clear hb_ hR_))
          have hq := HO14.out.put BP14.out (show gU ≠ gp from by have := GPL.out; omega) NP14.out 2 (.slice AW p.f2.length cW)
          obtain ⟨w15, hw15⟩ : ∃ w15, w15 = w14.setCell ⟨gp, 2, none⟩ (.slice AW p.f2.length cW) := ⟨_, rfl⟩
          rw [← hw15]
          rw [← hw15] at hq
          have HO15 := Aside0.mk hq.1
          have NB15 := Aside0.mk (show Kd.S k46 46 w15 w.heap.size (fun k_ => (okN w gO gU gv (.slice AF l0.length cF) k_ ∧ k_ ≠ gp) ∧ k_ < w13.heap.size) vP out by rw [hw15]; exact Kd.S_far NB14.out (p := ⟨gp, 2, none⟩) (fun k hk => hk.1.2) _)
          have BP15 := Aside0.mk (show w15.heap[gp]? = some (.cells #[.int .i64 p.f0, .int .i64 f, .slice AW p.f2.length cW] 46 (0, 0)) by rw [hw15]; exact blk_put BP14.out 2 _ rfl)
          have HS15 := Aside0.mk (show NS w w15 gO gT g1 g2 g3 gt H K T M by rw [hw15]; exact HS14.out.put BP14.out (show gO ≠ gp from by have := GPL.out; omega) (by decide) GPL.out.2.2.1 2 _)
          have RW15 := Aside0.mk (show Kd.R (Kd.int .i64) 3 w15 w13.heap.size (fun k_ => w13.heap.size ≤ k_) (.slice AW p.f2.length cW) p.f2 by rw [hw15]; exact Kd.R_set RW14.out BP14.out (by decide) _ _)
          have HZ15 := Aside0.mk (show w13.heap.size ≤ w15.heap.size by rw [hw15]; have := hB14.out; first | (simp; omega) | (rw [World.size_setCell]; exact this))
          clear hw15 hq hcp2 hfp2 HS14 HO14 NP14 NB13 NB14 BP14 RW14 hB14
          obtain ⟨AP, cP, eP⟩ := Kd.S_slice HO15.out.parties
          subst eP
          have hcp0 : w15.cell? ⟨gp, 0, none⟩ = some (.int .i64 p.f0) := (blk_cell BP15.out 0).trans rfl
          have hcp1 : w15.cell? ⟨gp, 1, none⟩ = some (.int .i64 f) := (blk_cell BP15.out 1).trans rfl
          have hcp2 : w15.cell? ⟨gp, 2, none⟩ = some (.slice AW p.f2.length cW) := (blk_cell BP15.out 2).trans rfl
          have hcU1 : w15.cell? ⟨gU, 1, none⟩ = some (.slice AP out.length cP) := (blk_cell HO15.out.box 1).trans rfl
          go_wp2_with (first | ((with_reducible refine gate_builtin (b := .append) (xs := #[.tmp 136, .tmp 138]) rfl ?_); at_builtin; refine Kd.S_append k46 (w0 := w) w.heap.size rfl (.tmp 136) (.tmp 138) 23 46 (.agg #[(.int .i64 0), (.int .i64 0), (.slice none 0 0)]) 40 rfl Try.underlying23 info46 rfl (by decide) (by omega) (.slice AP out.length cP) out (⟨p.f0, f, p.f2⟩ : S46) [.int .i64 p.f0, .int .i64 f, .slice AW p.f2.length cW] (okN w gO gU gv (.slice AF l0.length cF)) (fun k_ => w13.heap.size ≤ k_) rfl rfl (k46_mkM _ _ _ (⟨p.f0, f, p.f2⟩ : S46) (Kd.R_lower RW15.out HZ13.out)) HOK.out (fun k hk => (HOK.out k (Nat.le_trans HZ15.out hk)).1) (Kd.S_mono NB15.out (fun k hk => ⟨hk.1.1, Nat.not_le.2 hk.2⟩)) HS15.out.below (below_size HS15.out.below) (by have := HOL.out; have := HLT.out; have := HFA.out.2.1; omega) ?_; intro v17 w17 ho hb hg hat; have BU17 := Aside0.mk (blk_grown HO15.out.box hg (Kd.R_ne (Kd.S_R HO15.out.parties) HO15.out.box (by decide))); have RF17 := Aside0.mk (Kd.R_over' HO15.out.flats (Kd.S_typed HO15.out.parties) (by decide) hg); have HV17 := Aside0.mk (HO15.out.taken.kept hg (map_row HO15.out.taken (Kd.S_typed HO15.out.parties))); have HS17 := Aside0.mk (HS15.out.row (Kd.S_typed HO15.out.parties) (Kd.S_base HO15.out.parties) hg); have NP17 := Aside0.mk ho; obtain ⟨A17, c17, e17⟩ := Kd.S_slice ho; rw [List.length_append, List.length_singleton] at e17; subst e17; replace hcU1 := (blk_cell BU17.out 1).trans rfl; have hfU1 := blk_frozen BU17.out 1; clear ho hb hg hat))
          go_roundg (gk - 1)
          case measure => have := HK.out; have := HLT.out; omega
          case rel =>
           refine ⟨n + 1, _, _, _, ?_, ⟨by have := HK.out; have := HLT.out; omega⟩, HN1, ⟨HS17.out.put BU17.out NOU.out (by decide) GU.out 1 _⟩, ⟨⟨blk_put BU17.out 1 _ rfl, Kd.R_set RF17.out BU17.out (by decide) _ _, Kd.S_far NP17.out (p := ⟨gU, 1, none⟩) (fun k hk => hk.2.2.1) _, HV17.out.move (Below.heap_setCell _ _ _ _ (fun e => HV17.out.ne_blk BU17.out (by rw [e])))⟩⟩⟩
           ·have := HI2.out
            first | (rw [show ((n + 1 : Nat) : Int) = i + 1 from by omega]; done) | (simp; omega)
      ·have d7 : decide ((n : Int) < (l9.length : Int)) = false := decide_eq_false (by omega)
       have d7' : decide (n < l9.length) = false := decide_eq_false hlt
       have hnl : n = l9.length := by have := HK.out; omega
       rw [hnl] at HX
       have HE := Aside0.mk (show r = (l0, out, 0) by rw [HRR4.out, HX.out]; rfl)
       have hcU0 : wr.cell? ⟨gU, 0, none⟩ = some (.slice AF l0.length cF) := (blk_cell HO.out.box 0).trans rfl
       obtain ⟨AP, cP, eP⟩ := Kd.S_slice HO.out.parties
       subst eP
       have hcU1 : wr.cell? ⟨gU, 1, none⟩ = some (.slice AP out.length cP) := (blk_cell HO.out.box 1).trans rfl
       have hcO0 : wr.cell? ⟨gO, 0, none⟩ = some (.slice none 0 0) := (blk_cell HS.out.res 0).trans rfl
       have hcO1 : wr.cell? ⟨gO, 1, none⟩ = some (.slice none 0 0) := (blk_cell HS.out.res 1).trans rfl
       have hfO0 := blk_frozen HS.out.res 0
       have hfO1 := blk_frozen HS.out.res 1
       clear hlt hnl
       go_wp2
       refine bodyPost_ret (results_ct rfl _ _ gO 25 #[.slice AF l0.length cF, .slice AP out.length cP] (0, 0) _ rfl (blk_put2 HS.out.res _ _) Try.underlying25 rfl (by kernel_rfl)) rfl ?_
       rw [HE.out]
       exact ⟨_, _, rfl, Kd.R_set (Kd.R_set HO.out.flats HS.out.res (by decide) _ _) (blk_put HS.out.res 0 _ rfl) (by decide) _ _, Kd.S_mono (Kd.S_far (Kd.S_far HO.out.parties (p := ⟨gO, 0, none⟩) (fun k hk => hk.2.1) _) (p := ⟨gO, 1, none⟩) (fun k hk => hk.2.1) _) (fun _ hk => hk.1), below_put2 HS.out.below HS.out.lo.2 _ _⟩
theorem chain_Next.calls (A0_0 : Option Addr) (c0_0 : Nat) (l0_0 : List (S84)) (A0_1 : Option Addr) (c0_1 : Nat) (l0_1 : List (S46)) (A1 : Option Addr) (c1 : Nat) (l1 : List (S51)) (A2 : Option Addr) (c2 : Nat) (l2 : List Int) (r1 : List (S84)) (r2 : List (S46)) (r3 : Int) (w : World) (hr0_0 : Kd.C k84 w A0_0 l0_0.length l0_0) (hc0_0 : l0_0.length ≤ c0_0) (hr0_1 : Kd.C k46 w A0_1 l0_1.length l0_1) (hc0_1 : l0_1.length ≤ c0_1) (hr1 : Kd.C k51 w A1 l1.length l1) (hc1 : l1.length ≤ c1) (hr2 : Kd.C (Kd.int .i64) w A2 l2.length l2) (hc2 : l2.length ≤ c2) (h : chain_Next.f l0_0 l0_1 l1 l2 = some (r1, r2, r3)) :
  Calls Try.prog 15 #[.agg #[.slice A0_0 l0_0.length c0_0, .slice A0_1 l0_1.length c0_1], .slice A1 l1.length c1, .slice A2 l2.length c2] w fun e w' => ∃ v0_ v1_ : Value, e = .returned (.tuple #[.agg #[v0_, v1_], .int .i64 r3]) ∧ Kd.R k84 84 w' w.heap.size (fun _ => True) v0_ r1 ∧ Kd.S k46 46 w' w.heap.size (fun _ => True) v1_ r2 ∧ Below w.heap.size w w' := by
 unfold chain_Next.f at h
 by_cases hf : fewN l0_0 l0_1 l1 l2 = true
 case neg => rw [if_neg hf] at h; cases h
 rw [if_pos hf] at h
 refine (next_calls A0_0 c0_0 l0_0 A0_1 c0_1 l0_1 A1 c1 l1 A2 c2 l2 (r1, r2, r3) w hr0_0 hc0_0 hr0_1 hc0_1 hr1 hc1 hr2 hc2 hf (Option.some.inj h).symm).mono ?_
 rintro e w' ⟨v0_, v1_, he, h0, h1, hb⟩
 exact ⟨v0_, v1_, he, Kd.R_mono h0 (fun _ _ => trivial), Kd.S_mono h1 (fun _ _ => trivial), hb⟩
end
section
def cohousingref23_SameInts.l0 : Nat → List Int → List Int → Int → Option (Bool)
 | 0, _, _, _ => none
 | k + 1, x0, x1, x5 => if x5 < (x0.length : Int) then (if 0 ≤ x5 then (if x5 < (x1.length : Int) then (if (rd x0 x5) = (rd x1 x5) then (cohousingref23_SameInts.l0 k x0 x1 (wrap64 (x5 + 1))) else (some false)) else (none)) else (none)) else (some true)
def cohousingref23_SameInts.f (k : Nat) (l0 : List Int) (l1 : List Int) : Option (Bool) := if (l0.length : Int) = (l1.length : Int) then (cohousingref23_SameInts.l0 k l0 l1 0) else (some false)
theorem cohousingref23_SameInts.mono_l : ∀ k, (∀ y0 y1 y2, LeO (cohousingref23_SameInts.l0 k y0 y1 y2) (cohousingref23_SameInts.l0 (k + 1) y0 y1 y2))
 | 0 => fun _ _ _ r h => by simp [cohousingref23_SameInts.l0] at h
 | k + 1 => by
  have ih0 := cohousingref23_SameInts.mono_l k
  ·intro y0 y1 y2
   unfold cohousingref23_SameInts.l0
   repeat' first
   | (with_reducible exact ih0 _ _ _)
   | (with_reducible exact LeO.refl _)
   | (with_reducible exact LeO.none _)
   | (with_reducible refine LeO.ite ?_ ?_)
   | (with_reducible refine LeO.bind ?_ (fun _ => ?_))
   | exact ih0 _ _ _
   | exact LeO.none _
   | refine LeO.ite ?_ ?_
   | refine LeO.bind ?_ (fun _ => ?_)
theorem cohousingref23_SameInts.mono : ∀ a0 a1 k, LeO (cohousingref23_SameInts.f k a0 a1) (cohousingref23_SameInts.f (k + 1) a0 a1) := by
 intro a0 a1 k
 have ih0 := cohousingref23_SameInts.mono_l k
 unfold cohousingref23_SameInts.f
 repeat' first
   | (with_reducible exact ih0 _ _ _)
   | (with_reducible exact LeO.refl _)
   | (with_reducible exact LeO.none _)
   | (with_reducible refine LeO.ite ?_ ?_)
   | (with_reducible refine LeO.bind ?_ (fun _ => ?_))
   | exact ih0 _ _ _
   | exact LeO.none _
   | refine LeO.ite ?_ ?_
   | refine LeO.bind ?_ (fun _ => ?_)
theorem cohousingref23_SameInts.calls (k : Nat) (A0 : Option Addr) (c0 : Nat) (l0 : List Int) (A1 : Option Addr) (c1 : Nat) (l1 : List Int) (r : Bool) (w : World) (hr0 : Kd.C (Kd.int .i64) w A0 l0.length l0) (hc0 : l0.length ≤ c0) (hr1 : Kd.C (Kd.int .i64) w A1 l1.length l1) (hc1 : l1.length ≤ c1) (h : cohousingref23_SameInts.f k l0 l1 = some r) :
  Calls Try.prog 18 #[.slice A0 l0.length c0, .slice A1 l1.length c1] w fun e w' => e = .returned (.bool r) ∧ Drawn0 w w' := by
 have HR0 := Aside0.mk hr0
 have HC0 := Aside0.mk hc0
 clear hr0 hc0
 have HR1 := Aside0.mk hr1
 have HC1 := Aside0.mk hc1
 clear hr1 hc1
 have H : (if (l0.length : Int) = (l1.length : Int) then (cohousingref23_SameInts.l0 k l0 l1 0) else (some false)) = some r := h
 clear h
 by_cases c3 : (l0.length : Int) = (l1.length : Int)
 ·rw [if_pos c3] at H
  have c3b0 : ((l0.length : Int) == (l1.length : Int)) = true := beq_iff_eq.mpr c3
  have c3b1 : ((l0.length : Int) != (l1.length : Int)) = false := bne_eq_false_iff_eq.mpr c3
  have c3b2 : (l0.length == l1.length) = true := by first | simpa using c3 | (simp at c3 ⊢; omega)
  clear c3
  have H' := Aside0.mk H
  clear H
  go_enter Try.func18, Try.ntmps18
  go_wp2
  repeat (go_quiet (fail); try go_wp2)
  go_loopg [5] k (fun kq v5 w' => ∃ (x5_1 : Int), v5 = .int .i64 x5_1 ∧ Aside0 (cohousingref23_SameInts.l0 kq l0 l1 x5_1 = some r) ∧ Aside0 (kq ≤ k) ∧ Drawn0 w w')
  case atStart => exact ⟨(0), sd_, H', ⟨Nat.le_refl _⟩, by repeat (first | exact Drawn0.refl _ | apply Drawn0.step)⟩
  case round =>
   clear H'
   try clear c1
   try clear p2
   try clear c3
   try clear c3b0
   try clear c3b1
   try clear c3b2
   obtain ⟨x5_1, rfl, HA, HK1, ⟨m1, rfl⟩⟩ := hrel
   cases gk with
   | zero => exact absurd HA.out (by simp [cohousingref23_SameInts.l0])
   | succ k1 =>
    have H := HA.out
    clear HA
    simp only [cohousingref23_SameInts.l0] at H
    by_cases c4 : x5_1 < (l0.length : Int)
    ·rw [if_pos c4] at H
     have c4b0 : decide (x5_1 < (l0.length : Int)) = true := decide_eq_true c4
     clear c4
     by_cases c5 : 0 ≤ x5_1
     ·rw [if_pos c5] at H
      have c5b0 : decide (0 ≤ x5_1) = true := decide_eq_true c5
      clear c5
      by_cases c6 : x5_1 < (l1.length : Int)
      ·rw [if_pos c6] at H
       have c6b0 : decide (x5_1 < (l1.length : Int)) = true := decide_eq_true c6
       clear c6
       by_cases c7 : (rd l0 x5_1) = (rd l1 x5_1)
       ·rw [if_pos c7] at H
        have c7b0 : ((rd l0 x5_1) == (rd l1 x5_1)) = true := beq_iff_eq.mpr c7
        have c7b1 : ((rd l0 x5_1) != (rd l1 x5_1)) = false := bne_eq_false_iff_eq.mpr c7
        clear c7
        have H' := Aside0.mk H
        clear H
        have p105 : 0 ≤ (x5_1 : Int) := od_
        have q105 : x5_1 < (l0.length : Int) := od_
        obtain ⟨ad105, e105, hx105_0⟩ := Kd.at_int HR0.out x5_1 p105 q105
        cases e105
        replace p105 := eq_true p105
        replace q105 := eq_true q105
        have p106 : 0 ≤ (x5_1 : Int) := od_
        have q106 : x5_1 < (l1.length : Int) := od_
        obtain ⟨ad106, e106, hx106_0⟩ := Kd.at_int HR1.out x5_1 p106 q106
        cases e106
        replace p106 := eq_true p106
        replace q106 := eq_true q106
        go_wp2
        repeat (go_quiet (fail); try go_wp2)
        go_roundg k1
        case measure => have := HK1.out; omega
        case rel => exact ⟨(wrap64 (x5_1 + 1)), sd_, H', ⟨by have := HK1.out; omega⟩, by repeat (first | exact Drawn0.refl _ | apply Drawn0.step)⟩
       ·rw [if_neg c7] at H
        have c7b0 : ((rd l0 x5_1) == (rd l1 x5_1)) = false := beq_eq_false_iff_ne.mpr c7
        have c7b1 : ((rd l0 x5_1) != (rd l1 x5_1)) = true := bne_iff_ne.mpr c7
        obtain rfl := Option.some.inj H
        have p105 : 0 ≤ (x5_1 : Int) := od_
        have q105 : x5_1 < (l0.length : Int) := od_
        obtain ⟨ad105, e105, hx105_0⟩ := Kd.at_int HR0.out x5_1 p105 q105
        cases e105
        replace p105 := eq_true p105
        replace q105 := eq_true q105
        have p106 : 0 ≤ (x5_1 : Int) := od_
        have q106 : x5_1 < (l1.length : Int) := od_
        obtain ⟨ad106, e106, hx106_0⟩ := Kd.at_int HR1.out x5_1 p106 q106
        cases e106
        replace p106 := eq_true p106
        replace q106 := eq_true q106
        go_wp2
        repeat (go_quiet (fail); try go_wp2)
        go_ret
        exact ⟨by first | rfl | (simp; done) | (simp [*]; done), by repeat (first | exact Drawn0.refl _ | apply Drawn0.step)⟩
      ·rw [if_neg c6] at H
       exact absurd H (by simp)
     ·rw [if_neg c5] at H
      exact absurd H (by simp)
    ·rw [if_neg c4] at H
     have c4b0 : decide (x5_1 < (l0.length : Int)) = false := decide_eq_false c4
     clear c4
     obtain rfl := Option.some.inj H
     go_wp2
     repeat (go_quiet (fail); try go_wp2)
     go_ret
     exact ⟨by first | rfl | (simp; done) | (simp [*]; done), by repeat (first | exact Drawn0.refl _ | apply Drawn0.step)⟩
 ·rw [if_neg c3] at H
  have c3b0 : ((l0.length : Int) == (l1.length : Int)) = false := beq_eq_false_iff_ne.mpr c3
  have c3b1 : ((l0.length : Int) != (l1.length : Int)) = true := bne_iff_ne.mpr c3
  have c3b2 : (l0.length == l1.length) = false := by first | simpa using c3 | (simp at c3 ⊢; omega)
  obtain rfl := Option.some.inj H
  go_enter Try.func18, Try.ntmps18
  go_wp2
  repeat (go_quiet (fail); try go_wp2)
  go_ret
  exact ⟨by first | rfl | (simp; done) | (simp [*]; done), by repeat (first | exact Drawn0.refl _ | apply Drawn0.step)⟩
end
section
open Go.Proofs.YtocbiggglnpeoaaH
def lastD (l : List S55) (n : Nat) : Int := if n = 0 then 0 else (rd_T55 l ((n - 1 : Nat) : Int)).f2
theorem lastD_succ (l : List S55) (n : Nat) : lastD l (n + 1) = (rd_T55 l (n : Int)).f2 := by
 unfold lastD
 rw [if_neg (by omega)]
 rfl
def replyP (q : Int) (x : S55) : Prop := 1 ≤ x.f0 ∧ x.f0 ≤ 3 ∧ 1 ≤ x.f1 ∧ x.f1 ≤ 64 ∧ q ≤ x.f2 ∧ x.f2 ≤ 36524
instance (q : Int) (x : S55) : Decidable (replyP q x) := by unfold replyP; infer_instance
def replyAt (l : List S55) (n : Nat) : Bool := decide (replyP (lastD l n) (rd_T55 l (n : Int)))
def repliesB (l : List S55) : Bool := (List.range l.length).all (replyAt l) && decide (l.length ≤ 1000)
theorem repliesB_false {l : List S55} {n : Nat} (hn : n < l.length) (h : replyAt l n = false) : repliesB l = false := by
 have : (List.range l.length).all (replyAt l) = false := by
  rw [List.all_eq_false]
  exact ⟨n, List.mem_range.2 hn, by simp [h]⟩
 unfold repliesB
 rw [this]
 rfl
theorem repliesB_end {l : List S55} (h : ∀ j, j < l.length → replyAt l j = true) : repliesB l = decide (l.length ≤ 1000) := by
 have : (List.range l.length).all (replyAt l) = true := by
  rw [List.all_eq_true]
  exact fun j hj => h j (List.mem_range.1 hj)
 unfold repliesB
 rw [this]
 rfl
theorem st_field (y z : Bool) (W : World) : (Instr.field 76 (.agg #[.bool y, .bool z]) 1).run Try.prog W = .ok (.bool z) W := by
 have hu := Try.underlying76
 simp [Instr.field, run_underlying hu, go_sem, asAgg]
theorem eqS (d : Nat) (w : World) (x0 y0 : Bool) (x1 y1 : Bool) :
  (Op.equalIn (d + 2) 76 (.agg #[.bool x0, .bool x1]) (.agg #[.bool y0, .bool y1])).run Try.prog w = .ok (x0 == y0 && (x1 == y1)) w := by
 refine eqA_of Try.underlying76 (by kernel_rfl) ?_
 refine eqf_cons (by rfl) (by go_simp; rfl) (by go_simp; rfl) (by go_simp) ?_
 exact eqf_last (by rfl) (by go_simp; rfl) (by go_simp; rfl) (by go_simp)
theorem neS (y z : Bool) (W : World) : (binOp .neq 76 (.agg #[.bool y, .bool z]) (.agg #[.bool true, .bool false])).run Try.prog W = .ok (.bool (!(y == true && (z == false)))) W := by
 simp only [binOp]
 simp [Op.equal, Op.maxDepth, eqS 9998]
def vState : Bool × Bool → Value := fun s => .agg #[.bool s.1, .bool s.2]
def repM (l : List S55) (due : Int) : Nat → Int → Option (Bool × Bool)
 | 0 => fun _ => none
 | n + 1 => if (rd_T55 l (n : Int)).f2 ≤ due then upd (repM l due n) (rd_T55 l (n : Int)).f1 ((rd_T55 l (n : Int)).f0 == 1, ((repM l due n (rd_T55 l (n : Int)).f1).getD (false, false)).2 || (rd_T55 l (n : Int)).f0 == 3) else repM l due n
theorem repM_succ (l : List S55) (due : Int) (n : Nat) : repM l due (n + 1) = if (rd_T55 l (n : Int)).f2 ≤ due then upd (repM l due n) (rd_T55 l (n : Int)).f1 ((rd_T55 l (n : Int)).f0 == 1, ((repM l due n (rd_T55 l (n : Int)).f1).getD (false, false)).2 || (rd_T55 l (n : Int)).f0 == 3) else repM l due n := rfl
theorem replied_calls (A0 : Option Addr) (c0 : Nat) (l0 : List (S55)) (due : Int) (w : World) (hr0 : Kd.C k55 w A0 l0.length l0) (hc0 : l0.length ≤ c0) (hn : l0.length ≤ 1000000000) :
  Calls Try.prog 31 #[.slice A0 l0.length c0, .int .i64 due] w fun e w' => ∃ mv : Option Nat, e = .returned (.tuple #[.map mv, .bool (repliesB l0)]) ∧ (repliesB l0 = true → ∃ g, mv = some g ∧ w.heap.size ≤ g ∧ MapI w' g (mapV vState (repM l0 due l0.length))) ∧ Below w.heap.size w w' := by
 have hu55 := Try.underlying55
 have hu76 := Try.underlying76
 have HR0 := Aside0.mk hr0
 have HN := Aside0.mk hn
 have hmm := @run_makeMap Try.prog
 have hfl := st_field
 clear hr0 hn
 go_enter Try.func31, Try.ntmps31
 go_wp2
 obtain ⟨gm, hgm⟩ : ∃ gm, gm = w.heap.size := ⟨_, rfl⟩
 obtain ⟨w4, hw4⟩ : ∃ w4, w4 = w.alloc (Obj.map #[] 0) := ⟨_, rfl⟩
 rw [← hw4, ← hgm]
 have HM := Aside0.mk (show MapI w4 gm (mapV vState (repM l0 due 0)) by rw [hw4, hgm]; exact (MapI.made w).none_ vState)
 have HB := Aside0.mk (show Below w.heap.size w w4 by rw [hw4]; exact below_alloc (Below.refl _ _) _)
 have GM := Aside0.mk (show w.heap.size ≤ gm by omega)
 clear hw4 hgm
 go_loopg [7, 13] l0.length (fun kq v7 v13 wr => ∃ (n : Nat) (q : Int), v7 = .int .i64 q ∧ v13 = .int .i64 n ∧ Aside0 (kq + n = l0.length) ∧ Aside0 (q = lastD l0 n) ∧ Aside0 (∀ j, j < n → replyAt l0 j = true) ∧ Aside0 (MapI wr gm (mapV vState (repM l0 due n))) ∧ Aside0 (Below w.heap.size w wr))
 case atStart => exact ⟨0, 0, rfl, rfl, ⟨by omega⟩, ⟨rfl⟩, ⟨fun j hj => absurd hj (by omega)⟩, HM, HB⟩
 case round =>
  clear HM HB
  obtain ⟨n, q, rfl, rfl, HK, HQ, HA, HM, HB⟩ := hrel
  by_cases hlt : n < l0.length
  ·obtain ⟨i, hi⟩ : ∃ i : Int, i = (n : Int) := ⟨_, rfl⟩
   rw [← hi]
   have HI2 := Aside0.mk (show 0 ≤ i ∧ i < l0.length ∧ i = (n : Int) from ⟨by omega, by omega, hi⟩)
   have d7 : decide (i < (l0.length : Int)) = true := decide_eq_true HI2.out.2.1
   have ci2 : (0 ≤ i) = True := eq_true HI2.out.1
   have ci3 : (i < l0.length) = True := eq_true HI2.out.2.1
   obtain ⟨adp, ep, hx0, hx1, hx2⟩ := at_T55 (Kd.C_below HR0.out HB.out) i HI2.out.1 HI2.out.2.1
   subst ep
   obtain ⟨x, hp⟩ : ∃ x, x = rd_T55 l0 i := ⟨_, rfl⟩
   rw [← hp] at hx0 hx1 hx2
   have HP := Aside0.mk (show rd_T55 l0 (n : Int) = x by rw [hp, hi])
   have hz1 : i + 1 ≤ 9223372036854775807 := by have := HI2.out; have := HN.out; omega
   have hz2 : -9223372036854775808 ≤ i + 1 := by have := HI2.out; omega
   have HFA := Aside0.mk (show replyAt l0 n = decide (replyP q x) by unfold replyAt; rw [HP.out, ← HQ.out])
   have HLT := Aside0.mk hlt
   clear hi hlt hp
   have HB0 := Aside0.mk (Below.refl wr.heap.size wr)
   go_upto_region 5 with (first | ((with_reducible refine gate_dst (N := 9) rfl ?_); refine box_event ?hg (N := 9) ?hd (cs := #[.int .i64 0, .int .i64 0, .int .i64 0]) (t := 55) ?hr ?_; (case hd => rfl); (case hg => rfl); (case hr => first | (go_simp; done) | (go_simp; rfl)); intro gx hg_X w9 hbox_ hb_; have n0_ := Aside0.mk (below_step HB0.out hb_); have BX := Aside0.mk hbox_; have GX := Aside0.mk (show wr.heap.size ≤ gx by rw [hg_X]; exact below_size HB0.out); have EX := Aside0.mk hg_X; have hcx0 : w9.cell? ⟨gx, 0, none⟩ = some (.int .i64 0) := (blk_cell hbox_ 0).trans rfl; have hfx0 := blk_frozen hbox_ 0; have hcx1 : w9.cell? ⟨gx, 1, none⟩ = some (.int .i64 0) := (blk_cell hbox_ 1).trans rfl; have hfx1 := blk_frozen hbox_ 1; have hcx2 : w9.cell? ⟨gx, 2, none⟩ = some (.int .i64 0) := (blk_cell hbox_ 2).trans rfl; have hfx2 := blk_frozen hbox_ 2; replace hx0 := (hb_.cell (World.block_lt_of_cell? _ _ hx0)).trans hx0; replace hx1 := (hb_.cell (World.block_lt_of_cell? _ _ hx1)).trans hx1; replace hx2 := (hb_.cell (World.block_lt_of_cell? _ _ hx2)).trans hx2; clear HB0 hg_X hbox_ hb_; have HB0 := n0_; clear n0_))
   obtain ⟨w10, hw10⟩ : ∃ w10, w10 = ((w9.setCell ⟨gx, 0, none⟩ (.int .i64 x.f0)).setCell ⟨gx, 1, none⟩ (.int .i64 x.f1)).setCell ⟨gx, 2, none⟩ (.int .i64 x.f2) := ⟨_, rfl⟩
   rw [← hw10]
   have BX10 := Aside0.mk (show w10.heap[gx]? = some (.cells #[.int .i64 x.f0, .int .i64 x.f1, .int .i64 x.f2] 55 (0, 0)) by rw [hw10]; exact blk_put3 BX.out _ _ _)
   have HB10 := Aside0.mk (show Below wr.heap.size wr w10 by rw [hw10]; exact below_put3 HB0.out GX.out _ _ _)
   clear hw10 BX HB0 hcx0 hcx1 hcx2 hfx0 hfx1 hfx2 hx0 hx1 hx2
   have hcx0 : w10.cell? ⟨gx, 0, none⟩ = some (.int .i64 x.f0) := (blk_cell BX10.out 0).trans rfl
   have hcx1 : w10.cell? ⟨gx, 1, none⟩ = some (.int .i64 x.f1) := (blk_cell BX10.out 1).trans rfl
   have hcx2 : w10.cell? ⟨gx, 2, none⟩ = some (.int .i64 x.f2) := (blk_cell BX10.out 2).trans rfl
   have HM10 := Aside0.mk (HM.out.below HB10.out)
   have HB11 := Aside0.mk (below_step HB.out HB10.out)
   rcases Decidable.em (replyP q x) with hgood | hbad
   ·have HG := Aside0.mk (show replyAt l0 n = true by rw [HFA.out]; exact decide_eq_true hgood)
    have t0 : decide (x.f0 < 1) = false := decide_eq_false (by unfold replyP at hgood; omega)
    have t1 : decide (3 < x.f0) = false := decide_eq_false (by unfold replyP at hgood; omega)
    have t2 : decide (x.f1 < 1) = false := decide_eq_false (by unfold replyP at hgood; omega)
    have t3 : decide (64 < x.f1) = false := decide_eq_false (by unfold replyP at hgood; omega)
    have t4 : decide (x.f2 < q) = false := decide_eq_false (by unfold replyP at hgood; omega)
    have t5 : decide (36524 < x.f2) = false := decide_eq_false (by unfold replyP at hgood; omega)
    clear hgood
    by_cases hd : x.f2 ≤ due
    ·have u0 : decide (x.f2 ≤ due) = true := decide_eq_true hd
     obtain ⟨s, hs⟩ : ∃ s, s = (repM l0 due n x.f1).getD (false, false) := ⟨_, rfl⟩
     have HS := Aside0.mk hs
     have HSN := Aside0.mk (show repM l0 due (n + 1) = upd (repM l0 due n) x.f1 (x.f0 == 1, s.2 || x.f0 == 3) by rw [repM_succ, HP.out, if_pos hd, hs])
     clear hd hs
     obtain ⟨y, z⟩ := s
     cases z with
     | true =>
      go_wp2_with (first | ((with_reducible refine gate_ (op := .lookup 71 (.tmp 58) (.tmp 60) false) rfl ?_); refine wpList_lookI _ rfl (.tmp 58) (.tmp 60) 71 false rfl 3 76 Try.underlying71 Try.underlying3 (Try.zeroValue76 _) gm (mapV vState (repM l0 due n)) rfl HM10.out x.f1 rfl ?_; rw [if_neg (by decide), show (Value.agg #[.bool false, .bool false]) = vState (false, false) from rfl, mapV_get, ← HS.out]; dsimp only [vState]) | ((with_reducible refine gate_ (op := .mapUpdate 71 (.tmp 52) (.tmp 54) (.tmp 68)) rfl ?_); refine wpList_storeI _ rfl (.tmp 52) (.tmp 54) (.tmp 68) 71 rfl 3 76 Try.underlying71 Try.underlying3 gm (mapV vState (repM l0 due n)) rfl HM10.out x.f1 rfl (.agg #[.bool (x.f0 == 1), .bool true]) rfl ?_; intro w12 hm_ hg_; have HM12 := Aside0.mk (show MapI w12 gm (mapV vState (repM l0 due (n + 1))) by rw [HSN.out]; exact hm_.eq (mapV_set vState _ x.f1 (x.f0 == 1, true || x.f0 == 3))); have HB12 := Aside0.mk (grown_below HB11.out hg_ (fun k e => by cases e; exact GM.out)); clear hm_ hg_))
      go_roundg (gk - 1)
      case measure => have := HK.out; have := HLT.out; omega
      case rel =>
       refine ⟨n + 1, x.f2, ?_, ?_, ⟨by have := HK.out; have := HLT.out; omega⟩, ⟨by rw [lastD_succ, HP.out]⟩, ⟨fun j hj => ?_⟩, HM12, HB12⟩
       ·first | rfl | (simp; done)
       ·have := HI2.out
        first | (rw [show ((n + 1 : Nat) : Int) = i + 1 from by omega]; done) | (simp; omega)
       ·by_cases e : j = n
        ·rw [e]; exact HG.out
        ·exact HA.out j (by omega)
     | false =>
      go_wp2_with (first | ((with_reducible refine gate_ (op := .lookup 71 (.tmp 58) (.tmp 60) false) rfl ?_); refine wpList_lookI _ rfl (.tmp 58) (.tmp 60) 71 false rfl 3 76 Try.underlying71 Try.underlying3 (Try.zeroValue76 _) gm (mapV vState (repM l0 due n)) rfl HM10.out x.f1 rfl ?_; rw [if_neg (by decide), show (Value.agg #[.bool false, .bool false]) = vState (false, false) from rfl, mapV_get, ← HS.out]; dsimp only [vState]) | ((with_reducible refine gate_ (op := .mapUpdate 71 (.tmp 52) (.tmp 54) (.tmp 68)) rfl ?_); refine wpList_storeI _ rfl (.tmp 52) (.tmp 54) (.tmp 68) 71 rfl 3 76 Try.underlying71 Try.underlying3 gm (mapV vState (repM l0 due n)) rfl HM10.out x.f1 rfl (.agg #[.bool (x.f0 == 1), .bool (x.f0 == 3)]) rfl ?_; intro w12 hm_ hg_; have HM12 := Aside0.mk (show MapI w12 gm (mapV vState (repM l0 due (n + 1))) by rw [HSN.out]; exact hm_.eq (mapV_set vState _ x.f1 (x.f0 == 1, false || x.f0 == 3))); have HB12 := Aside0.mk (grown_below HB11.out hg_ (fun k e => by cases e; exact GM.out)); clear hm_ hg_))
      go_roundg (gk - 1)
      case measure => have := HK.out; have := HLT.out; omega
      case rel =>
       refine ⟨n + 1, x.f2, ?_, ?_, ⟨by have := HK.out; have := HLT.out; omega⟩, ⟨by rw [lastD_succ, HP.out]⟩, ⟨fun j hj => ?_⟩, HM12, HB12⟩
       ·first | rfl | (simp; done)
       ·have := HI2.out
        first | (rw [show ((n + 1 : Nat) : Int) = i + 1 from by omega]; done) | (simp; omega)
       ·by_cases e : j = n
        ·rw [e]; exact HG.out
        ·exact HA.out j (by omega)
    ·have u0 : decide (x.f2 ≤ due) = false := decide_eq_false hd
     have HM12 := Aside0.mk (show MapI w10 gm (mapV vState (repM l0 due (n + 1))) by rw [repM_succ, HP.out, if_neg hd]; exact HM10.out)
     have HB12 := HB11
     clear hd
     go_wp2
     go_roundg (gk - 1)
     case measure => have := HK.out; have := HLT.out; omega
     case rel =>
      refine ⟨n + 1, x.f2, ?_, ?_, ⟨by have := HK.out; have := HLT.out; omega⟩, ⟨by rw [lastD_succ, HP.out]⟩, ⟨fun j hj => ?_⟩, HM12, HB12⟩
      ·first | rfl | (simp; done)
      ·have := HI2.out
       first | (rw [show ((n + 1 : Nat) : Int) = i + 1 from by omega]; done) | (simp; omega)
      ·by_cases e : j = n
       ·rw [e]; exact HG.out
       ·exact HA.out j (by omega)
   ·have HX := Aside0.mk (repliesB_false HLT.out (show replyAt l0 n = false by rw [HFA.out]; exact decide_eq_false hbad))
    by_cases b0 : x.f0 < 1
    ·have t0 : decide (x.f0 < 1) = true := decide_eq_true b0
     clear b0 hbad
     go_wp2
     go_ret2
     rw [HX.out]
     exact ⟨none, rfl, fun h => Bool.noConfusion h, HB11.out⟩
    have t0 : decide (x.f0 < 1) = false := decide_eq_false b0
    by_cases b1 : 3 < x.f0
    ·have t1 : decide (3 < x.f0) = true := decide_eq_true b1
     clear b0 b1 hbad
     go_wp2
     go_ret2
     rw [HX.out]
     exact ⟨none, rfl, fun h => Bool.noConfusion h, HB11.out⟩
    have t1 : decide (3 < x.f0) = false := decide_eq_false b1
    by_cases b2 : x.f1 < 1
    ·have t2 : decide (x.f1 < 1) = true := decide_eq_true b2
     clear b0 b1 b2 hbad
     go_wp2
     go_ret2
     rw [HX.out]
     exact ⟨none, rfl, fun h => Bool.noConfusion h, HB11.out⟩
    have t2 : decide (x.f1 < 1) = false := decide_eq_false b2
    by_cases b3 : 64 < x.f1
    ·have t3 : decide (64 < x.f1) = true := decide_eq_true b3
     clear b0 b1 b2 b3 hbad
     go_wp2
     go_ret2
     rw [HX.out]
     exact ⟨none, rfl, fun h => Bool.noConfusion h, HB11.out⟩
    have t3 : decide (64 < x.f1) = false := decide_eq_false b3
    by_cases b4 : x.f2 < q
    ·have t4 : decide (x.f2 < q) = true := decide_eq_true b4
     clear b0 b1 b2 b3 b4 hbad
     go_wp2
     go_ret2
     rw [HX.out]
     exact ⟨none, rfl, fun h => Bool.noConfusion h, HB11.out⟩
    have t4 : decide (x.f2 < q) = false := decide_eq_false b4
    have b5 : 36524 < x.f2 := by unfold replyP at hbad; omega
    have t5 : decide (36524 < x.f2) = true := decide_eq_true b5
    clear b0 b1 b2 b3 b4 b5 hbad
    go_wp2
    go_ret2
    rw [HX.out]
    exact ⟨none, rfl, fun h => Bool.noConfusion h, HB11.out⟩
  ·have d7 : decide ((n : Int) < (l0.length : Int)) = false := decide_eq_false (by omega)
   have d7' : decide (n < l0.length) = false := decide_eq_false hlt
   have hnl : n = l0.length := by have := HK.out; omega
   rw [hnl] at HM HA
   have HX := Aside0.mk (repliesB_end HA.out)
   clear hlt hnl
   cases hl : decide (l0.length ≤ 1000) with
   | false =>
    have v0 : decide ((l0.length : Int) ≤ 1000) = false := decide_eq_false (by have := of_decide_eq_false hl; omega)
    go_wp2
    go_ret2
    rw [HX.out, hl]
    exact ⟨some gm, rfl, fun h => Bool.noConfusion h, HB.out⟩
   | true =>
    have v0 : decide ((l0.length : Int) ≤ 1000) = true := decide_eq_true (by have := of_decide_eq_true hl; omega)
    go_wp2
    go_ret2
    rw [HX.out, hl]
    exact ⟨some gm, rfl, fun _ => ⟨gm, rfl, GM.out, HM.out⟩, HB.out⟩
end
section
open Go.Proofs.YtocbiggglnpeoaaH
def setB (f : S51 → Int) (ms : List S51) : Int → Option Bool := fun k => if ms.any (fun m => f m == k) then some true else none
theorem setB_snoc (f : S51 → Int) (ms : List S51) (x : S51) : setB f (ms ++ [x]) = upd (setB f ms) (f x) true := by
 funext k
 unfold setB upd
 rw [List.any_append]
 by_cases h : k = f x
 ·rw [if_pos h, h]; simp
 ·rw [if_neg h]
  have : (f x == k) = false := beq_eq_false_iff_ne.2 (fun e => h e.symm)
  simp [this]
def ahead (l : List S49) (n k : Nat) : List S51 := (l.take n).flatMap (fun r => r.f1) ++ (rd_T49 l (n : Int)).f1.take k
theorem ahead_succ (l : List S49) (n k : Nat) (h : k < (rd_T49 l (n : Int)).f1.length) : ahead l n (k + 1) = ahead l n k ++ [rd_T51 (rd_T49 l (n : Int)).f1 (k : Int)] := by
 unfold ahead
 rw [List.take_succ_eq_append_getElem h, List.append_assoc]
 congr 3
 simp [rd_T51, List.getD_eq_getElem?_getD, h]
theorem ahead_next (l : List S49) (n : Nat) (h : n < l.length) : ahead l n (rd_T49 l (n : Int)).f1.length = ahead l (n + 1) 0 := by
 unfold ahead
 rw [List.take_length, List.take_zero, List.append_nil, List.take_succ_eq_append_getElem h, List.flatMap_append]
 congr 1
 simp [rd_T49, List.getD_eq_getElem?_getD, h]
def offB (r : S49) (k : Nat) : Bool :=
 (decide (0 < k) && r.f0 && (rd_T51 r.f1 (k : Int)).f2 != (rd_T51 r.f1 ((k : Int) - 1)).f1) ||
 (!r.f0 && ((rd_T51 r.f1 (k : Int)).f1 == 0 || (rd_T51 r.f1 (k : Int)).f2 != (rd_T51 r.f1 (Int.tmod ((k : Int) + 1) (r.f1.length : Int))).f1))
def moveB (H : Int → Option Int) (K : Int → Option Bool) (l : List S49) (n k : Nat) : Bool :=
 fitsB H K (rd_T51 (rd_T49 l (n : Int)).f1 (k : Int)) && !(setB (fun m => m.f0) (ahead l n k) (rd_T51 (rd_T49 l (n : Int)).f1 (k : Int)).f0).getD false && !(setB (fun m => m.f2) (ahead l n k) (rd_T51 (rd_T49 l (n : Int)).f1 (k : Int)).f2).getD false && !offB (rd_T49 l (n : Int)) k
def endB (T : Int → Option Bool) (r : S49) : Bool := decide (0 < r.f1.length) && (!r.f0 || !(T (rd_T51 r.f1 0).f2).getD false)
def ringB (H : Int → Option Int) (K T : Int → Option Bool) (l : List S49) (n : Nat) : Bool := (List.range (rd_T49 l (n : Int)).f1.length).all (moveB H K l n) && endB T (rd_T49 l (n : Int))
def ringsB (H : Int → Option Int) (K T : Int → Option Bool) (l : List S49) : Bool := (List.range l.length).all (ringB H K T l) && decide (l.length ≤ 64)
theorem ringsB_false {H : Int → Option Int} {K T : Int → Option Bool} {l : List S49} {n : Nat} (hn : n < l.length) (h : ringB H K T l n = false) : ringsB H K T l = false := by
 have : (List.range l.length).all (ringB H K T l) = false := by
  rw [List.all_eq_false]
  exact ⟨n, List.mem_range.2 hn, by simp [h]⟩
 unfold ringsB
 rw [this]
 rfl
theorem ringB_false {H : Int → Option Int} {K T : Int → Option Bool} {l : List S49} {n k : Nat} (hk : k < (rd_T49 l (n : Int)).f1.length) (h : moveB H K l n k = false) : ringB H K T l n = false := by
 have : (List.range (rd_T49 l (n : Int)).f1.length).all (moveB H K l n) = false := by
  rw [List.all_eq_false]
  exact ⟨k, List.mem_range.2 hk, by simp [h]⟩
 unfold ringB
 rw [this]
 rfl
theorem ringB_end {H : Int → Option Int} {K T : Int → Option Bool} {l : List S49} {n : Nat} (h : ∀ j, j < (rd_T49 l (n : Int)).f1.length → moveB H K l n j = true) : ringB H K T l n = endB T (rd_T49 l (n : Int)) := by
 have : (List.range (rd_T49 l (n : Int)).f1.length).all (moveB H K l n) = true := by
  rw [List.all_eq_true]
  exact fun j hj => h j (List.mem_range.1 hj)
 unfold ringB
 rw [this]
 rfl
theorem ringsB_end {H : Int → Option Int} {K T : Int → Option Bool} {l : List S49} (h : ∀ j, j < l.length → ringB H K T l j = true) : ringsB H K T l = decide (l.length ≤ 64) := by
 have : (List.range l.length).all (ringB H K T l) = true := by
  rw [List.all_eq_true]
  exact fun j hj => h j (List.mem_range.1 hj)
 unfold ringsB
 rw [this]
 rfl
def fewR (l : List S49) : Bool := decide (l.length ≤ 1000000000) && l.all (fun r => decide (r.f1.length ≤ 1000000000))
theorem fewR_at {l : List S49} (h : fewR l = true) : l.length ≤ 1000000000 ∧ ∀ i : Int, 0 ≤ i → i < l.length → (rd_T49 l i).f1.length ≤ 1000000000 := by
 unfold fewR at h
 rw [Bool.and_eq_true, decide_eq_true_iff, List.all_eq_true] at h
 refine ⟨h.1, fun i h0 h1 => ?_⟩
 have h2 : i.toNat < l.length := by omega
 have := h.2 (l[i.toNat]'h2) (List.getElem_mem _)
 simpa [rd_T49, List.getD_eq_getElem?_getD, h2] using this
structure RS (w0 w : World) (b gT g1 g2 g3 gh gq : Nat) (H : Int → Option Int) (K T : Int → Option Bool) (ms : List S51) : Prop where
 cell : w.heap[gT]? = some (.cells #[.map (some g1), .map (some g2), .map (some g3)] 68 (0, 0))
 town : Town w b g1 g2 g3 H K T
 homes : MapI w gh (mapV vBool (setB (fun m => m.f0) ms))
 goals : MapI w gq (mapV vBool (setB (fun m => m.f2) ms))
 ne : g1 ≠ gh ∧ g2 ≠ gh ∧ g3 ≠ gh ∧ g1 ≠ gq ∧ g2 ≠ gq ∧ g3 ≠ gq ∧ gh ≠ gq
 lo : w0.heap.size ≤ gh ∧ w0.heap.size ≤ gq
 below : Below w0.heap.size w0 w
theorem RS.later {w0 w w' : World} {b gT g1 g2 g3 gh gq : Nat} {H : Int → Option Int} {K T : Int → Option Bool} {ms : List S51} (h : RS w0 w b gT g1 g2 g3 gh gq H K T ms) (hb : Below w.heap.size w w') : RS w0 w' b gT g1 g2 g3 gh gq H K T ms :=
 ⟨blk_below h.cell hb, h.town.later hb, h.homes.below hb, h.goals.below hb, h.ne, h.lo, below_step h.below hb⟩
theorem RS.step {w0 w w1 w2 : World} {b gT g1 g2 g3 gh gq : Nat} {H : Int → Option Int} {K T : Int → Option Bool} {ms : List S51} (x : S51) (h : RS w0 w b gT g1 g2 g3 gh gq H K T ms)
  (hm1 : MapI w1 gh (setM (mapV vBool (setB (fun m => m.f0) ms)) x.f0 (.bool true))) (hg1 : w.grownBy w1 (some gh)) (hm2 : MapI w2 gq (setM (mapV vBool (setB (fun m => m.f2) ms)) x.f2 (.bool true))) (hg2 : w1.grownBy w2 (some gq)) : RS w0 w2 b gT g1 g2 g3 gh gq H K T (ms ++ [x]) := by
 have ne : ∀ {a c : Nat}, a ≠ c → some a ≠ some c := fun h e => h (by cases e; rfl)
 have hq1 := h.goals.kept hg1 (ne h.ne.2.2.2.2.2.2.symm)
 have hc1 := blk_grown h.cell hg1 (h.homes.ne_blk h.cell)
 refine ⟨blk_grown hc1 hg2 (hq1.ne_blk hc1), (h.town.grown hg1 (ne h.ne.1) (ne h.ne.2.1) (ne h.ne.2.2.1)).grown hg2 (ne h.ne.2.2.2.1) (ne h.ne.2.2.2.2.1) (ne h.ne.2.2.2.2.2.1), ?_, ?_, h.ne, h.lo, grown_below (grown_below h.below hg1 (fun k e => by cases e; exact h.lo.1)) hg2 (fun k e => by cases e; exact h.lo.2)⟩
 ·rw [setB_snoc]
  exact (hm1.eq (mapV_set vBool _ x.f0 true)).kept hg2 (ne h.ne.2.2.2.2.2.2)
 ·rw [setB_snoc]
  exact hm2.eq (mapV_set vBool _ x.f2 true)
set_option maxHeartbeats 16000000 in
theorem rings_calls (w : World) (b g1 g2 g3 : Nat) (H : Int → Option Int) (K T : Int → Option Bool) (A1 : Option Addr) (c1 : Nat) (l1 : List (S49)) (hT : Town w b g1 g2 g3 H K T) (hr1 : Kd.C k49 w A1 l1.length l1) (hc1 : l1.length ≤ c1) (hf : fewR l1 = true) :
  Calls Try.prog 32 #[.agg #[.map (some g1), .map (some g2), .map (some g3)], .slice A1 l1.length c1] w fun e w' => e = .returned (.bool (ringsB H K T l1)) ∧ Below w.heap.size w w' := by
 have hu68 := Try.underlying68
 have hu51 := Try.underlying51
 have hu49 := Try.underlying49
 have HT := Aside0.mk hT
 have HR1 := Aside0.mk hr1
 have HC1 := Aside0.mk hc1
 have HF := Aside0.mk (fewR_at hf)
 have HB := Aside0.mk (Below.refl w.heap.size w)
 have hmm := @run_makeMap Try.prog
 clear hT hr1 hc1 hf
 go_enter Try.func32, Try.ntmps32
 go_upto_region 1 with (first | ((with_reducible refine gate_dst (N := 2) rfl ?_); refine box_event ?hg (N := 2) ?hd (cs := #[.map (some g1), .map (some g2), .map (some g3)]) (t := 68) ?hr ?_; (case hd => rfl); (case hg => rfl); (case hr => first | (go_simp; done) | (go_simp; rfl)); intro gT hg_T w1 hbox_ hb_; have n0_ := Aside0.mk (below_step HB.out hb_); have BT := Aside0.mk hbox_; have GT := Aside0.mk (show w.heap.size ≤ gT by rw [hg_T]; exact below_size HB.out); have ET := Aside0.mk hg_T; have hcT0 : w1.cell? ⟨gT, 0, none⟩ = some (.map (some g1)) := (blk_cell hbox_ 0).trans rfl; have hfT0 := blk_frozen hbox_ 0; have hcT1 : w1.cell? ⟨gT, 1, none⟩ = some (.map (some g2)) := (blk_cell hbox_ 1).trans rfl; have hfT1 := blk_frozen hbox_ 1; have hcT2 : w1.cell? ⟨gT, 2, none⟩ = some (.map (some g3)) := (blk_cell hbox_ 2).trans rfl; have hfT2 := blk_frozen hbox_ 2; have HT1 := Aside0.mk (HT.out.later hb_); clear HB hg_T hbox_ hb_; have HB := n0_; clear n0_))
 go_step3
 go_wp2
 go_step3
 go_wp2
 obtain ⟨gh, hgh⟩ : ∃ gh, gh = w1.heap.size := ⟨_, rfl⟩
 obtain ⟨gq, hgq⟩ : ∃ gq, gq = w1.heap.size + 1 := ⟨_, rfl⟩
 obtain ⟨w2, hw2⟩ : ∃ w2, w2 = (w1.alloc (Obj.map #[] 0)).alloc (Obj.map #[] 0) := ⟨_, rfl⟩
 rw [← hgq, ← hgh, ← hw2]
 have HS2 := Aside0.mk (show RS w w2 b gT g1 g2 g3 gh gq H K T (ahead l1 0 0) by
  have hb2 : Below w1.heap.size w1 w2 := by rw [hw2]; exact below_alloc (below_alloc (Below.refl _ _) _) _
  have e1 := World.size_alloc w1 (Obj.map #[] 0)
  have hlo := below_size HB.out
  have a1 := HT1.out.flat.lt
  have a2 := HT1.out.known.lt
  have a3 := HT1.out.taken.lt
  refine ⟨blk_below BT.out hb2, HT1.out.later hb2, ?_, ?_, ⟨by omega, by omega, by omega, by omega, by omega, by omega, by omega⟩, ⟨by omega, by omega⟩, below_step HB.out hb2⟩
  ·rw [hw2, hgh]
   exact ((MapI.made w1).alloc _).eq (fun k => rfl)
  ·rw [hw2, hgq]
   have := MapI.made (w1.alloc (Obj.map #[] 0))
   rw [e1] at this
   exact this.eq (fun k => rfl))
 clear hw2 hgh hgq HB HT1 BT hcT0 hcT1 hcT2 hfT0 hfT1 hfT2
 go_loopg [15] l1.length (fun kq v15 wr => ∃ (n : Nat), v15 = .int .i64 n ∧ Aside0 (kq + n = l1.length) ∧ Aside0 (∀ j, j < n → ringB H K T l1 j = true) ∧ Aside0 (RS w wr b gT g1 g2 g3 gh gq H K T (ahead l1 n 0)))
 case atStart => exact ⟨0, rfl, ⟨by omega⟩, ⟨fun j hj => absurd hj (by omega)⟩, HS2⟩
 case round =>
  clear HS2
  obtain ⟨n, rfl, HK, HA, HS⟩ := hrel
  by_cases hlt : n < l1.length
  ·obtain ⟨i, hi⟩ : ∃ i : Int, i = (n : Int) := ⟨_, rfl⟩
   rw [← hi]
   have HI2 := Aside0.mk (show 0 ≤ i ∧ i < l1.length ∧ i = (n : Int) from ⟨by omega, by omega, hi⟩)
   have d7 : decide (i < (l1.length : Int)) = true := decide_eq_true HI2.out.2.1
   have ci2 : (0 ≤ i) = True := eq_true HI2.out.1
   have ci3 : (i < l1.length) = True := eq_true HI2.out.2.1
   obtain ⟨adr, Ar, cr, er, hx0, hx1, hrc, hrC⟩ := at_T49 HR1.out i HI2.out.1 HI2.out.2.1
   subst er
   obtain ⟨r, hr⟩ : ∃ r, r = rd_T49 l1 i := ⟨_, rfl⟩
   have HRL := Aside0.mk (show r.f1.length ≤ 1000000000 by rw [hr]; exact HF.out.2 i HI2.out.1 HI2.out.2.1)
   rw [← hr] at hx0 hx1 hrc hrC
   have HRC := Aside0.mk (And.intro hrc hrC)
   replace hx0 := (HS.out.below.cell (World.block_lt_of_cell? _ _ hx0)).trans hx0
   replace hx1 := (HS.out.below.cell (World.block_lt_of_cell? _ _ hx1)).trans hx1
   have HP := Aside0.mk (show rd_T49 l1 (n : Int) = r by rw [hr, hi])
   have hz1 : i + 1 ≤ 9223372036854775807 := by have := HI2.out; have := HF.out.1; omega
   have hz2 : -9223372036854775808 ≤ i + 1 := by have := HI2.out; omega
   have HLT := Aside0.mk hlt
   clear hi hlt hr hrc hrC
   have HB0 := Aside0.mk (Below.refl wr.heap.size wr)
   obtain ⟨ko, hko⟩ : ∃ ko, ko = gk := ⟨_, rfl⟩
   have HKO := Aside0.mk hko
   clear hko
   go_upto_region 5 with (first | ((with_reducible refine gate_dst (N := 8) rfl ?_); refine box_event ?hg (N := 8) ?hd (cs := #[.bool false, .slice none 0 0]) (t := 49) ?hr ?_; (case hd => rfl); (case hg => rfl); (case hr => first | (go_simp; done) | (go_simp; rfl)); intro gr hg_R w9 hbox_ hb_; have n0_ := Aside0.mk (below_step HB0.out hb_); have BR := Aside0.mk hbox_; have GR := Aside0.mk (show wr.heap.size ≤ gr by rw [hg_R]; exact below_size HB0.out); have ER := Aside0.mk hg_R; have hcr0 : w9.cell? ⟨gr, 0, none⟩ = some (.bool false) := (blk_cell hbox_ 0).trans rfl; have hfr0 := blk_frozen hbox_ 0; have hcr1 : w9.cell? ⟨gr, 1, none⟩ = some (.slice none 0 0) := (blk_cell hbox_ 1).trans rfl; have hfr1 := blk_frozen hbox_ 1; replace hx0 := (hb_.cell (World.block_lt_of_cell? _ _ hx0)).trans hx0; replace hx1 := (hb_.cell (World.block_lt_of_cell? _ _ hx1)).trans hx1; clear HB0 hg_R hbox_ hb_; have HB0 := n0_; clear n0_))
   obtain ⟨w10, hw10⟩ : ∃ w10, w10 = (w9.setCell ⟨gr, 0, none⟩ (.bool r.f0)).setCell ⟨gr, 1, none⟩ (.slice Ar r.f1.length cr) := ⟨_, rfl⟩
   rw [← hw10]
   have BR10 := Aside0.mk (show w10.heap[gr]? = some (.cells #[.bool r.f0, .slice Ar r.f1.length cr] 49 (0, 0)) by rw [hw10]; exact blk_put2 BR.out _ _)
   have hb10 : Below wr.heap.size wr w10 := by rw [hw10]; exact below_put2 HB0.out GR.out _ _
   have HS10 := Aside0.mk (HS.out.later hb10)
   clear hw10 hb10 BR HB0 hcr0 hcr1 hfr0 hfr1 hx0 hx1 HS
   have hcr1 : w10.cell? ⟨gr, 1, none⟩ = some (.slice Ar r.f1.length cr) := (blk_cell BR10.out 1).trans rfl
   go_wp2
   go_loopg [22] r.f1.length (fun kq v22 wr => ∃ (m : Nat), v22 = .int .i64 m ∧ Aside0 (kq + m = r.f1.length) ∧ Aside0 (∀ j, j < m → moveB H K l1 n j = true) ∧ Aside0 (wr.heap[gr]? = some (.cells #[.bool r.f0, .slice Ar r.f1.length cr] 49 (0, 0))) ∧ Aside0 (RS w wr b gT g1 g2 g3 gh gq H K T (ahead l1 n m)))
   case atStart => exact ⟨0, rfl, ⟨by omega⟩, ⟨fun j hj => absurd hj (by omega)⟩, BR10, HS10⟩
   case round =>
    clear HS10 BR10 hcr1
    obtain ⟨m, rfl, HM, HQ, BR, HS⟩ := hrel
    by_cases hlt : m < r.f1.length
    ·obtain ⟨q, hq⟩ : ∃ q : Int, q = (m : Int) := ⟨_, rfl⟩
     rw [← hq]
     have HJ2 := Aside0.mk (show 0 ≤ q ∧ q < r.f1.length ∧ q = (m : Int) from ⟨by omega, by omega, hq⟩)
     have d8 : decide (q < (r.f1.length : Int)) = true := decide_eq_true HJ2.out.2.1
     have cj2 : (0 ≤ q) = True := eq_true HJ2.out.1
     have cj3 : (q < r.f1.length) = True := eq_true HJ2.out.2.1
     obtain ⟨adx, ex, hy0, hy1, hy2⟩ := at_T51 (Kd.C_below HRC.out.2 HS.out.below) q HJ2.out.1 HJ2.out.2.1
     subst ex
     obtain ⟨x, hx⟩ : ∃ x, x = rd_T51 r.f1 q := ⟨_, rfl⟩
     rw [← hx] at hy0 hy1 hy2
     have HX := Aside0.mk (show rd_T51 r.f1 (m : Int) = x by rw [hx, hq])
     have hz3 : q + 1 ≤ 9223372036854775807 := by have := HJ2.out; have := HRL.out; omega
     have hz4 : -9223372036854775808 ≤ q + 1 := by have := HJ2.out; omega
     have HLJ := Aside0.mk hlt
     obtain ⟨ms, hms⟩ : ∃ ms, ms = ahead l1 n m := ⟨_, rfl⟩
     rw [← hms] at HS
     have HMS := Aside0.mk hms
     have HMB := Aside0.mk (show moveB H K l1 n m = (fitsB H K x && !(setB (fun m => m.f0) ms x.f0).getD false && !(setB (fun m => m.f2) ms x.f2).getD false && !offB r m) by unfold moveB; rw [HP.out, HX.out, ← hms])
     clear hq hlt hx hms
     have HB0 := Aside0.mk (Below.refl wr.heap.size wr)
     go_upto_region 8 with (first | ((with_reducible refine gate_dst (N := 10) rfl ?_); refine box_event ?hg (N := 10) ?hd (cs := #[.int .i64 0, .int .i64 0, .int .i64 0]) (t := 51) ?hr ?_; (case hd => rfl); (case hg => rfl); (case hr => first | (go_simp; done) | (go_simp; rfl)); intro gx hg_X w9 hbox_ hb_; have n0_ := Aside0.mk (below_step HB0.out hb_); have BX := Aside0.mk hbox_; have GX := Aside0.mk (show wr.heap.size ≤ gx by rw [hg_X]; exact below_size HB0.out); have EX := Aside0.mk hg_X; have hcx0 : w9.cell? ⟨gx, 0, none⟩ = some (.int .i64 0) := (blk_cell hbox_ 0).trans rfl; have hfx0 := blk_frozen hbox_ 0; have hcx1 : w9.cell? ⟨gx, 1, none⟩ = some (.int .i64 0) := (blk_cell hbox_ 1).trans rfl; have hfx1 := blk_frozen hbox_ 1; have hcx2 : w9.cell? ⟨gx, 2, none⟩ = some (.int .i64 0) := (blk_cell hbox_ 2).trans rfl; have hfx2 := blk_frozen hbox_ 2; replace hy0 := (hb_.cell (World.block_lt_of_cell? _ _ hy0)).trans hy0; replace hy1 := (hb_.cell (World.block_lt_of_cell? _ _ hy1)).trans hy1; replace hy2 := (hb_.cell (World.block_lt_of_cell? _ _ hy2)).trans hy2; clear HB0 hg_X hbox_ hb_; have HB0 := n0_; clear n0_))
     obtain ⟨w11, hw11⟩ : ∃ w11, w11 = ((w9.setCell ⟨gx, 0, none⟩ (.int .i64 x.f0)).setCell ⟨gx, 1, none⟩ (.int .i64 x.f1)).setCell ⟨gx, 2, none⟩ (.int .i64 x.f2) := ⟨_, rfl⟩
     rw [← hw11]
     have BX11 := Aside0.mk (show w11.heap[gx]? = some (.cells #[.int .i64 x.f0, .int .i64 x.f1, .int .i64 x.f2] 51 (0, 0)) by rw [hw11]; exact blk_put3 BX.out _ _ _)
     have hb11 : Below wr.heap.size wr w11 := by rw [hw11]; exact below_put3 HB0.out GX.out _ _ _
     have HS11 := Aside0.mk (HS.out.later hb11)
     have BR11 := Aside0.mk (blk_below BR.out hb11)
     clear hw11 hb11 BX HB0 hcx0 hcx1 hcx2 hfx0 hfx1 hfx2 hy0 hy1 hy2 HS BR
     have hcx0 : w11.cell? ⟨gx, 0, none⟩ = some (.int .i64 x.f0) := (blk_cell BX11.out 0).trans rfl
     have hcx1 : w11.cell? ⟨gx, 1, none⟩ = some (.int .i64 x.f1) := (blk_cell BX11.out 1).trans rfl
     have hcx2 : w11.cell? ⟨gx, 2, none⟩ = some (.int .i64 x.f2) := (blk_cell BX11.out 2).trans rfl
     have hcT0 : w11.cell? ⟨gT, 0, none⟩ = some (.map (some g1)) := (blk_cell HS11.out.cell 0).trans rfl
     have hcT1 : w11.cell? ⟨gT, 1, none⟩ = some (.map (some g2)) := (blk_cell HS11.out.cell 1).trans rfl
     have hcT2 : w11.cell? ⟨gT, 2, none⟩ = some (.map (some g3)) := (blk_cell HS11.out.cell 2).trans rfl
     cases h1 : fitsB H K x with
     | false =>
      have HF1 := Aside0.mk h1
      have HZ := Aside0.mk (ringsB_false (T := T) HLT.out (ringB_false (T := T) (by rw [HP.out]; exact HLJ.out) (show moveB H K l1 n m = false by rw [HMB.out, h1]; rfl)))
      clear h1
      go_wp2_with (first | (go_at_call 37; (with_reducible refine (fits_calls _ b g1 g2 g3 H K T x HS11.out.town).mono ?_); rw [HF1.out]; rintro e w12 ⟨rfl, hb_⟩; have HS12 := Aside0.mk (HS11.out.later hb_); have BX12 := Aside0.mk (blk_below BX11.out hb_); have BR12 := Aside0.mk (blk_below BR11.out hb_); replace hcx0 := (hb_.cell (World.block_lt_of_cell? _ _ hcx0)).trans hcx0; replace hcx1 := (hb_.cell (World.block_lt_of_cell? _ _ hcx1)).trans hcx1; replace hcx2 := (hb_.cell (World.block_lt_of_cell? _ _ hcx2)).trans hcx2; clear hb_ hcT0 hcT1 hcT2))
      (try simp only [Exit.noGoto_ret])
      go_ret
      rw [HZ.out]
      exact ⟨rfl, HS12.out.below⟩
     | true =>
     have HF1 := Aside0.mk h1
     cases h2 : (setB (fun m => m.f0) ms x.f0).getD false with
     | true =>
      have HF2 := Aside0.mk h2
      have HZ := Aside0.mk (ringsB_false (T := T) HLT.out (ringB_false (T := T) (by rw [HP.out]; exact HLJ.out) (show moveB H K l1 n m = false by rw [HMB.out, h1, h2]; rfl)))
      clear h1 h2
      go_wp2_with (first | (go_at_call 37; (with_reducible refine (fits_calls _ b g1 g2 g3 H K T x HS11.out.town).mono ?_); rw [HF1.out]; rintro e w12 ⟨rfl, hb_⟩; have HS12 := Aside0.mk (HS11.out.later hb_); have BX12 := Aside0.mk (blk_below BX11.out hb_); have BR12 := Aside0.mk (blk_below BR11.out hb_); replace hcx0 := (hb_.cell (World.block_lt_of_cell? _ _ hcx0)).trans hcx0; replace hcx1 := (hb_.cell (World.block_lt_of_cell? _ _ hcx1)).trans hcx1; replace hcx2 := (hb_.cell (World.block_lt_of_cell? _ _ hcx2)).trans hcx2; clear hb_ hcT0 hcT1 hcT2) | ((with_reducible refine gate_ (op := .lookup 66 (.tmp 32) (.tmp 34) false) rfl ?_); (try (refine gate_guard (by rfl) ?_; dsimp only)); refine wpList_lookI _ rfl (.tmp 32) (.tmp 34) 66 false rfl 3 4 Try.underlying66 Try.underlying3 (Try.zeroValue4 _) gh (mapV vBool (setB (fun m => m.f0) ms)) rfl HS12.out.homes x.f0 rfl ?_; rw [if_neg (by decide), show (Value.bool false) = vBool false from rfl, mapV_get, HF2.out]; dsimp only [vBool]))
      (try simp only [Exit.noGoto_ret])
      go_ret
      rw [HZ.out]
      exact ⟨rfl, HS12.out.below⟩
     | false =>
     have HF2 := Aside0.mk h2
     cases h3 : (setB (fun m => m.f2) ms x.f2).getD false with
     | true =>
      have HF3 := Aside0.mk h3
      have HZ := Aside0.mk (ringsB_false (T := T) HLT.out (ringB_false (T := T) (by rw [HP.out]; exact HLJ.out) (show moveB H K l1 n m = false by rw [HMB.out, h1, h2, h3]; rfl)))
      clear h1 h2 h3
      go_wp2_with (first | (go_at_call 37; (with_reducible refine (fits_calls _ b g1 g2 g3 H K T x HS11.out.town).mono ?_); rw [HF1.out]; rintro e w12 ⟨rfl, hb_⟩; have HS12 := Aside0.mk (HS11.out.later hb_); have BX12 := Aside0.mk (blk_below BX11.out hb_); have BR12 := Aside0.mk (blk_below BR11.out hb_); replace hcx0 := (hb_.cell (World.block_lt_of_cell? _ _ hcx0)).trans hcx0; replace hcx1 := (hb_.cell (World.block_lt_of_cell? _ _ hcx1)).trans hcx1; replace hcx2 := (hb_.cell (World.block_lt_of_cell? _ _ hcx2)).trans hcx2; clear hb_ hcT0 hcT1 hcT2) | ((with_reducible refine gate_ (op := .lookup 66 (.tmp 32) (.tmp 34) false) rfl ?_); (try (refine gate_guard (by rfl) ?_; dsimp only)); refine wpList_lookI _ rfl (.tmp 32) (.tmp 34) 66 false rfl 3 4 Try.underlying66 Try.underlying3 (Try.zeroValue4 _) gh (mapV vBool (setB (fun m => m.f0) ms)) rfl HS12.out.homes x.f0 rfl ?_; rw [if_neg (by decide), show (Value.bool false) = vBool false from rfl, mapV_get, HF2.out]; dsimp only [vBool]) | ((with_reducible refine gate_ (op := .lookup 66 (.tmp 38) (.tmp 40) false) rfl ?_); (try (refine gate_guard (by rfl) ?_; dsimp only)); refine wpList_lookI _ rfl (.tmp 38) (.tmp 40) 66 false rfl 3 4 Try.underlying66 Try.underlying3 (Try.zeroValue4 _) gq (mapV vBool (setB (fun m => m.f2) ms)) rfl HS12.out.goals x.f2 rfl ?_; rw [if_neg (by decide), show (Value.bool false) = vBool false from rfl, mapV_get, HF3.out]; dsimp only [vBool]))
      (try simp only [Exit.noGoto_ret])
      go_ret
      rw [HZ.out]
      exact ⟨rfl, HS12.out.below⟩
     | false =>
     have HF3 := Aside0.mk h3
     have HMB2 := Aside0.mk (show moveB H K l1 n m = !offB r m by rw [HMB.out, h1, h2, h3]; rfl)
     clear h1 h2 h3
     go_upto_region 10 with (first | (go_at_call 37; (with_reducible refine (fits_calls _ b g1 g2 g3 H K T x HS11.out.town).mono ?_); rw [HF1.out]; rintro e w12 ⟨rfl, hb_⟩; have HS12 := Aside0.mk (HS11.out.later hb_); have BX12 := Aside0.mk (blk_below BX11.out hb_); have BR12 := Aside0.mk (blk_below BR11.out hb_); replace hcx0 := (hb_.cell (World.block_lt_of_cell? _ _ hcx0)).trans hcx0; replace hcx1 := (hb_.cell (World.block_lt_of_cell? _ _ hcx1)).trans hcx1; replace hcx2 := (hb_.cell (World.block_lt_of_cell? _ _ hcx2)).trans hcx2; clear hb_ hcT0 hcT1 hcT2) | ((with_reducible refine gate_ (op := .lookup 66 (.tmp 32) (.tmp 34) false) rfl ?_); (try (refine gate_guard (by rfl) ?_; dsimp only)); refine wpList_lookI _ rfl (.tmp 32) (.tmp 34) 66 false rfl 3 4 Try.underlying66 Try.underlying3 (Try.zeroValue4 _) gh (mapV vBool (setB (fun m => m.f0) ms)) rfl HS12.out.homes x.f0 rfl ?_; rw [if_neg (by decide), show (Value.bool false) = vBool false from rfl, mapV_get, HF2.out]; dsimp only [vBool]) | ((with_reducible refine gate_ (op := .lookup 66 (.tmp 38) (.tmp 40) false) rfl ?_); (try (refine gate_guard (by rfl) ?_; dsimp only)); refine wpList_lookI _ rfl (.tmp 38) (.tmp 40) 66 false rfl 3 4 Try.underlying66 Try.underlying3 (Try.zeroValue4 _) gq (mapV vBool (setB (fun m => m.f2) ms)) rfl HS12.out.goals x.f2 rfl ?_; rw [if_neg (by decide), show (Value.bool false) = vBool false from rfl, mapV_get, HF3.out]; dsimp only [vBool]))
     refine start_ (n := 8) (S := fun w' => w'.cell? ⟨gx, 0, none⟩ = some (.int .i64 x.f0) ∧ w'.cell? ⟨gx, 2, none⟩ = some (.int .i64 x.f2)) (ds := []) #[n_, n_, n_, n_, n_, n_, n_, n_] (by kernel_rfl) rfl rfl ⟨hcx0, hcx2⟩ (fun hHeld => ?_)
     refine pv_ 0 43 (w_ 8 1) rfl ?_
     refine pv_ 1 44 (w_ 8 3) rfl ?_
     refine pv_ 3 46 (w_ 8 11) rfl ?_
     refine pv_ 4 47 (w_ 8 27) rfl ?_
     refine tb_ 2 45 (w_ 8 31) rfl hHeld (by rintro w' ⟨s0, s1⟩; go_simp; with_reducible rfl) ?_
     refine tb_ 5 48 (w_ 8 63) rfl hHeld (by rintro w' ⟨s0, s1⟩; go_simp; with_reducible rfl) ?_
     refine one_ (i := 6) (N := none) (w_ 8 127) rfl rfl (by kernel_rfl) (by decide) (fun K hK => ?_)
     obtain ⟨w13, hrun_, hm_, hg_⟩ := run_storeI (P := Try.prog) (t := 66) (kt := 3) (et := 4) HS12.out.homes.drew Try.underlying66 Try.underlying3 x.f0 (.bool true)
     have HM13 := Aside0.mk hm_
     have HG13 := Aside0.mk hg_
     refine skip_ (w1 := w13) (by rfl) rfl ?_ ?_
     ·go_simp
      try (first | (rw [hrun_]; done) | (rw [hrun_]; rfl) | rfl)
     clear hrun_ hm_ hg_
     have BX13 := Aside0.mk (blk_grown (show w12.drew.heap[gx]? = _ from BX12.out) HG13.out (HS12.out.homes.ne_blk BX12.out))
     have BR13 := Aside0.mk (blk_grown (show w12.drew.heap[gr]? = _ from BR12.out) HG13.out (HS12.out.homes.ne_blk BR12.out))
     have HQ13 := Aside0.mk (HS12.out.goals.drew.kept HG13.out (fun e_ => HS12.out.ne.2.2.2.2.2.2 (by cases e_; rfl)))
     refine hK.out _ _ ⟨(blk_cell BX13.out 0).trans rfl, (blk_cell BX13.out 2).trans rfl⟩ (fun hHeld => ?_)
     clear hK K
     refine one_ (i := 7) (N := none) (w_ 8 255) rfl rfl (by kernel_rfl) (by decide) (fun K hK => ?_)
     obtain ⟨w14, hrun_, hm_, hg_⟩ := run_storeI (P := Try.prog) (t := 66) (kt := 3) (et := 4) HQ13.out Try.underlying66 Try.underlying3 x.f2 (.bool true)
     have HM14 := Aside0.mk hm_
     have HG14 := Aside0.mk hg_
     refine skip_ (w1 := w14) (by rfl) rfl ?_ ?_
     ·go_simp
      try (first | (rw [hrun_]; done) | (rw [hrun_]; rfl) | rfl)
     clear hrun_ hm_ hg_
     have BX14 := Aside0.mk (blk_grown BX13.out HG14.out (HQ13.out.ne_blk BX13.out))
     have BR14 := Aside0.mk (blk_grown BR13.out HG14.out (HQ13.out.ne_blk BR13.out))
     refine hK.out _ _ ⟨(blk_cell BX14.out 0).trans rfl, (blk_cell BX14.out 2).trans rfl⟩ (fun hHeld => ?_)
     clear hK K
     refine done_ (by kernel_rfl) ?_
     go_upto_region 11 with (fail)
     have HS14 := Aside0.mk (HS12.out.later (below_drew (Below.refl _ _)) |>.step x HM13.out HG13.out HM14.out HG14.out)
     have HMS2 := Aside0.mk (show ms ++ [x] = ahead l1 n (m + 1) by rw [ahead_succ l1 n m (by rw [HP.out]; exact HLJ.out), HP.out, HX.out, HMS.out])
     clear hcx0 hcx1 hcx2 hHeld
     have hcx1 : w14.cell? ⟨gx, 1, none⟩ = some (.int .i64 x.f1) := (blk_cell BX14.out 1).trans rfl
     have hcx2 : w14.cell? ⟨gx, 2, none⟩ = some (.int .i64 x.f2) := (blk_cell BX14.out 2).trans rfl
     have hcr0 : w14.cell? ⟨gr, 0, none⟩ = some (.bool r.f0) := (blk_cell BR14.out 0).trans rfl
     have hcr1 : w14.cell? ⟨gr, 1, none⟩ = some (.slice (some adx) r.f1.length cr) := (blk_cell BR14.out 1).trans rfl
     have hl0 : ((r.f1.length : Int) = 0) = False := eq_false (by have := HLJ.out; omega)
     have hl2 : (r.f1 = []) = False := eq_false (fun e => by have := HLJ.out; rw [e] at this; simp at this)
     have hl3 : (r.f1.length = 0) = False := eq_false (by have := HLJ.out; omega)
     have hl1 : ((r.f1.length : Int) == 0) = false := beq_eq_false_iff_ne.2 (by have := HLJ.out; omega)
     by_cases hi0 : 0 < q
     ·have u0 : decide (0 < q) = true := decide_eq_true hi0
      have HI0 := Aside0.mk hi0
      have HM0 := Aside0.mk (show decide (0 < m) = true from decide_eq_true (by have := HJ2.out; omega))
      clear hi0
      rcases Bool.eq_false_or_eq_true r.f0 with hch | hch
      ·have HCH := Aside0.mk hch
       rw [hch] at hcr0
       clear hch
       obtain ⟨z, hz⟩ : ∃ z, z = q - 1 := ⟨_, rfl⟩
       have hq0 : wrap64 (q - 1) = z := by rw [hz]; unfold wrap64; have := HJ2.out; have := HRL.out; omega
       have HZR := Aside0.mk (show 0 ≤ z ∧ z < r.f1.length from ⟨by have := HI0.out; omega, by have := HJ2.out; omega⟩)
       have hq3 : (0 ≤ z) = True := eq_true HZR.out.1
       have hq4 : (z < r.f1.length) = True := eq_true HZR.out.2
       obtain ⟨adx', ex', hv0, hv1, hv2⟩ := at_T51 (Kd.C_below HRC.out.2 HS14.out.below) z HZR.out.1 HZR.out.2
       cases ex'
       obtain ⟨y, hy⟩ : ∃ y, y = (rd_T51 r.f1 z).f1 := ⟨_, rfl⟩
       rw [← hy] at hv1
       have HY := Aside0.mk (show y = (rd_T51 r.f1 ((m : Int) - 1)).f1 by rw [hy, hz, HJ2.out.2.2])
       clear hy hv0 hv2 hz
       cases hne : (x.f2 != y) with
       | true =>
        have HOF := Aside0.mk (show offB r m = true by unfold offB; rw [HX.out]; rw [HM0.out, HCH.out, ← HY.out, hne]; rfl)
        have HZ := Aside0.mk (ringsB_false (T := T) HLT.out (ringB_false (T := T) (by rw [HP.out]; exact HLJ.out) (show moveB H K l1 n m = false by rw [HMB2.out, HOF.out]; rfl)))
        refine start_ (n := 44) (S := fun w' => w'.cell? ⟨gx, 1, none⟩ = some (.int .i64 x.f1) ∧ w'.cell? ⟨gx, 2, none⟩ = some (.int .i64 x.f2) ∧ w'.cell? ⟨gr, 0, none⟩ = some (.bool true) ∧ w'.cell? ⟨gr, 1, none⟩ = some (.slice (some adx) r.f1.length cr) ∧ w'.cell? ⟨(adx.add (z.toNat * 3)).block, (adx.add (z.toNat * 3)).off + 1, none⟩ = some (.int .i64 y)) (ds := []) #[n_, n_, n_, n_, n_, n_, n_, n_, n_, n_, n_, n_, n_, n_, n_, n_, n_, n_, n_, n_, n_, n_, n_, n_, n_, n_, n_, n_, n_, n_, n_, n_, n_, n_, n_, n_, n_, n_, n_, n_, n_, n_, n_, n_] (by kernel_rfl) rfl rfl ⟨hcx1, hcx2, hcr0, hcr1, hv1⟩ (fun hHeld => ?_)
        refine pv_ 0 49 (w_ 44 1) rfl ?_
        refine pv_ 1 50 (w_ 44 3) rfl ?_
        refine pv_ 2 51 (w_ 44 7) rfl ?_
        refine pv_ 3 52 (w_ 44 15) rfl ?_
        refine tb_ 4 53 (w_ 44 31) rfl hHeld (by rintro w' ⟨s0, s1, s2, s3, s4⟩; go_simp; with_reducible rfl) ?_
        refine pv_ 5 54 (w_ 44 63) rfl ?_
        refine pv_ 6 55 (w_ 44 127) rfl ?_
        refine pv_ 7 56 (w_ 44 255) rfl ?_
        refine pv_ 9 58 (w_ 44 767) rfl ?_
        refine pv_ 11 60 (w_ 44 2815) rfl ?_
        refine pv_ 12 61 (w_ 44 6911) rfl ?_
        refine tb_ 8 57 (w_ 44 7167) rfl hHeld (by rintro w' ⟨s0, s1, s2, s3, s4⟩; go_simp; with_reducible rfl) ?_
        refine tb_ 10 59 (w_ 44 8191) rfl hHeld (by rintro w' ⟨s0, s1, s2, s3, s4⟩; go_simp; with_reducible rfl) ?_
        refine pv_ 13 62 (w_ 44 16383) rfl ?_
        refine pv_ 14 63 (w_ 44 32767) rfl ?_
        refine tb_ 15 64 (w_ 44 65535) rfl hHeld (by rintro w' ⟨s0, s1, s2, s3, s4⟩; go_simp; with_reducible rfl) ?_
        refine pv_ 16 65 (w_ 44 131071) rfl ?_
        refine pv_ 17 66 (w_ 44 262143) rfl ?_
        refine pv_ 18 67 (w_ 44 524287) rfl ?_
        refine po_ 19 68 (w_ 44 1048575) rfl ?_
        refine po_ 20 69 (w_ 44 2097151) rfl ?_
        refine po_ 21 70 (w_ 44 4194303) rfl ?_
        refine po_ 22 71 (w_ 44 8388607) rfl ?_
        refine po_ 23 72 (w_ 44 16777215) rfl ?_
        refine po_ 24 73 (w_ 44 33554431) rfl ?_
        refine po_ 25 74 (w_ 44 67108863) rfl ?_
        refine po_ 26 75 (w_ 44 134217727) rfl ?_
        refine po_ 27 76 (w_ 44 268435455) rfl ?_
        refine po_ 28 77 (w_ 44 536870911) rfl ?_
        refine po_ 29 78 (w_ 44 1073741823) rfl ?_
        refine po_ 30 79 (w_ 44 2147483647) rfl ?_
        refine po_ 31 80 (w_ 44 4294967295) rfl ?_
        refine po_ 32 81 (w_ 44 8589934591) rfl ?_
        refine po_ 33 82 (w_ 44 17179869183) rfl ?_
        refine po_ 34 83 (w_ 44 34359738367) rfl ?_
        refine po_ 35 84 (w_ 44 68719476735) rfl ?_
        refine po_ 36 85 (w_ 44 137438953471) rfl ?_
        refine po_ 37 86 (w_ 44 274877906943) rfl ?_
        refine po_ 38 87 (w_ 44 549755813887) rfl ?_
        refine po_ 39 88 (w_ 44 1099511627775) rfl ?_
        refine po_ 40 89 (w_ 44 2199023255551) rfl ?_
        refine po_ 41 90 (w_ 44 4398046511103) rfl ?_
        refine po_ 42 91 (w_ 44 8796093022207) rfl ?_
        refine pv_ 43 92 (w_ 44 17592186044415) rfl ?_
        refine done_ (by kernel_rfl) ?_
        go_wp2_with (fail)
        (try simp only [Exit.noGoto_ret])
        go_ret
        rw [HZ.out]
        exact ⟨rfl, HS14.out.below.drew⟩
       | false =>
        have HOF := Aside0.mk (show offB r m = false by unfold offB; rw [HX.out]; rw [HM0.out, HCH.out, ← HY.out, hne]; rfl)
        have HMT := Aside0.mk (show moveB H K l1 n m = true by rw [HMB2.out, HOF.out]; rfl)
        refine start_ (n := 44) (S := fun w' => w'.cell? ⟨gx, 1, none⟩ = some (.int .i64 x.f1) ∧ w'.cell? ⟨gx, 2, none⟩ = some (.int .i64 x.f2) ∧ w'.cell? ⟨gr, 0, none⟩ = some (.bool true) ∧ w'.cell? ⟨gr, 1, none⟩ = some (.slice (some adx) r.f1.length cr) ∧ w'.cell? ⟨(adx.add (z.toNat * 3)).block, (adx.add (z.toNat * 3)).off + 1, none⟩ = some (.int .i64 y)) (ds := []) #[n_, n_, n_, n_, n_, n_, n_, n_, n_, n_, n_, n_, n_, n_, n_, n_, n_, n_, n_, n_, n_, n_, n_, n_, n_, n_, n_, n_, n_, n_, n_, n_, n_, n_, n_, n_, n_, n_, n_, n_, n_, n_, n_, n_] (by kernel_rfl) rfl rfl ⟨hcx1, hcx2, hcr0, hcr1, hv1⟩ (fun hHeld => ?_)
        refine pv_ 0 49 (w_ 44 1) rfl ?_
        refine pv_ 1 50 (w_ 44 3) rfl ?_
        refine pv_ 2 51 (w_ 44 7) rfl ?_
        refine pv_ 3 52 (w_ 44 15) rfl ?_
        refine tb_ 4 53 (w_ 44 31) rfl hHeld (by rintro w' ⟨s0, s1, s2, s3, s4⟩; go_simp; with_reducible rfl) ?_
        refine pv_ 5 54 (w_ 44 63) rfl ?_
        refine pv_ 6 55 (w_ 44 127) rfl ?_
        refine pv_ 7 56 (w_ 44 255) rfl ?_
        refine pv_ 9 58 (w_ 44 767) rfl ?_
        refine pv_ 11 60 (w_ 44 2815) rfl ?_
        refine pv_ 12 61 (w_ 44 6911) rfl ?_
        refine tb_ 8 57 (w_ 44 7167) rfl hHeld (by rintro w' ⟨s0, s1, s2, s3, s4⟩; go_simp; with_reducible rfl) ?_
        refine tb_ 10 59 (w_ 44 8191) rfl hHeld (by rintro w' ⟨s0, s1, s2, s3, s4⟩; go_simp; with_reducible rfl) ?_
        refine pv_ 13 62 (w_ 44 16383) rfl ?_
        refine pv_ 14 63 (w_ 44 32767) rfl ?_
        refine tb_ 15 64 (w_ 44 65535) rfl hHeld (by rintro w' ⟨s0, s1, s2, s3, s4⟩; go_simp; with_reducible rfl) ?_
        refine pv_ 16 65 (w_ 44 131071) rfl ?_
        refine pv_ 17 66 (w_ 44 262143) rfl ?_
        refine pv_ 18 67 (w_ 44 524287) rfl ?_
        refine pv_ 19 68 (w_ 44 1048575) rfl ?_
        refine tb_ 20 69 (w_ 44 2097151) rfl hHeld (by rintro w' ⟨s0, s1, s2, s3, s4⟩; go_simp; with_reducible rfl) ?_
        refine pv_ 21 70 (w_ 44 4194303) rfl ?_
        refine pv_ 22 71 (w_ 44 8388607) rfl ?_
        refine po_ 23 72 (w_ 44 16777215) rfl ?_
        refine po_ 24 73 (w_ 44 33554431) rfl ?_
        refine po_ 25 74 (w_ 44 67108863) rfl ?_
        refine po_ 26 75 (w_ 44 134217727) rfl ?_
        refine po_ 27 76 (w_ 44 268435455) rfl ?_
        refine po_ 28 77 (w_ 44 536870911) rfl ?_
        refine po_ 29 78 (w_ 44 1073741823) rfl ?_
        refine po_ 30 79 (w_ 44 2147483647) rfl ?_
        refine po_ 31 80 (w_ 44 4294967295) rfl ?_
        refine po_ 32 81 (w_ 44 8589934591) rfl ?_
        refine po_ 33 82 (w_ 44 17179869183) rfl ?_
        refine po_ 34 83 (w_ 44 34359738367) rfl ?_
        refine po_ 35 84 (w_ 44 68719476735) rfl ?_
        refine po_ 36 85 (w_ 44 137438953471) rfl ?_
        refine po_ 37 86 (w_ 44 274877906943) rfl ?_
        refine po_ 38 87 (w_ 44 549755813887) rfl ?_
        refine po_ 39 88 (w_ 44 1099511627775) rfl ?_
        refine po_ 40 89 (w_ 44 2199023255551) rfl ?_
        refine po_ 41 90 (w_ 44 4398046511103) rfl ?_
        refine pv_ 42 91 (w_ 44 8796093022207) rfl ?_
        refine pv_ 43 92 (w_ 44 17592186044415) rfl ?_
        refine done_ (by kernel_rfl) ?_
        go_wp2_with (fail)
        go_roundg (gk - 1)
        case measure => have := HM.out; have := HLJ.out; omega
        case rel =>
         refine ⟨m + 1, ?_, ⟨by have := HM.out; have := HLJ.out; omega⟩, ⟨fun j hj => ?_⟩, BR14, ⟨?_⟩⟩
         ·have := HJ2.out
          first | (rw [show ((m + 1 : Nat) : Int) = q + 1 from by omega]; done) | (simp; omega)
         ·by_cases e : j = m
          ·rw [e]; exact HMT.out
          ·exact HQ.out j (by omega)
         ·rw [← HMS2.out]
          exact HS14.out.later (below_drew (Below.refl _ _))
      ·have HCH := Aside0.mk hch
       rw [hch] at hcr0
       clear hch
       cases hfr : (x.f1 == 0) with
       | true =>
        have HOF := Aside0.mk (show offB r m = true by unfold offB; rw [HX.out]; rw [HCH.out, hfr, Bool.and_false]; rfl)
        have HZ := Aside0.mk (ringsB_false (T := T) HLT.out (ringB_false (T := T) (by rw [HP.out]; exact HLJ.out) (show moveB H K l1 n m = false by rw [HMB2.out, HOF.out]; rfl)))
        refine start_ (n := 44) (S := fun w' => w'.cell? ⟨gx, 1, none⟩ = some (.int .i64 x.f1) ∧ w'.cell? ⟨gx, 2, none⟩ = some (.int .i64 x.f2) ∧ w'.cell? ⟨gr, 0, none⟩ = some (.bool false) ∧ w'.cell? ⟨gr, 1, none⟩ = some (.slice (some adx) r.f1.length cr)) (ds := []) #[n_, n_, n_, n_, n_, n_, n_, n_, n_, n_, n_, n_, n_, n_, n_, n_, n_, n_, n_, n_, n_, n_, n_, n_, n_, n_, n_, n_, n_, n_, n_, n_, n_, n_, n_, n_, n_, n_, n_, n_, n_, n_, n_, n_] (by kernel_rfl) rfl rfl ⟨hcx1, hcx2, hcr0, hcr1⟩ (fun hHeld => ?_)
        refine pv_ 0 49 (w_ 44 1) rfl ?_
        refine pv_ 1 50 (w_ 44 3) rfl ?_
        refine pv_ 2 51 (w_ 44 7) rfl ?_
        refine pv_ 3 52 (w_ 44 15) rfl ?_
        refine tb_ 4 53 (w_ 44 31) rfl hHeld (by rintro w' ⟨s0, s1, s2, s3⟩; go_simp; with_reducible rfl) ?_
        refine pv_ 5 54 (w_ 44 63) rfl ?_
        refine pv_ 6 55 (w_ 44 127) rfl ?_
        refine po_ 7 56 (w_ 44 255) rfl ?_
        refine po_ 8 57 (w_ 44 511) rfl ?_
        refine po_ 9 58 (w_ 44 1023) rfl ?_
        refine po_ 10 59 (w_ 44 2047) rfl ?_
        refine po_ 11 60 (w_ 44 4095) rfl ?_
        refine po_ 12 61 (w_ 44 8191) rfl ?_
        refine po_ 13 62 (w_ 44 16383) rfl ?_
        refine po_ 14 63 (w_ 44 32767) rfl ?_
        refine po_ 15 64 (w_ 44 65535) rfl ?_
        refine po_ 16 65 (w_ 44 131071) rfl ?_
        refine pv_ 17 66 (w_ 44 262143) rfl ?_
        refine pv_ 18 67 (w_ 44 524287) rfl ?_
        refine pv_ 19 68 (w_ 44 1048575) rfl ?_
        refine tb_ 20 69 (w_ 44 2097151) rfl hHeld (by rintro w' ⟨s0, s1, s2, s3⟩; go_simp; with_reducible rfl) ?_
        refine pv_ 21 70 (w_ 44 4194303) rfl ?_
        refine pv_ 22 71 (w_ 44 8388607) rfl ?_
        refine pv_ 23 72 (w_ 44 16777215) rfl ?_
        refine tb_ 24 73 (w_ 44 33554431) rfl hHeld (by rintro w' ⟨s0, s1, s2, s3⟩; go_simp; with_reducible rfl) ?_
        refine pv_ 25 74 (w_ 44 67108863) rfl ?_
        refine pv_ 26 75 (w_ 44 134217727) rfl ?_
        refine po_ 27 76 (w_ 44 268435455) rfl ?_
        refine po_ 28 77 (w_ 44 536870911) rfl ?_
        refine po_ 29 78 (w_ 44 1073741823) rfl ?_
        refine po_ 30 79 (w_ 44 2147483647) rfl ?_
        refine po_ 31 80 (w_ 44 4294967295) rfl ?_
        refine po_ 32 81 (w_ 44 8589934591) rfl ?_
        refine po_ 33 82 (w_ 44 17179869183) rfl ?_
        refine po_ 34 83 (w_ 44 34359738367) rfl ?_
        refine po_ 35 84 (w_ 44 68719476735) rfl ?_
        refine po_ 36 85 (w_ 44 137438953471) rfl ?_
        refine po_ 37 86 (w_ 44 274877906943) rfl ?_
        refine po_ 38 87 (w_ 44 549755813887) rfl ?_
        refine po_ 39 88 (w_ 44 1099511627775) rfl ?_
        refine po_ 40 89 (w_ 44 2199023255551) rfl ?_
        refine pv_ 41 90 (w_ 44 4398046511103) rfl ?_
        refine pv_ 42 91 (w_ 44 8796093022207) rfl ?_
        refine pv_ 43 92 (w_ 44 17592186044415) rfl ?_
        refine done_ (by kernel_rfl) ?_
        go_wp2_with (fail)
        (try simp only [Exit.noGoto_ret])
        go_ret
        rw [HZ.out]
        exact ⟨rfl, HS14.out.below.drew⟩
       | false =>
        obtain ⟨z, hz⟩ : ∃ z, z = Int.tmod (q + 1) (r.f1.length : Int) := ⟨_, rfl⟩
        have hq0 : wrap64 (q + 1) = q + 1 := by unfold wrap64; have := HJ2.out; have := HRL.out; omega
        have hzz : Int.tmod (q + 1) (r.f1.length : Int) = z := hz.symm
        have HZR := Aside0.mk (show 0 ≤ z ∧ z < r.f1.length from by rw [hz]; exact ⟨Int.tmod_nonneg _ (by have := HJ2.out; omega), Int.tmod_lt_of_pos _ (by have := HLJ.out; omega)⟩)
        have hz5 : (0 ≤ z) = True := eq_true HZR.out.1
        have hz6 : (z < r.f1.length) = True := eq_true HZR.out.2
        obtain ⟨adx', ex', hv0, hv1, hv2⟩ := at_T51 (Kd.C_below HRC.out.2 HS14.out.below) z HZR.out.1 HZR.out.2
        cases ex'
        obtain ⟨y, hy⟩ : ∃ y, y = (rd_T51 r.f1 z).f1 := ⟨_, rfl⟩
        rw [← hy] at hv1
        have HY := Aside0.mk (show y = (rd_T51 r.f1 (Int.tmod ((m : Int) + 1) (r.f1.length : Int))).f1 by rw [hy, hz, HJ2.out.2.2])
        clear hy hv0 hv2 hz
        cases hne : (x.f2 != y) with
        | true =>
         have HOF := Aside0.mk (show offB r m = true by unfold offB; rw [HX.out]; rw [HCH.out, hfr, ← HY.out, hne, Bool.and_false]; rfl)
         have HZ := Aside0.mk (ringsB_false (T := T) HLT.out (ringB_false (T := T) (by rw [HP.out]; exact HLJ.out) (show moveB H K l1 n m = false by rw [HMB2.out, HOF.out]; rfl)))
         refine start_ (n := 44) (S := fun w' => w'.cell? ⟨gx, 1, none⟩ = some (.int .i64 x.f1) ∧ w'.cell? ⟨gx, 2, none⟩ = some (.int .i64 x.f2) ∧ w'.cell? ⟨gr, 0, none⟩ = some (.bool false) ∧ w'.cell? ⟨gr, 1, none⟩ = some (.slice (some adx) r.f1.length cr) ∧ w'.cell? ⟨(adx.add (z.toNat * 3)).block, (adx.add (z.toNat * 3)).off + 1, none⟩ = some (.int .i64 y)) (ds := []) #[n_, n_, n_, n_, n_, n_, n_, n_, n_, n_, n_, n_, n_, n_, n_, n_, n_, n_, n_, n_, n_, n_, n_, n_, n_, n_, n_, n_, n_, n_, n_, n_, n_, n_, n_, n_, n_, n_, n_, n_, n_, n_, n_, n_] (by kernel_rfl) rfl rfl ⟨hcx1, hcx2, hcr0, hcr1, hv1⟩ (fun hHeld => ?_)
         refine pv_ 0 49 (w_ 44 1) rfl ?_
         refine pv_ 1 50 (w_ 44 3) rfl ?_
         refine pv_ 2 51 (w_ 44 7) rfl ?_
         refine pv_ 3 52 (w_ 44 15) rfl ?_
         refine tb_ 4 53 (w_ 44 31) rfl hHeld (by rintro w' ⟨s0, s1, s2, s3, s4⟩; go_simp; with_reducible rfl) ?_
         refine pv_ 5 54 (w_ 44 63) rfl ?_
         refine pv_ 6 55 (w_ 44 127) rfl ?_
         refine po_ 7 56 (w_ 44 255) rfl ?_
         refine po_ 8 57 (w_ 44 511) rfl ?_
         refine po_ 9 58 (w_ 44 1023) rfl ?_
         refine po_ 10 59 (w_ 44 2047) rfl ?_
         refine po_ 11 60 (w_ 44 4095) rfl ?_
         refine po_ 12 61 (w_ 44 8191) rfl ?_
         refine po_ 13 62 (w_ 44 16383) rfl ?_
         refine po_ 14 63 (w_ 44 32767) rfl ?_
         refine po_ 15 64 (w_ 44 65535) rfl ?_
         refine po_ 16 65 (w_ 44 131071) rfl ?_
         refine pv_ 17 66 (w_ 44 262143) rfl ?_
         refine pv_ 18 67 (w_ 44 524287) rfl ?_
         refine pv_ 19 68 (w_ 44 1048575) rfl ?_
         refine tb_ 20 69 (w_ 44 2097151) rfl hHeld (by rintro w' ⟨s0, s1, s2, s3, s4⟩; go_simp; with_reducible rfl) ?_
         refine pv_ 21 70 (w_ 44 4194303) rfl ?_
         refine pv_ 22 71 (w_ 44 8388607) rfl ?_
         refine pv_ 23 72 (w_ 44 16777215) rfl ?_
         refine tb_ 24 73 (w_ 44 33554431) rfl hHeld (by rintro w' ⟨s0, s1, s2, s3, s4⟩; go_simp; with_reducible rfl) ?_
         refine pv_ 25 74 (w_ 44 67108863) rfl ?_
         refine pv_ 26 75 (w_ 44 134217727) rfl ?_
         refine pv_ 27 76 (w_ 44 268435455) rfl ?_
         refine pv_ 29 78 (w_ 44 805306367) rfl ?_
         refine pv_ 31 80 (w_ 44 2952790015) rfl ?_
         refine pv_ 32 81 (w_ 44 7247757311) rfl ?_
         refine pv_ 33 82 (w_ 44 15837691903) rfl ?_
         refine tb_ 28 77 (w_ 44 16106127359) rfl hHeld (by rintro w' ⟨s0, s1, s2, s3, s4⟩; go_simp; with_reducible rfl) ?_
         refine tb_ 30 79 (w_ 44 17179869183) rfl hHeld (by rintro w' ⟨s0, s1, s2, s3, s4⟩; go_simp; with_reducible rfl) ?_
         refine tb_ 34 83 (w_ 44 34359738367) rfl hHeld (by rintro w' ⟨s0, s1, s2, s3, s4⟩; go_simp; with_reducible rfl) ?_
         refine pv_ 35 84 (w_ 44 68719476735) rfl ?_
         refine pv_ 36 85 (w_ 44 137438953471) rfl ?_
         refine pv_ 37 86 (w_ 44 274877906943) rfl ?_
         refine pv_ 38 87 (w_ 44 549755813887) rfl ?_
         refine tb_ 39 88 (w_ 44 1099511627775) rfl hHeld (by rintro w' ⟨s0, s1, s2, s3, s4⟩; go_simp; with_reducible rfl) ?_
         refine pv_ 40 89 (w_ 44 2199023255551) rfl ?_
         refine pv_ 41 90 (w_ 44 4398046511103) rfl ?_
         refine pv_ 42 91 (w_ 44 8796093022207) rfl ?_
         refine pv_ 43 92 (w_ 44 17592186044415) rfl ?_
         refine done_ (by kernel_rfl) ?_
         go_wp2_with (fail)
         (try simp only [Exit.noGoto_ret])
         go_ret
         rw [HZ.out]
         exact ⟨rfl, HS14.out.below.drew⟩
        | false =>
         have HOF := Aside0.mk (show offB r m = false by unfold offB; rw [HX.out]; rw [HCH.out, hfr, ← HY.out, hne, Bool.and_false]; rfl)
         have HMT := Aside0.mk (show moveB H K l1 n m = true by rw [HMB2.out, HOF.out]; rfl)
         refine start_ (n := 44) (S := fun w' => w'.cell? ⟨gx, 1, none⟩ = some (.int .i64 x.f1) ∧ w'.cell? ⟨gx, 2, none⟩ = some (.int .i64 x.f2) ∧ w'.cell? ⟨gr, 0, none⟩ = some (.bool false) ∧ w'.cell? ⟨gr, 1, none⟩ = some (.slice (some adx) r.f1.length cr) ∧ w'.cell? ⟨(adx.add (z.toNat * 3)).block, (adx.add (z.toNat * 3)).off + 1, none⟩ = some (.int .i64 y)) (ds := []) #[n_, n_, n_, n_, n_, n_, n_, n_, n_, n_, n_, n_, n_, n_, n_, n_, n_, n_, n_, n_, n_, n_, n_, n_, n_, n_, n_, n_, n_, n_, n_, n_, n_, n_, n_, n_, n_, n_, n_, n_, n_, n_, n_, n_] (by kernel_rfl) rfl rfl ⟨hcx1, hcx2, hcr0, hcr1, hv1⟩ (fun hHeld => ?_)
         refine pv_ 0 49 (w_ 44 1) rfl ?_
         refine pv_ 1 50 (w_ 44 3) rfl ?_
         refine pv_ 2 51 (w_ 44 7) rfl ?_
         refine pv_ 3 52 (w_ 44 15) rfl ?_
         refine tb_ 4 53 (w_ 44 31) rfl hHeld (by rintro w' ⟨s0, s1, s2, s3, s4⟩; go_simp; with_reducible rfl) ?_
         refine pv_ 5 54 (w_ 44 63) rfl ?_
         refine pv_ 6 55 (w_ 44 127) rfl ?_
         refine po_ 7 56 (w_ 44 255) rfl ?_
         refine po_ 8 57 (w_ 44 511) rfl ?_
         refine po_ 9 58 (w_ 44 1023) rfl ?_
         refine po_ 10 59 (w_ 44 2047) rfl ?_
         refine po_ 11 60 (w_ 44 4095) rfl ?_
         refine po_ 12 61 (w_ 44 8191) rfl ?_
         refine po_ 13 62 (w_ 44 16383) rfl ?_
         refine po_ 14 63 (w_ 44 32767) rfl ?_
         refine po_ 15 64 (w_ 44 65535) rfl ?_
         refine po_ 16 65 (w_ 44 131071) rfl ?_
         refine pv_ 17 66 (w_ 44 262143) rfl ?_
         refine pv_ 18 67 (w_ 44 524287) rfl ?_
         refine pv_ 19 68 (w_ 44 1048575) rfl ?_
         refine tb_ 20 69 (w_ 44 2097151) rfl hHeld (by rintro w' ⟨s0, s1, s2, s3, s4⟩; go_simp; with_reducible rfl) ?_
         refine pv_ 21 70 (w_ 44 4194303) rfl ?_
         refine pv_ 22 71 (w_ 44 8388607) rfl ?_
         refine pv_ 23 72 (w_ 44 16777215) rfl ?_
         refine tb_ 24 73 (w_ 44 33554431) rfl hHeld (by rintro w' ⟨s0, s1, s2, s3, s4⟩; go_simp; with_reducible rfl) ?_
         refine pv_ 25 74 (w_ 44 67108863) rfl ?_
         refine pv_ 26 75 (w_ 44 134217727) rfl ?_
         refine pv_ 27 76 (w_ 44 268435455) rfl ?_
         refine pv_ 29 78 (w_ 44 805306367) rfl ?_
         refine pv_ 31 80 (w_ 44 2952790015) rfl ?_
         refine pv_ 32 81 (w_ 44 7247757311) rfl ?_
         refine pv_ 33 82 (w_ 44 15837691903) rfl ?_
         refine tb_ 28 77 (w_ 44 16106127359) rfl hHeld (by rintro w' ⟨s0, s1, s2, s3, s4⟩; go_simp; with_reducible rfl) ?_
         refine tb_ 30 79 (w_ 44 17179869183) rfl hHeld (by rintro w' ⟨s0, s1, s2, s3, s4⟩; go_simp; with_reducible rfl) ?_
         refine tb_ 34 83 (w_ 44 34359738367) rfl hHeld (by rintro w' ⟨s0, s1, s2, s3, s4⟩; go_simp; with_reducible rfl) ?_
         refine pv_ 35 84 (w_ 44 68719476735) rfl ?_
         refine pv_ 36 85 (w_ 44 137438953471) rfl ?_
         refine pv_ 37 86 (w_ 44 274877906943) rfl ?_
         refine pv_ 38 87 (w_ 44 549755813887) rfl ?_
         refine tb_ 39 88 (w_ 44 1099511627775) rfl hHeld (by rintro w' ⟨s0, s1, s2, s3, s4⟩; go_simp; with_reducible rfl) ?_
         refine pv_ 40 89 (w_ 44 2199023255551) rfl ?_
         refine pv_ 41 90 (w_ 44 4398046511103) rfl ?_
         refine pv_ 42 91 (w_ 44 8796093022207) rfl ?_
         refine pv_ 43 92 (w_ 44 17592186044415) rfl ?_
         refine done_ (by kernel_rfl) ?_
         go_wp2_with (fail)
         go_roundg (gk - 1)
         case measure => have := HM.out; have := HLJ.out; omega
         case rel =>
          refine ⟨m + 1, ?_, ⟨by have := HM.out; have := HLJ.out; omega⟩, ⟨fun j hj => ?_⟩, BR14, ⟨?_⟩⟩
          ·have := HJ2.out
           first | (rw [show ((m + 1 : Nat) : Int) = q + 1 from by omega]; done) | (simp; omega)
          ·by_cases e : j = m
           ·rw [e]; exact HMT.out
           ·exact HQ.out j (by omega)
          ·rw [← HMS2.out]
           exact HS14.out.later (below_drew (Below.refl _ _))
     ·have u0 : decide (0 < q) = false := decide_eq_false hi0
      have HM0 := Aside0.mk (show decide (0 < m) = false from decide_eq_false (by have := HJ2.out; omega))
      clear hi0
      rcases Bool.eq_false_or_eq_true r.f0 with hch | hch
      ·have HCH := Aside0.mk hch
       rw [hch] at hcr0
       clear hch
       have HOF := Aside0.mk (show offB r m = false by unfold offB; rw [HX.out]; rw [HM0.out, HCH.out]; rfl)
       have HMT := Aside0.mk (show moveB H K l1 n m = true by rw [HMB2.out, HOF.out]; rfl)
       refine start_ (n := 44) (S := fun w' => w'.cell? ⟨gx, 1, none⟩ = some (.int .i64 x.f1) ∧ w'.cell? ⟨gx, 2, none⟩ = some (.int .i64 x.f2) ∧ w'.cell? ⟨gr, 0, none⟩ = some (.bool true) ∧ w'.cell? ⟨gr, 1, none⟩ = some (.slice (some adx) r.f1.length cr)) (ds := []) #[n_, n_, n_, n_, n_, n_, n_, n_, n_, n_, n_, n_, n_, n_, n_, n_, n_, n_, n_, n_, n_, n_, n_, n_, n_, n_, n_, n_, n_, n_, n_, n_, n_, n_, n_, n_, n_, n_, n_, n_, n_, n_, n_, n_] (by kernel_rfl) rfl rfl ⟨hcx1, hcx2, hcr0, hcr1⟩ (fun hHeld => ?_)
       refine pv_ 0 49 (w_ 44 1) rfl ?_
       refine pv_ 1 50 (w_ 44 3) rfl ?_
       refine pv_ 2 51 (w_ 44 7) rfl ?_
       refine po_ 3 52 (w_ 44 15) rfl ?_
       refine po_ 4 53 (w_ 44 31) rfl ?_
       refine pv_ 5 54 (w_ 44 63) rfl ?_
       refine pv_ 6 55 (w_ 44 127) rfl ?_
       refine po_ 7 56 (w_ 44 255) rfl ?_
       refine po_ 8 57 (w_ 44 511) rfl ?_
       refine po_ 9 58 (w_ 44 1023) rfl ?_
       refine po_ 10 59 (w_ 44 2047) rfl ?_
       refine po_ 11 60 (w_ 44 4095) rfl ?_
       refine po_ 12 61 (w_ 44 8191) rfl ?_
       refine po_ 13 62 (w_ 44 16383) rfl ?_
       refine po_ 14 63 (w_ 44 32767) rfl ?_
       refine po_ 15 64 (w_ 44 65535) rfl ?_
       refine po_ 16 65 (w_ 44 131071) rfl ?_
       refine pv_ 17 66 (w_ 44 262143) rfl ?_
       refine pv_ 18 67 (w_ 44 524287) rfl ?_
       refine pv_ 19 68 (w_ 44 1048575) rfl ?_
       refine tb_ 20 69 (w_ 44 2097151) rfl hHeld (by rintro w' ⟨s0, s1, s2, s3⟩; go_simp; with_reducible rfl) ?_
       refine pv_ 21 70 (w_ 44 4194303) rfl ?_
       refine pv_ 22 71 (w_ 44 8388607) rfl ?_
       refine po_ 23 72 (w_ 44 16777215) rfl ?_
       refine po_ 24 73 (w_ 44 33554431) rfl ?_
       refine po_ 25 74 (w_ 44 67108863) rfl ?_
       refine po_ 26 75 (w_ 44 134217727) rfl ?_
       refine po_ 27 76 (w_ 44 268435455) rfl ?_
       refine po_ 28 77 (w_ 44 536870911) rfl ?_
       refine po_ 29 78 (w_ 44 1073741823) rfl ?_
       refine po_ 30 79 (w_ 44 2147483647) rfl ?_
       refine po_ 31 80 (w_ 44 4294967295) rfl ?_
       refine po_ 32 81 (w_ 44 8589934591) rfl ?_
       refine po_ 33 82 (w_ 44 17179869183) rfl ?_
       refine po_ 34 83 (w_ 44 34359738367) rfl ?_
       refine po_ 35 84 (w_ 44 68719476735) rfl ?_
       refine po_ 36 85 (w_ 44 137438953471) rfl ?_
       refine po_ 37 86 (w_ 44 274877906943) rfl ?_
       refine po_ 38 87 (w_ 44 549755813887) rfl ?_
       refine po_ 39 88 (w_ 44 1099511627775) rfl ?_
       refine po_ 40 89 (w_ 44 2199023255551) rfl ?_
       refine po_ 41 90 (w_ 44 4398046511103) rfl ?_
       refine pv_ 42 91 (w_ 44 8796093022207) rfl ?_
       refine pv_ 43 92 (w_ 44 17592186044415) rfl ?_
       refine done_ (by kernel_rfl) ?_
       go_wp2_with (fail)
       go_roundg (gk - 1)
       case measure => have := HM.out; have := HLJ.out; omega
       case rel =>
        refine ⟨m + 1, ?_, ⟨by have := HM.out; have := HLJ.out; omega⟩, ⟨fun j hj => ?_⟩, BR14, ⟨?_⟩⟩
        ·have := HJ2.out
         first | (rw [show ((m + 1 : Nat) : Int) = q + 1 from by omega]; done) | (simp; omega)
        ·by_cases e : j = m
         ·rw [e]; exact HMT.out
         ·exact HQ.out j (by omega)
        ·rw [← HMS2.out]
         exact HS14.out.later (below_drew (Below.refl _ _))
      ·have HCH := Aside0.mk hch
       rw [hch] at hcr0
       clear hch
       cases hfr : (x.f1 == 0) with
       | true =>
        have HOF := Aside0.mk (show offB r m = true by unfold offB; rw [HX.out]; rw [HCH.out, hfr, Bool.and_false]; rfl)
        have HZ := Aside0.mk (ringsB_false (T := T) HLT.out (ringB_false (T := T) (by rw [HP.out]; exact HLJ.out) (show moveB H K l1 n m = false by rw [HMB2.out, HOF.out]; rfl)))
        refine start_ (n := 44) (S := fun w' => w'.cell? ⟨gx, 1, none⟩ = some (.int .i64 x.f1) ∧ w'.cell? ⟨gx, 2, none⟩ = some (.int .i64 x.f2) ∧ w'.cell? ⟨gr, 0, none⟩ = some (.bool false) ∧ w'.cell? ⟨gr, 1, none⟩ = some (.slice (some adx) r.f1.length cr)) (ds := []) #[n_, n_, n_, n_, n_, n_, n_, n_, n_, n_, n_, n_, n_, n_, n_, n_, n_, n_, n_, n_, n_, n_, n_, n_, n_, n_, n_, n_, n_, n_, n_, n_, n_, n_, n_, n_, n_, n_, n_, n_, n_, n_, n_, n_] (by kernel_rfl) rfl rfl ⟨hcx1, hcx2, hcr0, hcr1⟩ (fun hHeld => ?_)
        refine pv_ 0 49 (w_ 44 1) rfl ?_
        refine pv_ 1 50 (w_ 44 3) rfl ?_
        refine pv_ 2 51 (w_ 44 7) rfl ?_
        refine po_ 3 52 (w_ 44 15) rfl ?_
        refine po_ 4 53 (w_ 44 31) rfl ?_
        refine pv_ 5 54 (w_ 44 63) rfl ?_
        refine pv_ 6 55 (w_ 44 127) rfl ?_
        refine po_ 7 56 (w_ 44 255) rfl ?_
        refine po_ 8 57 (w_ 44 511) rfl ?_
        refine po_ 9 58 (w_ 44 1023) rfl ?_
        refine po_ 10 59 (w_ 44 2047) rfl ?_
        refine po_ 11 60 (w_ 44 4095) rfl ?_
        refine po_ 12 61 (w_ 44 8191) rfl ?_
        refine po_ 13 62 (w_ 44 16383) rfl ?_
        refine po_ 14 63 (w_ 44 32767) rfl ?_
        refine po_ 15 64 (w_ 44 65535) rfl ?_
        refine po_ 16 65 (w_ 44 131071) rfl ?_
        refine pv_ 17 66 (w_ 44 262143) rfl ?_
        refine pv_ 18 67 (w_ 44 524287) rfl ?_
        refine pv_ 19 68 (w_ 44 1048575) rfl ?_
        refine tb_ 20 69 (w_ 44 2097151) rfl hHeld (by rintro w' ⟨s0, s1, s2, s3⟩; go_simp; with_reducible rfl) ?_
        refine pv_ 21 70 (w_ 44 4194303) rfl ?_
        refine pv_ 22 71 (w_ 44 8388607) rfl ?_
        refine pv_ 23 72 (w_ 44 16777215) rfl ?_
        refine tb_ 24 73 (w_ 44 33554431) rfl hHeld (by rintro w' ⟨s0, s1, s2, s3⟩; go_simp; with_reducible rfl) ?_
        refine pv_ 25 74 (w_ 44 67108863) rfl ?_
        refine pv_ 26 75 (w_ 44 134217727) rfl ?_
        refine po_ 27 76 (w_ 44 268435455) rfl ?_
        refine po_ 28 77 (w_ 44 536870911) rfl ?_
        refine po_ 29 78 (w_ 44 1073741823) rfl ?_
        refine po_ 30 79 (w_ 44 2147483647) rfl ?_
        refine po_ 31 80 (w_ 44 4294967295) rfl ?_
        refine po_ 32 81 (w_ 44 8589934591) rfl ?_
        refine po_ 33 82 (w_ 44 17179869183) rfl ?_
        refine po_ 34 83 (w_ 44 34359738367) rfl ?_
        refine po_ 35 84 (w_ 44 68719476735) rfl ?_
        refine po_ 36 85 (w_ 44 137438953471) rfl ?_
        refine po_ 37 86 (w_ 44 274877906943) rfl ?_
        refine po_ 38 87 (w_ 44 549755813887) rfl ?_
        refine po_ 39 88 (w_ 44 1099511627775) rfl ?_
        refine po_ 40 89 (w_ 44 2199023255551) rfl ?_
        refine pv_ 41 90 (w_ 44 4398046511103) rfl ?_
        refine pv_ 42 91 (w_ 44 8796093022207) rfl ?_
        refine pv_ 43 92 (w_ 44 17592186044415) rfl ?_
        refine done_ (by kernel_rfl) ?_
        go_wp2_with (fail)
        (try simp only [Exit.noGoto_ret])
        go_ret
        rw [HZ.out]
        exact ⟨rfl, HS14.out.below.drew⟩
       | false =>
        obtain ⟨z, hz⟩ : ∃ z, z = Int.tmod (q + 1) (r.f1.length : Int) := ⟨_, rfl⟩
        have hq0 : wrap64 (q + 1) = q + 1 := by unfold wrap64; have := HJ2.out; have := HRL.out; omega
        have hzz : Int.tmod (q + 1) (r.f1.length : Int) = z := hz.symm
        have HZR := Aside0.mk (show 0 ≤ z ∧ z < r.f1.length from by rw [hz]; exact ⟨Int.tmod_nonneg _ (by have := HJ2.out; omega), Int.tmod_lt_of_pos _ (by have := HLJ.out; omega)⟩)
        have hz5 : (0 ≤ z) = True := eq_true HZR.out.1
        have hz6 : (z < r.f1.length) = True := eq_true HZR.out.2
        obtain ⟨adx', ex', hv0, hv1, hv2⟩ := at_T51 (Kd.C_below HRC.out.2 HS14.out.below) z HZR.out.1 HZR.out.2
        cases ex'
        obtain ⟨y, hy⟩ : ∃ y, y = (rd_T51 r.f1 z).f1 := ⟨_, rfl⟩
        rw [← hy] at hv1
        have HY := Aside0.mk (show y = (rd_T51 r.f1 (Int.tmod ((m : Int) + 1) (r.f1.length : Int))).f1 by rw [hy, hz, HJ2.out.2.2])
        clear hy hv0 hv2 hz
        cases hne : (x.f2 != y) with
        | true =>
         have HOF := Aside0.mk (show offB r m = true by unfold offB; rw [HX.out]; rw [HCH.out, hfr, ← HY.out, hne, Bool.and_false]; rfl)
         have HZ := Aside0.mk (ringsB_false (T := T) HLT.out (ringB_false (T := T) (by rw [HP.out]; exact HLJ.out) (show moveB H K l1 n m = false by rw [HMB2.out, HOF.out]; rfl)))
         refine start_ (n := 44) (S := fun w' => w'.cell? ⟨gx, 1, none⟩ = some (.int .i64 x.f1) ∧ w'.cell? ⟨gx, 2, none⟩ = some (.int .i64 x.f2) ∧ w'.cell? ⟨gr, 0, none⟩ = some (.bool false) ∧ w'.cell? ⟨gr, 1, none⟩ = some (.slice (some adx) r.f1.length cr) ∧ w'.cell? ⟨(adx.add (z.toNat * 3)).block, (adx.add (z.toNat * 3)).off + 1, none⟩ = some (.int .i64 y)) (ds := []) #[n_, n_, n_, n_, n_, n_, n_, n_, n_, n_, n_, n_, n_, n_, n_, n_, n_, n_, n_, n_, n_, n_, n_, n_, n_, n_, n_, n_, n_, n_, n_, n_, n_, n_, n_, n_, n_, n_, n_, n_, n_, n_, n_, n_] (by kernel_rfl) rfl rfl ⟨hcx1, hcx2, hcr0, hcr1, hv1⟩ (fun hHeld => ?_)
         refine pv_ 0 49 (w_ 44 1) rfl ?_
         refine pv_ 1 50 (w_ 44 3) rfl ?_
         refine pv_ 2 51 (w_ 44 7) rfl ?_
         refine po_ 3 52 (w_ 44 15) rfl ?_
         refine po_ 4 53 (w_ 44 31) rfl ?_
         refine pv_ 5 54 (w_ 44 63) rfl ?_
         refine pv_ 6 55 (w_ 44 127) rfl ?_
         refine po_ 7 56 (w_ 44 255) rfl ?_
         refine po_ 8 57 (w_ 44 511) rfl ?_
         refine po_ 9 58 (w_ 44 1023) rfl ?_
         refine po_ 10 59 (w_ 44 2047) rfl ?_
         refine po_ 11 60 (w_ 44 4095) rfl ?_
         refine po_ 12 61 (w_ 44 8191) rfl ?_
         refine po_ 13 62 (w_ 44 16383) rfl ?_
         refine po_ 14 63 (w_ 44 32767) rfl ?_
         refine po_ 15 64 (w_ 44 65535) rfl ?_
         refine po_ 16 65 (w_ 44 131071) rfl ?_
         refine pv_ 17 66 (w_ 44 262143) rfl ?_
         refine pv_ 18 67 (w_ 44 524287) rfl ?_
         refine pv_ 19 68 (w_ 44 1048575) rfl ?_
         refine tb_ 20 69 (w_ 44 2097151) rfl hHeld (by rintro w' ⟨s0, s1, s2, s3, s4⟩; go_simp; with_reducible rfl) ?_
         refine pv_ 21 70 (w_ 44 4194303) rfl ?_
         refine pv_ 22 71 (w_ 44 8388607) rfl ?_
         refine pv_ 23 72 (w_ 44 16777215) rfl ?_
         refine tb_ 24 73 (w_ 44 33554431) rfl hHeld (by rintro w' ⟨s0, s1, s2, s3, s4⟩; go_simp; with_reducible rfl) ?_
         refine pv_ 25 74 (w_ 44 67108863) rfl ?_
         refine pv_ 26 75 (w_ 44 134217727) rfl ?_
         refine pv_ 27 76 (w_ 44 268435455) rfl ?_
         refine pv_ 29 78 (w_ 44 805306367) rfl ?_
         refine pv_ 31 80 (w_ 44 2952790015) rfl ?_
         refine pv_ 32 81 (w_ 44 7247757311) rfl ?_
         refine pv_ 33 82 (w_ 44 15837691903) rfl ?_
         refine tb_ 28 77 (w_ 44 16106127359) rfl hHeld (by rintro w' ⟨s0, s1, s2, s3, s4⟩; go_simp; with_reducible rfl) ?_
         refine tb_ 30 79 (w_ 44 17179869183) rfl hHeld (by rintro w' ⟨s0, s1, s2, s3, s4⟩; go_simp; with_reducible rfl) ?_
         refine tb_ 34 83 (w_ 44 34359738367) rfl hHeld (by rintro w' ⟨s0, s1, s2, s3, s4⟩; go_simp; with_reducible rfl) ?_
         refine pv_ 35 84 (w_ 44 68719476735) rfl ?_
         refine pv_ 36 85 (w_ 44 137438953471) rfl ?_
         refine pv_ 37 86 (w_ 44 274877906943) rfl ?_
         refine pv_ 38 87 (w_ 44 549755813887) rfl ?_
         refine tb_ 39 88 (w_ 44 1099511627775) rfl hHeld (by rintro w' ⟨s0, s1, s2, s3, s4⟩; go_simp; with_reducible rfl) ?_
         refine pv_ 40 89 (w_ 44 2199023255551) rfl ?_
         refine pv_ 41 90 (w_ 44 4398046511103) rfl ?_
         refine pv_ 42 91 (w_ 44 8796093022207) rfl ?_
         refine pv_ 43 92 (w_ 44 17592186044415) rfl ?_
         refine done_ (by kernel_rfl) ?_
         go_wp2_with (fail)
         (try simp only [Exit.noGoto_ret])
         go_ret
         rw [HZ.out]
         exact ⟨rfl, HS14.out.below.drew⟩
        | false =>
         have HOF := Aside0.mk (show offB r m = false by unfold offB; rw [HX.out]; rw [HCH.out, hfr, ← HY.out, hne, Bool.and_false]; rfl)
         have HMT := Aside0.mk (show moveB H K l1 n m = true by rw [HMB2.out, HOF.out]; rfl)
         refine start_ (n := 44) (S := fun w' => w'.cell? ⟨gx, 1, none⟩ = some (.int .i64 x.f1) ∧ w'.cell? ⟨gx, 2, none⟩ = some (.int .i64 x.f2) ∧ w'.cell? ⟨gr, 0, none⟩ = some (.bool false) ∧ w'.cell? ⟨gr, 1, none⟩ = some (.slice (some adx) r.f1.length cr) ∧ w'.cell? ⟨(adx.add (z.toNat * 3)).block, (adx.add (z.toNat * 3)).off + 1, none⟩ = some (.int .i64 y)) (ds := []) #[n_, n_, n_, n_, n_, n_, n_, n_, n_, n_, n_, n_, n_, n_, n_, n_, n_, n_, n_, n_, n_, n_, n_, n_, n_, n_, n_, n_, n_, n_, n_, n_, n_, n_, n_, n_, n_, n_, n_, n_, n_, n_, n_, n_] (by kernel_rfl) rfl rfl ⟨hcx1, hcx2, hcr0, hcr1, hv1⟩ (fun hHeld => ?_)
         refine pv_ 0 49 (w_ 44 1) rfl ?_
         refine pv_ 1 50 (w_ 44 3) rfl ?_
         refine pv_ 2 51 (w_ 44 7) rfl ?_
         refine po_ 3 52 (w_ 44 15) rfl ?_
         refine po_ 4 53 (w_ 44 31) rfl ?_
         refine pv_ 5 54 (w_ 44 63) rfl ?_
         refine pv_ 6 55 (w_ 44 127) rfl ?_
         refine po_ 7 56 (w_ 44 255) rfl ?_
         refine po_ 8 57 (w_ 44 511) rfl ?_
         refine po_ 9 58 (w_ 44 1023) rfl ?_
         refine po_ 10 59 (w_ 44 2047) rfl ?_
         refine po_ 11 60 (w_ 44 4095) rfl ?_
         refine po_ 12 61 (w_ 44 8191) rfl ?_
         refine po_ 13 62 (w_ 44 16383) rfl ?_
         refine po_ 14 63 (w_ 44 32767) rfl ?_
         refine po_ 15 64 (w_ 44 65535) rfl ?_
         refine po_ 16 65 (w_ 44 131071) rfl ?_
         refine pv_ 17 66 (w_ 44 262143) rfl ?_
         refine pv_ 18 67 (w_ 44 524287) rfl ?_
         refine pv_ 19 68 (w_ 44 1048575) rfl ?_
         refine tb_ 20 69 (w_ 44 2097151) rfl hHeld (by rintro w' ⟨s0, s1, s2, s3, s4⟩; go_simp; with_reducible rfl) ?_
         refine pv_ 21 70 (w_ 44 4194303) rfl ?_
         refine pv_ 22 71 (w_ 44 8388607) rfl ?_
         refine pv_ 23 72 (w_ 44 16777215) rfl ?_
         refine tb_ 24 73 (w_ 44 33554431) rfl hHeld (by rintro w' ⟨s0, s1, s2, s3, s4⟩; go_simp; with_reducible rfl) ?_
         refine pv_ 25 74 (w_ 44 67108863) rfl ?_
         refine pv_ 26 75 (w_ 44 134217727) rfl ?_
         refine pv_ 27 76 (w_ 44 268435455) rfl ?_
         refine pv_ 29 78 (w_ 44 805306367) rfl ?_
         refine pv_ 31 80 (w_ 44 2952790015) rfl ?_
         refine pv_ 32 81 (w_ 44 7247757311) rfl ?_
         refine pv_ 33 82 (w_ 44 15837691903) rfl ?_
         refine tb_ 28 77 (w_ 44 16106127359) rfl hHeld (by rintro w' ⟨s0, s1, s2, s3, s4⟩; go_simp; with_reducible rfl) ?_
         refine tb_ 30 79 (w_ 44 17179869183) rfl hHeld (by rintro w' ⟨s0, s1, s2, s3, s4⟩; go_simp; with_reducible rfl) ?_
         refine tb_ 34 83 (w_ 44 34359738367) rfl hHeld (by rintro w' ⟨s0, s1, s2, s3, s4⟩; go_simp; with_reducible rfl) ?_
         refine pv_ 35 84 (w_ 44 68719476735) rfl ?_
         refine pv_ 36 85 (w_ 44 137438953471) rfl ?_
         refine pv_ 37 86 (w_ 44 274877906943) rfl ?_
         refine pv_ 38 87 (w_ 44 549755813887) rfl ?_
         refine tb_ 39 88 (w_ 44 1099511627775) rfl hHeld (by rintro w' ⟨s0, s1, s2, s3, s4⟩; go_simp; with_reducible rfl) ?_
         refine pv_ 40 89 (w_ 44 2199023255551) rfl ?_
         refine pv_ 41 90 (w_ 44 4398046511103) rfl ?_
         refine pv_ 42 91 (w_ 44 8796093022207) rfl ?_
         refine pv_ 43 92 (w_ 44 17592186044415) rfl ?_
         refine done_ (by kernel_rfl) ?_
         go_wp2_with (fail)
         go_roundg (gk - 1)
         case measure => have := HM.out; have := HLJ.out; omega
         case rel =>
          refine ⟨m + 1, ?_, ⟨by have := HM.out; have := HLJ.out; omega⟩, ⟨fun j hj => ?_⟩, BR14, ⟨?_⟩⟩
          ·have := HJ2.out
           first | (rw [show ((m + 1 : Nat) : Int) = q + 1 from by omega]; done) | (simp; omega)
          ·by_cases e : j = m
           ·rw [e]; exact HMT.out
           ·exact HQ.out j (by omega)
          ·rw [← HMS2.out]
           exact HS14.out.later (below_drew (Below.refl _ _))
    ·have d8 : decide ((m : Int) < (r.f1.length : Int)) = false := decide_eq_false (by omega)
     have d8' : decide (m < r.f1.length) = false := decide_eq_false hlt
     have hml : m = r.f1.length := by have := HM.out; omega
     rw [hml] at HQ HS
     have HRB := Aside0.mk (ringB_end (T := T) (by rw [HP.out]; exact HQ.out))
     rw [HP.out] at HRB
     have HAN := Aside0.mk (show ahead l1 n r.f1.length = ahead l1 (n + 1) 0 by have := ahead_next l1 n HLT.out; rw [HP.out] at this; exact this)
     have hcr0 : wr.cell? ⟨gr, 0, none⟩ = some (.bool r.f0) := (blk_cell BR.out 0).trans rfl
     have hcr1 : wr.cell? ⟨gr, 1, none⟩ = some (.slice Ar r.f1.length cr) := (blk_cell BR.out 1).trans rfl
     have hcT2 : wr.cell? ⟨gT, 2, none⟩ = some (.map (some g3)) := (blk_cell HS.out.cell 2).trans rfl
     clear hlt hml
     go_upto_region 14 with (fail)
     by_cases h0 : 0 < r.f1.length
     ·have v0 : decide (0 < (r.f1.length : Int)) = true := decide_eq_true (by omega)
      have v0' : decide (0 < r.f1.length) = true := decide_eq_true h0
      have H0 := Aside0.mk h0
      clear h0
      rcases (Bool.eq_false_or_eq_true r.f0).symm with hch | hch
      ·have HEB := Aside0.mk (show endB T r = true by unfold endB; rw [v0', hch]; rfl)
       rw [hch] at hcr0
       clear hch
       refine start_ (n := 20) (S := fun w' => w'.cell? ⟨gr, 0, none⟩ = some (.bool false) ∧ w'.cell? ⟨gr, 1, none⟩ = some (.slice Ar r.f1.length cr) ∧ w'.cell? ⟨gT, 2, none⟩ = some (.map (some g3))) (ds := []) #[n_, n_, n_, n_, n_, n_, n_, n_, n_, n_, n_, n_, n_, n_, n_, n_, n_, n_, n_, n_] (by kernel_rfl) rfl rfl ⟨hcr0, hcr1, hcT2⟩ (fun hHeld => ?_)
       refine pv_ 0 94 (w_ 20 1) rfl ?_
       refine tb_ 1 95 (w_ 20 3) rfl hHeld (by rintro w' ⟨s0, s1, s2⟩; go_simp; with_reducible rfl) ?_
       refine pv_ 2 96 (w_ 20 7) rfl ?_
       refine pv_ 3 97 (w_ 20 15) rfl ?_
       refine pv_ 4 98 (w_ 20 31) rfl ?_
       refine pv_ 5 99 (w_ 20 63) rfl ?_
       refine tb_ 6 100 (w_ 20 127) rfl hHeld (by rintro w' ⟨s0, s1, s2⟩; go_simp; with_reducible rfl) ?_
       refine pv_ 7 101 (w_ 20 255) rfl ?_
       refine pv_ 8 102 (w_ 20 511) rfl ?_
       refine po_ 9 103 (w_ 20 1023) rfl ?_
       refine po_ 10 104 (w_ 20 2047) rfl ?_
       refine po_ 11 105 (w_ 20 4095) rfl ?_
       refine po_ 12 106 (w_ 20 8191) rfl ?_
       refine po_ 13 107 (w_ 20 16383) rfl ?_
       refine po_ 14 108 (w_ 20 32767) rfl ?_
       refine po_ 15 109 (w_ 20 65535) rfl ?_
       refine po_ 16 110 (w_ 20 131071) rfl ?_
       refine po_ 17 111 (w_ 20 262143) rfl ?_
       refine pv_ 18 112 (w_ 20 524287) rfl ?_
       refine pv_ 19 113 (w_ 20 1048575) rfl ?_
       refine done_ (by kernel_rfl) ?_
       go_wp2_with (fail)
       go_roundg (ko - 1)
       case measure => have := HKO.out; have := HK.out; have := HLT.out; omega
       case rel =>
        refine ⟨n + 1, ?_, ⟨by have := HKO.out; have := HK.out; have := HLT.out; omega⟩, ⟨fun j hj => ?_⟩, ⟨?_⟩⟩
        ·have := HI2.out
         first | (rw [show ((n + 1 : Nat) : Int) = i + 1 from by omega]; done) | (simp; omega)
        ·by_cases e : j = n
         ·rw [e, HRB.out]; exact HEB.out
         ·exact HA.out j (by omega)
        ·rw [← HAN.out]
         exact HS.out.later (below_drew (Below.refl _ _))
      ·have HCH := Aside0.mk hch
       rw [hch] at hcr0
       clear hch
       obtain ⟨adx, ex, hy0, hy1, hy2⟩ := at_T51 (Kd.C_below HRC.out.2 HS.out.below) 0 (by omega) (by have := H0.out; omega)
       subst ex
       obtain ⟨k, hk⟩ : ∃ k, k = (rd_T51 r.f1 0).f2 := ⟨_, rfl⟩
       rw [← hk] at hy2
       have hci : (0 < r.f1.length) = True := eq_true H0.out
       have e0 : adx.add ((0 : Int).toNat * 3) = adx := by cases adx; rfl
       rw [e0] at hy2
       have HTB := Aside0.mk (show endB T r = !(T k).getD false by unfold endB; rw [v0', HCH.out, ← hk]; rfl)
       clear hk hy0 hy1 e0
       cases htk : (T k).getD false with
       | true =>
        have HTK := Aside0.mk htk
        have HEB := Aside0.mk (show endB T r = false by rw [HTB.out, htk]; rfl)
        have hlk : ∀ W : World, MapI W g3 (mapV vBool T) → (Instr.lookup 66 (.map (some g3)) (.int .i64 k) false).run Try.prog W = .ok (.bool true) W := fun W hW => by
         rw [run_lookI (P := Try.prog) (kt := 3) (et := 4) hW Try.underlying66 Try.underlying3 (Try.zeroValue4 W) k false, if_neg (by decide), show (Value.bool false) = vBool false from rfl, mapV_get, htk]
         try rfl
        clear htk
        have HZ := Aside0.mk (ringsB_false (T := T) HLT.out (show ringB H K T l1 n = false by rw [HRB.out]; exact HEB.out))
        refine start_ (n := 20) (S := fun w' => w'.cell? ⟨gr, 0, none⟩ = some (.bool true) ∧ w'.cell? ⟨gr, 1, none⟩ = some (.slice (some adx) r.f1.length cr) ∧ w'.cell? ⟨gT, 2, none⟩ = some (.map (some g3)) ∧ w'.cell? ⟨adx.block, adx.off + 2, none⟩ = some (.int .i64 k) ∧ MapI w' g3 (mapV vBool T)) (ds := []) #[n_, n_, n_, n_, n_, n_, n_, n_, n_, n_, n_, n_, n_, n_, n_, n_, n_, n_, n_, n_] (by kernel_rfl) rfl rfl ⟨hcr0, hcr1, hcT2, hy2, HS.out.town.taken.drew⟩ (fun hHeld => ?_)
        refine pv_ 0 94 (w_ 20 1) rfl ?_
        refine tb_ 1 95 (w_ 20 3) rfl hHeld (by rintro w' ⟨s0, s1, s2, s3, s4⟩; go_simp; with_reducible rfl) ?_
        refine pv_ 2 96 (w_ 20 7) rfl ?_
        refine pv_ 3 97 (w_ 20 15) rfl ?_
        refine pv_ 4 98 (w_ 20 31) rfl ?_
        refine pv_ 5 99 (w_ 20 63) rfl ?_
        refine tb_ 6 100 (w_ 20 127) rfl hHeld (by rintro w' ⟨s0, s1, s2, s3, s4⟩; go_simp; with_reducible rfl) ?_
        refine pv_ 7 101 (w_ 20 255) rfl ?_
        refine pv_ 8 102 (w_ 20 511) rfl ?_
        refine pv_ 9 103 (w_ 20 1023) rfl ?_
        refine pv_ 11 105 (w_ 20 3071) rfl ?_
        refine tb_ 10 104 (w_ 20 4095) rfl hHeld (by rintro w' ⟨s0, s1, s2, s3, s4⟩; go_simp; with_reducible rfl) ?_
        refine tb_ 12 106 (w_ 20 8191) rfl hHeld (by rintro w' ⟨s0, s1, s2, s3, s4⟩; go_simp; with_reducible rfl) ?_
        refine pv_ 13 107 (w_ 20 16383) rfl ?_
        refine pv_ 14 108 (w_ 20 32767) rfl ?_
        refine tb_ 15 109 (w_ 20 65535) rfl hHeld (by rintro w' ⟨s0, s1, s2, s3, s4⟩; go_simp; with_reducible rfl) ?_
        refine tb_ 16 110 (w_ 20 131071) rfl hHeld (by rintro w' ⟨s0, s1, s2, s3, s4⟩; go_simp; with_reducible rfl) ?_
        refine pv_ 17 111 (w_ 20 262143) rfl ?_
        refine pv_ 18 112 (w_ 20 524287) rfl ?_
        refine pv_ 19 113 (w_ 20 1048575) rfl ?_
        refine done_ (by kernel_rfl) ?_
        go_wp2_with (fail)
        (try simp only [Exit.noGoto_ret])
        go_ret
        rw [HZ.out]
        exact ⟨rfl, HS.out.below.drew⟩
       | false =>
        have HTK := Aside0.mk htk
        have HEB := Aside0.mk (show endB T r = true by rw [HTB.out, htk]; rfl)
        have hlk : ∀ W : World, MapI W g3 (mapV vBool T) → (Instr.lookup 66 (.map (some g3)) (.int .i64 k) false).run Try.prog W = .ok (.bool false) W := fun W hW => by
         rw [run_lookI (P := Try.prog) (kt := 3) (et := 4) hW Try.underlying66 Try.underlying3 (Try.zeroValue4 W) k false, if_neg (by decide), show (Value.bool false) = vBool false from rfl, mapV_get, htk]
         try rfl
        clear htk
        refine start_ (n := 20) (S := fun w' => w'.cell? ⟨gr, 0, none⟩ = some (.bool true) ∧ w'.cell? ⟨gr, 1, none⟩ = some (.slice (some adx) r.f1.length cr) ∧ w'.cell? ⟨gT, 2, none⟩ = some (.map (some g3)) ∧ w'.cell? ⟨adx.block, adx.off + 2, none⟩ = some (.int .i64 k) ∧ MapI w' g3 (mapV vBool T)) (ds := []) #[n_, n_, n_, n_, n_, n_, n_, n_, n_, n_, n_, n_, n_, n_, n_, n_, n_, n_, n_, n_] (by kernel_rfl) rfl rfl ⟨hcr0, hcr1, hcT2, hy2, HS.out.town.taken.drew⟩ (fun hHeld => ?_)
        refine pv_ 0 94 (w_ 20 1) rfl ?_
        refine tb_ 1 95 (w_ 20 3) rfl hHeld (by rintro w' ⟨s0, s1, s2, s3, s4⟩; go_simp; with_reducible rfl) ?_
        refine pv_ 2 96 (w_ 20 7) rfl ?_
        refine pv_ 3 97 (w_ 20 15) rfl ?_
        refine pv_ 4 98 (w_ 20 31) rfl ?_
        refine pv_ 5 99 (w_ 20 63) rfl ?_
        refine tb_ 6 100 (w_ 20 127) rfl hHeld (by rintro w' ⟨s0, s1, s2, s3, s4⟩; go_simp; with_reducible rfl) ?_
        refine pv_ 7 101 (w_ 20 255) rfl ?_
        refine pv_ 8 102 (w_ 20 511) rfl ?_
        refine pv_ 9 103 (w_ 20 1023) rfl ?_
        refine pv_ 11 105 (w_ 20 3071) rfl ?_
        refine tb_ 10 104 (w_ 20 4095) rfl hHeld (by rintro w' ⟨s0, s1, s2, s3, s4⟩; go_simp; with_reducible rfl) ?_
        refine tb_ 12 106 (w_ 20 8191) rfl hHeld (by rintro w' ⟨s0, s1, s2, s3, s4⟩; go_simp; with_reducible rfl) ?_
        refine pv_ 13 107 (w_ 20 16383) rfl ?_
        refine pv_ 14 108 (w_ 20 32767) rfl ?_
        refine tb_ 15 109 (w_ 20 65535) rfl hHeld (by rintro w' ⟨s0, s1, s2, s3, s4⟩; go_simp; with_reducible rfl) ?_
        refine tb_ 16 110 (w_ 20 131071) rfl hHeld (by rintro w' ⟨s0, s1, s2, s3, s4⟩; go_simp; with_reducible rfl) ?_
        refine pv_ 17 111 (w_ 20 262143) rfl ?_
        refine pv_ 18 112 (w_ 20 524287) rfl ?_
        refine pv_ 19 113 (w_ 20 1048575) rfl ?_
        refine done_ (by kernel_rfl) ?_
        go_wp2_with (fail)
        go_roundg (ko - 1)
        case measure => have := HKO.out; have := HK.out; have := HLT.out; omega
        case rel =>
         refine ⟨n + 1, ?_, ⟨by have := HKO.out; have := HK.out; have := HLT.out; omega⟩, ⟨fun j hj => ?_⟩, ⟨?_⟩⟩
         ·have := HI2.out
          first | (rw [show ((n + 1 : Nat) : Int) = i + 1 from by omega]; done) | (simp; omega)
         ·by_cases e : j = n
          ·rw [e, HRB.out]; exact HEB.out
          ·exact HA.out j (by omega)
         ·rw [← HAN.out]
          exact HS.out.later (below_drew (Below.refl _ _))
     ·have v0 : decide (0 < (r.f1.length : Int)) = false := decide_eq_false (by omega)
      have v0' : decide (0 < r.f1.length) = false := decide_eq_false h0
      have HEB := Aside0.mk (show endB T r = false by unfold endB; rw [v0']; rfl)
      clear h0
      have HZ := Aside0.mk (ringsB_false (T := T) HLT.out (show ringB H K T l1 n = false by rw [HRB.out]; exact HEB.out))
      refine start_ (n := 20) (S := fun w' => w'.cell? ⟨gr, 0, none⟩ = some (.bool r.f0) ∧ w'.cell? ⟨gr, 1, none⟩ = some (.slice Ar r.f1.length cr) ∧ w'.cell? ⟨gT, 2, none⟩ = some (.map (some g3))) (ds := []) #[n_, n_, n_, n_, n_, n_, n_, n_, n_, n_, n_, n_, n_, n_, n_, n_, n_, n_, n_, n_] (by kernel_rfl) rfl rfl ⟨hcr0, hcr1, hcT2⟩ (fun hHeld => ?_)
      refine pv_ 0 94 (w_ 20 1) rfl ?_
      refine tb_ 1 95 (w_ 20 3) rfl hHeld (by rintro w' ⟨s0, s1, s2⟩; go_simp; with_reducible rfl) ?_
      refine pv_ 2 96 (w_ 20 7) rfl ?_
      refine pv_ 3 97 (w_ 20 15) rfl ?_
      refine pv_ 4 98 (w_ 20 31) rfl ?_
      refine po_ 5 99 (w_ 20 63) rfl ?_
      refine po_ 6 100 (w_ 20 127) rfl ?_
      refine po_ 7 101 (w_ 20 255) rfl ?_
      refine po_ 8 102 (w_ 20 511) rfl ?_
      refine po_ 9 103 (w_ 20 1023) rfl ?_
      refine po_ 10 104 (w_ 20 2047) rfl ?_
      refine po_ 11 105 (w_ 20 4095) rfl ?_
      refine po_ 12 106 (w_ 20 8191) rfl ?_
      refine po_ 13 107 (w_ 20 16383) rfl ?_
      refine po_ 14 108 (w_ 20 32767) rfl ?_
      refine po_ 15 109 (w_ 20 65535) rfl ?_
      refine po_ 16 110 (w_ 20 131071) rfl ?_
      refine po_ 17 111 (w_ 20 262143) rfl ?_
      refine po_ 18 112 (w_ 20 524287) rfl ?_
      refine pv_ 19 113 (w_ 20 1048575) rfl ?_
      refine done_ (by kernel_rfl) ?_
      go_wp2_with (fail)
      (try simp only [Exit.noGoto_ret])
      go_ret
      rw [HZ.out]
      exact ⟨rfl, HS.out.below.drew⟩
  ·have d7 : decide ((n : Int) < (l1.length : Int)) = false := decide_eq_false (by omega)
   have d7' : decide (n < l1.length) = false := decide_eq_false hlt
   have hnl : n = l1.length := by have := HK.out; omega
   rw [hnl] at HA
   have HZ := Aside0.mk (ringsB_end HA.out)
   clear hlt hnl
   go_wp2
   (try simp only [Exit.noGoto_ret])
   go_ret
   rw [HZ.out]
   rw [show decide (l1.length ≤ 64) = decide ((l1.length : Int) ≤ 64) from decide_eq_decide.2 (by omega)]
   exact ⟨by first | rfl | (simp; done), HS.out.below⟩
end
section
open Go.Proofs.YtocbiggglnpeoaaH
def refB (S : Int → Option (Bool × Bool)) (x : S51) : Bool := !(((S x.f0).getD (false, false)).1 == true && (((S x.f0).getD (false, false)).2 == false))
theorem run1_calls (x0 x1 x2 : Int) (gS gm : Nat) (SM : Int → Option (Bool × Bool)) (b : Bool) (w : World) (hq : w.heap[gS]? = some (.cells #[.map (some gm)] 71 (0, 0))) (hm : MapI w gm (mapV vState SM)) (hb : refB SM ⟨x0, x1, x2⟩ = b) :
  Calls Try.prog 33 #[.agg #[.int .i64 x0, .int .i64 x1, .int .i64 x2], .pointer (some ⟨gS, 0, none⟩)] w fun e w' => e = .returned (.bool b) ∧ Below w.heap.size w w' := by
 have hu51 := Try.underlying51
 have hu76 := Try.underlying76
 have HM := Aside0.mk hm
 have HB := Aside0.mk (Below.refl w.heap.size w)
 have hcq : w.cell? ⟨gS, 0, none⟩ = some (.map (some gm)) := (blk_cell hq 0).trans rfl
 obtain ⟨s, hs⟩ : ∃ s, s = (SM x0).getD (false, false) := ⟨_, rfl⟩
 have HS := Aside0.mk hs
 have HBB := Aside0.mk (show (!(s.1 == true && (s.2 == false))) = b by rw [hs]; exact hb)
 have hne := neS
 obtain ⟨y, z⟩ := s
 clear hq hm hb hs
 go_enter Try.func33, Try.ntmps33
 go_wp2_with (first | ((with_reducible refine gate_dst (N := 2) rfl ?_); refine box_event ?hg (N := 2) ?hd (cs := #[.int .i64 x0, .int .i64 x1, .int .i64 x2]) (t := 51) ?hr ?_; (case hd => rfl); (case hg => rfl); (case hr => first | (go_simp; done) | (go_simp; rfl)); intro gx hg_X wb hbox_ hb_; have n0_ := Aside0.mk (below_step HB.out hb_); have BX := Aside0.mk hbox_; have GX := Aside0.mk (show w.heap.size ≤ gx by rw [hg_X]; exact below_size HB.out); have EX := Aside0.mk hg_X; have hcX0 : wb.cell? ⟨gx, 0, none⟩ = some (.int .i64 x0) := (blk_cell hbox_ 0).trans rfl; have hfX0 := blk_frozen hbox_ 0; have hcX1 : wb.cell? ⟨gx, 1, none⟩ = some (.int .i64 x1) := (blk_cell hbox_ 1).trans rfl; have hfX1 := blk_frozen hbox_ 1; have hcX2 : wb.cell? ⟨gx, 2, none⟩ = some (.int .i64 x2) := (blk_cell hbox_ 2).trans rfl; have hfX2 := blk_frozen hbox_ 2; replace hcq := (hb_.cell (World.block_lt_of_cell? _ _ hcq)).trans hcq; have HM1 := Aside0.mk (HM.out.below hb_); clear HB hg_X hbox_ hb_; have HB := n0_; clear n0_) | ((with_reducible refine gate_ (op := .lookup 71 (.tmp 4) (.tmp 6) false) rfl ?_); refine wpList_lookI _ rfl (.tmp 4) (.tmp 6) 71 false rfl 3 76 Try.underlying71 Try.underlying3 (Try.zeroValue76 _) gm (mapV vState SM) rfl HM1.out x0 rfl ?_; rw [if_neg (by decide), show (Value.agg #[.bool false, .bool false]) = vState (false, false) from rfl, mapV_get, ← HS.out]; dsimp only [vState]))
 go_ret
 exact ⟨by first | rfl | (rw [← HBB.out]; rfl) | (simp [← HBB.out]), HB.out⟩
def idxB51 (p : S51 → Bool) (l : List S51) : Int := match l.findIdx? p with | some i => i | none => -1
theorem idxB51_some (p : S51 → Bool) (l : List S51) (i : Int) (h0 : 0 ≤ i) (h1 : i < l.length) (hp : p (rd_T51 l i) = true) (hb : ∀ j : Nat, j < i.toNat → p (rd_T51 l j) = false) : idxB51 p l = i := by
 have h' : i.toNat < l.length := by omega
 have hf : l.findIdx? p = some i.toNat := by
  rw [List.findIdx?_eq_some_iff_getElem]
  refine ⟨h', ?_, fun j hj => ?_⟩
  ·have := hp
   simpa [rd_T51, List.getD_eq_getElem?_getD, h'] using this
  ·have := hb j hj
   have hj' : j < l.length := by omega
   simpa [rd_T51, List.getD_eq_getElem?_getD, hj'] using this
 unfold idxB51
 rw [hf]
 show ((i.toNat : Nat) : Int) = i
 omega
theorem idxB51_none (p : S51 → Bool) (l : List S51) (hb : ∀ j : Nat, j < l.length → p (rd_T51 l j) = false) : idxB51 p l = -1 := by
 have hf : l.findIdx? p = none := by
  rw [List.findIdx?_eq_none_iff]
  intro x hx
  obtain ⟨j, hj, rfl⟩ := List.mem_iff_getElem.1 hx
  have := hb j hj
  simpa [rd_T51, List.getD_eq_getElem?_getD, hj] using this
 unfold idxB51
 rw [hf]
theorem refuses_index (A0 : Option Addr) (c0 : Nat) (l0 : List (S51)) (w : World) (hr0 : Kd.C k51 w A0 l0.length l0) (hc0 : l0.length ≤ c0) (hn : l0.length ≤ 140737488355328) (gS gm : Nat) (SM : Int → Option (Bool × Bool)) (hq : w.heap[gS]? = some (.cells #[.map (some gm)] 71 (0, 0))) (hm : MapI w gm (mapV vState SM)) :
 Calls Try.prog 34 #[.slice A0 l0.length c0, .func (.func 33) #[] #[.pointer (some ⟨gS, 0, none⟩)]] w fun e w' => e = .returned (.int .i64 (idxB51 (refB SM) l0)) ∧ Below w.heap.size w w' := by
 have hu51 := Try.underlying51
 have HR0 := Aside0.mk hr0
 have HC0 := Aside0.mk hc0
 have HN := Aside0.mk hn
 clear hr0 hc0 hn
 have HQ := Aside0.mk hq
 have HMM := Aside0.mk hm
 clear hq hm
 have HB := Aside0.mk (Below.refl w.heap.size w)
 go_enter Try.func34, Try.ntmps34
 go_wp2
 go_loopg [8] l0.length (fun kq v8 w' => ∃ (i : Int), v8 = .int .i64 i ∧ Aside0 (∀ j : Nat, j < i.toNat → (refB SM) (rd_T51 l0 j) = false) ∧ Aside0 (0 ≤ i ∧ kq + i.toNat = l0.length) ∧ Aside0 (Below w.heap.size w w'))
 case atStart => exact ⟨0, rfl, ⟨fun j hj => by simp at hj⟩, ⟨by simp⟩, HB⟩
 case round =>
  obtain ⟨i, rfl, HS, HK, HB⟩ := hrel
  by_cases hlt : i < l0.length
  ·have c1 : decide ((i:Int) < (l0.length : Int)) = true := decide_eq_true hlt
   have c2 : (0 ≤ i) = True := eq_true HK.out.1
   have c3 : (i < l0.length) = True := eq_true hlt
   obtain ⟨ad, e, hx0, hx1, hx2⟩ := at_T51 HR0.out i HK.out.1 hlt
   cases e
   replace hx0 := (HB.out.cell (World.block_lt_of_cell? w _ hx0)).trans hx0
   replace hx1 := (HB.out.cell (World.block_lt_of_cell? w _ hx1)).trans hx1
   replace hx2 := (HB.out.cell (World.block_lt_of_cell? w _ hx2)).trans hx2
   have HL := Aside0.mk hlt
   clear hlt
   have hw1 : i + 1 ≤ 9223372036854775807 := by have := HN.out; have := HL.out; omega
   have hw2 : 0 ≤ i + 1 := by have := HK.out; omega
   cases hp : (refB SM) (rd_T51 l0 i) with
   | true =>
    have HP := Aside0.mk hp
    clear hp
    go_wp2_with (first | ((with_reducible refine (run1_calls (rd_T51 l0 i).f0 (rd_T51 l0 i).f1 (rd_T51 l0 i).f2 gS gm SM _ _ (blk_below HQ.out HB.out) (HMM.out.below HB.out) HP.out).mono ?_); rintro e w1 ⟨rfl, hb⟩; have HB1 := Aside0.mk hb; clear hb))
    go_ret
    refine ⟨?_, HB.out.trans (HB1.out.mono HB.out.size)⟩
    rw [idxB51_some _ _ i HK.out.1 HL.out HP.out HS.out]
    first | rfl | (simp; done)
   | false =>
    have HP := Aside0.mk hp
    clear hp
    go_wp2_with (first | ((with_reducible refine (run1_calls (rd_T51 l0 i).f0 (rd_T51 l0 i).f1 (rd_T51 l0 i).f2 gS gm SM _ _ (blk_below HQ.out HB.out) (HMM.out.below HB.out) HP.out).mono ?_); rintro e w1 ⟨rfl, hb⟩; have HB1 := Aside0.mk hb; clear hb))
    go_roundg (gk - 1)
    case measure => have := HK.out; have := HL.out; omega
    case rel =>
     refine ⟨i + 1, ?_, ⟨fun j hj => ?_⟩, ⟨by have := HK.out; have := HL.out; omega⟩, ⟨HB.out.trans (HB1.out.mono HB.out.size)⟩⟩
     ·first | rfl | (simp; done)
     ·by_cases hji : j < i.toNat
      ·exact HS.out j hji
      ·have : (j : Int) = i := by have := HK.out; omega
       rw [this]
       exact HP.out
  ·have c1 : decide ((i:Int) < (l0.length : Int)) = false := decide_eq_false hlt
   have HL := Aside0.mk hlt
   clear hlt
   go_wp2
   go_ret
   refine ⟨?_, HB.out⟩
   rw [idxB51_none _ _ (fun j hj => HS.out j (by have := HK.out; have := HL.out; omega))]
   first | rfl | (simp; done)
def nOf (S : Int → Option (Bool × Bool)) (r : S49) : Nat := if idxB51 (refB S) r.f1 < 0 then r.f1.length else if r.f0 = true then (idxB51 (refB S) r.f1).toNat else 0
def brk (S : Int → Option (Bool × Bool)) (r : S49) : Bool := decide (0 ≤ idxB51 (refB S) r.f1)
def goM (S : Int → Option (Bool × Bool)) (l : List S49) : Nat → List S51
 | 0 => []
 | n + 1 => goM S l n ++ (rd_T49 l (n : Int)).f1.take (nOf S (rd_T49 l (n : Int)))
def brM (S : Int → Option (Bool × Bool)) (l : List S49) : Nat → List Int
 | 0 => []
 | n + 1 => if brk S (rd_T49 l (n : Int)) = true then brM S l n ++ [(n : Int)] else brM S l n
theorem goM_succ (S : Int → Option (Bool × Bool)) (l : List S49) (n : Nat) : goM S l (n + 1) = goM S l n ++ (rd_T49 l (n : Int)).f1.take (nOf S (rd_T49 l (n : Int))) := rfl
theorem brM_succ (S : Int → Option (Bool × Bool)) (l : List S49) (n : Nat) : brM S l (n + 1) = if brk S (rd_T49 l (n : Int)) = true then brM S l n ++ [(n : Int)] else brM S l n := rfl
theorem brM_len (S : Int → Option (Bool × Bool)) (l : List S49) : ∀ n, (brM S l n).length ≤ n
 | 0 => by simp [brM]
 | n + 1 => by
  have := brM_len S l n
  unfold brM
  split
  ·rw [List.length_append]; simp; omega
  ·omega
theorem goM_len (S : Int → Option (Bool × Bool)) (l : List S49) (h : ∀ i : Int, 0 ≤ i → i < l.length → (rd_T49 l i).f1.length ≤ 1000) : ∀ n, n ≤ l.length → (goM S l n).length ≤ 1000 * n
 | 0 => fun _ => by simp [goM]
 | n + 1 => fun hn => by
  have h1 := goM_len S l h n (by omega)
  have h2 := h (n : Int) (by omega) (by omega)
  unfold goM
  rw [List.length_append, List.length_take]
  omega
theorem idx_lt (p : S51 → Bool) (l : List S51) : idxB51 p l < l.length ∧ -1 ≤ idxB51 p l := by
 unfold idxB51
 cases h : l.findIdx? p with
 | none => simp; omega
 | some i =>
  obtain ⟨h1, _, _⟩ := List.findIdx?_eq_some_iff_getElem.1 h
  simp
  omega
def runR (fl : List S84) (pa : List S46) (l : List S49) (due : Int) (rs : List S55) : List S51 × List Int × Int :=
 if marketOk fl pa = true ∧ repliesB rs = true ∧ 0 ≤ due ∧ due ≤ 36524 ∧ ringsB (homesM pa pa.length) (knownM fl fl.length) (occM pa pa.length) l = true then (goM (repM rs due rs.length) l l.length, brM (repM rs due rs.length) l l.length, 0) else ([], [], 1)
def fewAll (fl : List S84) (pa : List S46) (l : List S49) (rs : List S55) : Bool := fewM fl pa && fewR l && l.all (fun r => decide (r.f1.length ≤ 1000)) && decide (rs.length ≤ 1000000000 ∧ l.length ≤ 1000000)
theorem fewAll_at {fl : List S84} {pa : List S46} {l : List S49} {rs : List S55} (h : fewAll fl pa l rs = true) : fewM fl pa = true ∧ fewR l = true ∧ rs.length ≤ 1000000000 ∧ l.length ≤ 1000000 ∧ ∀ i : Int, 0 ≤ i → i < l.length → (rd_T49 l i).f1.length ≤ 1000 := by
 unfold fewAll at h
 simp only [Bool.and_eq_true, decide_eq_true_iff, List.all_eq_true] at h
 refine ⟨h.1.1.1, h.1.1.2, h.2.1, h.2.2, fun i h0 h1 => ?_⟩
 have h2 : i.toNat < l.length := by omega
 have := h.1.2 (l[i.toNat]'h2) (List.getElem_mem _)
 simpa [rd_T49, List.getD_eq_getElem?_getD, h2] using this
def chain_Run.f (l0_0 : List (S84)) (l0_1 : List (S46)) (l1 : List (S49)) (a2 : Int) (l3 : List (S55)) : Option ((List (S51)) × List Int × Int) := if fewAll l0_0 l0_1 l1 l3 = true then some (runR l0_0 l0_1 l1 a2 l3) else none
set_option maxHeartbeats 16000000 in
theorem run_calls (A0 : Option Addr) (c0 : Nat) (l0 : List (S84)) (A9 : Option Addr) (c9 : Nat) (l9 : List (S46)) (A1 : Option Addr) (c1 : Nat) (l1 : List (S49)) (due : Int) (A3 : Option Addr) (c3 : Nat) (l3 : List (S55)) (r : List S51 × List Int × Int) (w : World) (hr0 : Kd.C k84 w A0 l0.length l0) (hc0 : l0.length ≤ c0) (hr9 : Kd.C k46 w A9 l9.length l9) (hc9 : l9.length ≤ c9) (hr1 : Kd.C k49 w A1 l1.length l1) (hc1 : l1.length ≤ c1) (hr3 : Kd.C k55 w A3 l3.length l3) (hc3 : l3.length ≤ c3) (hf : fewAll l0 l9 l1 l3 = true) (hr : r = runR l0 l9 l1 due l3) :
  Calls Try.prog 13 #[.agg #[.slice A0 l0.length c0, .slice A9 l9.length c9], .slice A1 l1.length c1, .int .i64 due, .slice A3 l3.length c3] w fun e w' => ∃ v0_ v1_ : Value, e = .returned (.tuple #[v0_, v1_, .int .i64 r.2.2]) ∧ Kd.R k51 51 w' w.heap.size (fun _ => True) v0_ r.1 ∧ Kd.R (Kd.int .i64) 3 w' w.heap.size (fun _ => True) v1_ r.2.1 ∧ Below w.heap.size w w' := by
 have hu25 := Try.underlying25
 have hu68 := Try.underlying68
 have hu49 := Try.underlying49
 have hu71 := Try.underlying71
 obtain ⟨f1, f2, f3, f4, f5⟩ := fewAll_at hf
 have HF := Aside0.mk f1
 have HF2 := Aside0.mk f2
 have HF3 := Aside0.mk f3
 have HF4 := Aside0.mk f4
 have HF5 := Aside0.mk f5
 have HR0 := Aside0.mk hr0
 have HC0 := Aside0.mk hc0
 have HR9 := Aside0.mk hr9
 have HC9 := Aside0.mk hc9
 have HR1 := Aside0.mk hr1
 have HC1 := Aside0.mk hc1
 have HR3 := Aside0.mk hr3
 have HC3 := Aside0.mk hc3
 have HB := Aside0.mk (Below.refl w.heap.size w)
 have HRR := Aside0.mk hr
 clear hr0 hc0 hr9 hc9 hr1 hc1 hr3 hc3 hf f1 f2 f3 f4 f5 hr
 go_enter Try.func13, Try.ntmps13
 go_upto_region 2 with (first | ((with_reducible refine gate_dst (N := 4) rfl ?_); refine box_event ?hg (N := 4) ?hd (cs := #[.slice A0 l0.length c0, .slice A9 l9.length c9]) (t := 25) ?hr ?_; (case hd => rfl); (case hg => rfl); (case hr => first | (go_simp; done) | (go_simp; rfl)); intro gM hg_M w1 hbox_ hb_; have n0_ := Aside0.mk (below_step HB.out hb_); have BM := Aside0.mk hbox_; have GM := Aside0.mk (show w.heap.size ≤ gM by rw [hg_M]; exact below_size HB.out); have EM := Aside0.mk hg_M; have hcM0 : w1.cell? ⟨gM, 0, none⟩ = some (.slice A0 l0.length c0) := (blk_cell hbox_ 0).trans rfl; have hfM0 := blk_frozen hbox_ 0; have hcM1 : w1.cell? ⟨gM, 1, none⟩ = some (.slice A9 l9.length c9) := (blk_cell hbox_ 1).trans rfl; have hfM1 := blk_frozen hbox_ 1; clear HB hg_M hbox_ hb_; have HB := n0_; clear n0_) | (go_at_call 30; (with_reducible refine (read_calls A0 c0 l0 A9 c9 l9 _ (Kd.C_below HR0.out HB.out) HC0.out (Kd.C_below HR9.out HB.out) HC9.out HF.out).mono ?_); rintro e w2 ⟨m1, m2, m3, rfl, ht_, hb_⟩; have HT := Aside0.mk (show marketOk l0 l9 = true → ∃ g1 g2 g3, m1 = some g1 ∧ m2 = some g2 ∧ m3 = some g3 ∧ Town w2 w.heap.size g1 g2 g3 (homesM l9 l9.length) (knownM l0 l0.length) (occM l9 l9.length) from fun h_ => by obtain ⟨g1, g2, g3, e1_, e2_, e3_, t_⟩ := ht_ h_; exact ⟨g1, g2, g3, e1_, e2_, e3_, t_.low (below_size HB.out)⟩); replace hcM0 := (hb_.cell (World.block_lt_of_cell? _ _ hcM0)).trans hcM0; replace hcM1 := (hb_.cell (World.block_lt_of_cell? _ _ hcM1)).trans hcM1; have n0_ := Aside0.mk (below_step HB.out hb_); clear HB hb_ ht_; have HB := n0_; clear n0_) | ((with_reducible refine gate_dst (N := 11) rfl ?_); refine box_event ?hg (N := 11) ?hd (cs := #[.map none, .map none, .map none]) (t := 68) ?hr ?_; (case hd => rfl); (case hg => rfl); (case hr => first | (go_simp; done) | (go_simp; rfl)); intro gT hg_T w3 hbox_ hb_; have n0_ := Aside0.mk (below_step HB.out hb_); have BT := Aside0.mk hbox_; have GT := Aside0.mk (show w.heap.size ≤ gT by rw [hg_T]; exact below_size HB.out); have ET := Aside0.mk hg_T; have hcT0 : w3.cell? ⟨gT, 0, none⟩ = some (.map none) := (blk_cell hbox_ 0).trans rfl; have hfT0 := blk_frozen hbox_ 0; have hcT1 : w3.cell? ⟨gT, 1, none⟩ = some (.map none) := (blk_cell hbox_ 1).trans rfl; have hfT1 := blk_frozen hbox_ 1; have hcT2 : w3.cell? ⟨gT, 2, none⟩ = some (.map none) := (blk_cell hbox_ 2).trans rfl; have hfT2 := blk_frozen hbox_ 2; have n2_ := Aside0.mk (show marketOk l0 l9 = true → ∃ g1 g2 g3, m1 = some g1 ∧ m2 = some g2 ∧ m3 = some g3 ∧ Town w3 w.heap.size g1 g2 g3 (homesM l9 l9.length) (knownM l0 l0.length) (occM l9 l9.length) from fun h_ => by obtain ⟨g1, g2, g3, e1_, e2_, e3_, t_⟩ := HT.out h_; exact ⟨g1, g2, g3, e1_, e2_, e3_, t_.later hb_⟩); clear HT; have HT := n2_; clear n2_; clear HB hg_T hbox_ hb_; have HB := n0_; clear n0_))
 obtain ⟨w4, hw4⟩ : ∃ w4, w4 = ((w3.setCell ⟨gT, 0, none⟩ (.map m1)).setCell ⟨gT, 1, none⟩ (.map m2)).setCell ⟨gT, 2, none⟩ (.map m3) := ⟨_, rfl⟩
 rw [← hw4]
 have BT4 := Aside0.mk (show w4.heap[gT]? = some (.cells #[.map m1, .map m2, .map m3] 68 (0, 0)) by rw [hw4]; exact blk_put3 BT.out _ _ _)
 have HT4 := Aside0.mk (show marketOk l0 l9 = true → ∃ g1 g2 g3, m1 = some g1 ∧ m2 = some g2 ∧ m3 = some g3 ∧ Town w4 w.heap.size g1 g2 g3 (homesM l9 l9.length) (knownM l0 l0.length) (occM l9 l9.length) from fun h => by
  obtain ⟨g1, g2, g3, e1, e2, e3, ht⟩ := HT.out h
  refine ⟨g1, g2, g3, e1, e2, e3, ?_⟩
  rw [hw4]
  exact ((ht.put BT.out 0 _).put (blk_put BT.out 0 _ rfl) 1 _).put (blk_put (blk_put BT.out 0 _ rfl) 1 _ rfl) 2 _)
 have n0_ := Aside0.mk (show Below w.heap.size w w4 by rw [hw4]; exact below_put3 HB.out GT.out _ _ _)
 clear HB HT BT hw4 hcT0 hcT1 hcT2 hfT0 hfT1 hfT2 hcM0 hcM1 hfM0 hfM1 BM
 have HB := n0_
 clear n0_
 go_upto_region 3 with (first | (go_at_call 31; (with_reducible refine (replied_calls A3 c3 l3 due _ (Kd.C_below HR3.out HB.out) HC3.out HF3.out).mono ?_); rintro e w5 ⟨mv, rfl, hm_, hb_⟩; have HM5 := Aside0.mk (show repliesB l3 = true → ∃ g, mv = some g ∧ w.heap.size ≤ g ∧ MapI w5 g (mapV vState (repM l3 due l3.length)) from fun h_ => by obtain ⟨g, e1_, e2_, m_⟩ := hm_ h_; exact ⟨g, e1_, Nat.le_trans (below_size HB.out) e2_, m_⟩); have BT5 := Aside0.mk (blk_below BT4.out hb_); have HT5 := Aside0.mk (show marketOk l0 l9 = true → ∃ g1 g2 g3, m1 = some g1 ∧ m2 = some g2 ∧ m3 = some g3 ∧ Town w5 w.heap.size g1 g2 g3 (homesM l9 l9.length) (knownM l0 l0.length) (occM l9 l9.length) from fun h_ => by obtain ⟨g1, g2, g3, e1_, e2_, e3_, t_⟩ := HT4.out h_; exact ⟨g1, g2, g3, e1_, e2_, e3_, t_.later hb_⟩); have n0_ := Aside0.mk (below_step HB.out hb_); clear HB hb_ hm_; have HB := n0_; clear n0_) | ((with_reducible refine gate_dst (N := 13) rfl ?_); refine box_event ?hg (N := 13) ?hd (cs := #[.map none]) (t := 71) ?hr ?_; (case hd => rfl); (case hg => rfl); (case hr => first | (go_simp; done) | (go_simp; rfl)); intro gS hg_S w6 hbox_ hb_; have n0_ := Aside0.mk (below_step HB.out hb_); have BS := Aside0.mk hbox_; have GS := Aside0.mk (show w.heap.size ≤ gS by rw [hg_S]; exact below_size HB.out); have ES := Aside0.mk hg_S; have hcS0 : w6.cell? ⟨gS, 0, none⟩ = some (.map none) := (blk_cell hbox_ 0).trans rfl; have hfS0 := blk_frozen hbox_ 0; have BT6 := Aside0.mk (blk_below BT5.out hb_); have HT6 := Aside0.mk (show marketOk l0 l9 = true → ∃ g1 g2 g3, m1 = some g1 ∧ m2 = some g2 ∧ m3 = some g3 ∧ Town w6 w.heap.size g1 g2 g3 (homesM l9 l9.length) (knownM l0 l0.length) (occM l9 l9.length) from fun h_ => by obtain ⟨g1, g2, g3, e1_, e2_, e3_, t_⟩ := HT5.out h_; exact ⟨g1, g2, g3, e1_, e2_, e3_, t_.later hb_⟩); have HM6 := Aside0.mk (show repliesB l3 = true → ∃ g, mv = some g ∧ w.heap.size ≤ g ∧ MapI w6 g (mapV vState (repM l3 due l3.length)) from fun h_ => by obtain ⟨g, e1_, e2_, m_⟩ := HM5.out h_; exact ⟨g, e1_, e2_, m_.below hb_⟩); clear BT5 HT5 HM5; clear HB hg_S hbox_ hb_; have HB := n0_; clear n0_))
 obtain ⟨w7, hw7⟩ : ∃ w7, w7 = w6.setCell ⟨gS, 0, none⟩ (.map mv) := ⟨_, rfl⟩
 rw [← hw7]
 have NTS := Aside0.mk (show gT ≠ gS from blk_ne BT6.out BS.out (by decide))
 have BT7 := Aside0.mk (show w7.heap[gT]? = some (.cells #[.map m1, .map m2, .map m3] 68 (0, 0)) by rw [hw7]; exact (Below.heap_setCell _ _ _ _ NTS.out).trans BT6.out)
 have BS7 := Aside0.mk (show w7.heap[gS]? = some (.cells #[.map mv] 71 (0, 0)) by rw [hw7]; exact blk_put BS.out 0 _ rfl)
 have HT7 := Aside0.mk (show marketOk l0 l9 = true → ∃ g1 g2 g3, m1 = some g1 ∧ m2 = some g2 ∧ m3 = some g3 ∧ Town w7 w.heap.size g1 g2 g3 (homesM l9 l9.length) (knownM l0 l0.length) (occM l9 l9.length) from fun h => by
  obtain ⟨g1, g2, g3, e1, e2, e3, ht⟩ := HT6.out h
  refine ⟨g1, g2, g3, e1, e2, e3, ?_⟩
  rw [hw7]
  exact ht.put BS.out 0 _)
 have HM7 := Aside0.mk (show repliesB l3 = true → ∃ g, mv = some g ∧ w.heap.size ≤ g ∧ MapI w7 g (mapV vState (repM l3 due l3.length)) from fun h => by
  obtain ⟨g, e1, e2, hm⟩ := HM6.out h
  refine ⟨g, e1, e2, ?_⟩
  rw [hw7]
  exact hm.move (Below.heap_setCell _ _ _ _ (fun e => hm.ne_blk BS.out (by rw [e]))))
 have HB7 := Aside0.mk (show Below w.heap.size w w7 by rw [hw7]; exact below_set HB.out GS.out)
 clear HB HT4 HT6 HM6 BT4 BT6 BS hw7 hcS0 hfS0 NTS
 cases hx1 : marketOk l0 l9 with
 | false =>
  have HE := Aside0.mk (show r = ([], [], 1) by rw [HRR.out]; unfold runR; rw [if_neg (by rw [hx1]; rintro ⟨h, _⟩; cases h)])
  clear hx1
  go_wp2_with (fail)
  go_ret3
  rw [HE.out]
  exact ⟨_, _, rfl, Kd.R_nil _ _ _ _ _, Kd.R_nil _ _ _ _ _, HB7.out⟩
 | true =>
 obtain ⟨g1, g2, g3, e1, e2, e3, hT⟩ := HT7.out hx1
 subst e1
 subst e2
 subst e3
 have HT8 := Aside0.mk hT
 clear hT HT7
 cases hx2 : repliesB l3 with
 | false =>
  have HE := Aside0.mk (show r = ([], [], 1) by rw [HRR.out]; unfold runR; rw [if_neg (by rw [hx2]; rintro ⟨_, h, _⟩; cases h)])
  clear hx1 hx2
  go_wp2_with (fail)
  go_ret3
  rw [HE.out]
  exact ⟨_, _, rfl, Kd.R_nil _ _ _ _ _, Kd.R_nil _ _ _ _ _, HB7.out⟩
 | true =>
 obtain ⟨gm, e4, gml, hM⟩ := HM7.out hx2
 subst e4
 have HM8 := Aside0.mk hM
 clear hM HM7 gml
 by_cases hx3 : due < 0
 ·have HE := Aside0.mk (show r = ([], [], 1) by rw [HRR.out]; unfold runR; rw [if_neg (by rintro ⟨_, _, h, _⟩; omega)])
  have u3 : decide (due < 0) = true := decide_eq_true hx3
  clear hx1 hx2 hx3
  go_wp2_with (fail)
  go_ret3
  rw [HE.out]
  exact ⟨_, _, rfl, Kd.R_nil _ _ _ _ _, Kd.R_nil _ _ _ _ _, HB7.out⟩
 have u3 : decide (due < 0) = false := decide_eq_false hx3
 by_cases hx4 : 36524 < due
 ·have HE := Aside0.mk (show r = ([], [], 1) by rw [HRR.out]; unfold runR; rw [if_neg (by rintro ⟨_, _, _, h, _⟩; omega)])
  have u4 : decide (36524 < due) = true := decide_eq_true hx4
  clear hx1 hx2 hx3 hx4
  go_wp2_with (fail)
  go_ret3
  rw [HE.out]
  exact ⟨_, _, rfl, Kd.R_nil _ _ _ _ _, Kd.R_nil _ _ _ _ _, HB7.out⟩
 have u4 : decide (36524 < due) = false := decide_eq_false hx4
 have hcT0 : w7.cell? ⟨gT, 0, none⟩ = some (.map (some g1)) := (blk_cell BT7.out 0).trans rfl
 have hcT1 : w7.cell? ⟨gT, 1, none⟩ = some (.map (some g2)) := (blk_cell BT7.out 1).trans rfl
 have hcT2 : w7.cell? ⟨gT, 2, none⟩ = some (.map (some g3)) := (blk_cell BT7.out 2).trans rfl
 cases hx5 : ringsB (homesM l9 l9.length) (knownM l0 l0.length) (occM l9 l9.length) l1 with
 | false =>
  have HE := Aside0.mk (show r = ([], [], 1) by rw [HRR.out]; unfold runR; rw [if_neg (by rw [hx5]; rintro ⟨_, _, _, _, h⟩; cases h)])
  have HX5 := Aside0.mk hx5
  clear hx1 hx2 hx3 hx4 hx5
  go_wp2_with (first | (go_at_call 32; (with_reducible refine (rings_calls _ w.heap.size g1 g2 g3 _ _ _ A1 c1 l1 HT8.out (Kd.C_below HR1.out HB7.out) HC1.out HF2.out).mono ?_); rw [HX5.out]; rintro e w8 ⟨rfl, hb_⟩; have HB8 := Aside0.mk (below_step HB7.out hb_); have BS8 := Aside0.mk (blk_below BS7.out hb_); have HM9 := Aside0.mk (HM8.out.below hb_); clear hb_ hcT0 hcT1 hcT2))
  go_ret3
  rw [HE.out]
  exact ⟨_, _, rfl, Kd.R_nil _ _ _ _ _, Kd.R_nil _ _ _ _ _, HB8.out⟩
 | true =>
  obtain ⟨SM, hSM⟩ : ∃ SM, SM = repM l3 due l3.length := ⟨_, rfl⟩
  have HE := Aside0.mk (show r = (goM SM l1 l1.length, brM SM l1 l1.length, 0) by rw [HRR.out, hSM]; unfold runR; rw [if_pos ⟨hx1, hx2, by omega, by omega, hx5⟩])
  have HX5 := Aside0.mk hx5
  rw [← hSM] at HM8
  clear hx1 hx2 hx3 hx4 hx5 hSM
  go_wp2_with (first | (go_at_call 32; (with_reducible refine (rings_calls _ w.heap.size g1 g2 g3 _ _ _ A1 c1 l1 HT8.out (Kd.C_below HR1.out HB7.out) HC1.out HF2.out).mono ?_); rw [HX5.out]; rintro e w8 ⟨rfl, hb_⟩; have HB8 := Aside0.mk (below_step HB7.out hb_); have BS8 := Aside0.mk (blk_below BS7.out hb_); have HM9 := Aside0.mk (HM8.out.below hb_); clear hb_ hcT0 hcT1 hcT2))
  go_loopg [16, 17, 55] l1.length (fun kq v16 v17 v55 wr => ∃ (n : Nat), v55 = .int .i64 n ∧ Aside0 (kq + n = l1.length) ∧ Aside0 (Kd.R k51 51 wr w.heap.size (fun _ => True) v16 (goM SM l1 n)) ∧ Aside0 (Kd.R (Kd.int .i64) 3 wr w.heap.size (fun _ => True) v17 (brM SM l1 n)) ∧ Aside0 (wr.heap[gS]? = some (.cells #[.map (some gm)] 71 (0, 0))) ∧ Aside0 (MapI wr gm (mapV vState SM)) ∧ Aside0 (Below w.heap.size w wr))
  case atStart => exact ⟨0, rfl, ⟨by omega⟩, ⟨Kd.R_nil _ _ _ _ _⟩, ⟨Kd.R_nil _ _ _ _ _⟩, BS8, HM9, HB8⟩
  case round =>
   clear BS8 HM9 HB8 HM8 BS7 BT7 HT8 HB7
   rename_i V16_ V17_
   obtain ⟨n, rfl, HK, HG, HBK, BS, HM, HB⟩ := hrel
   by_cases hlt : n < l1.length
   ·obtain ⟨i, hi⟩ : ∃ i : Int, i = (n : Int) := ⟨_, rfl⟩
    rw [← hi]
    have HI2 := Aside0.mk (show 0 ≤ i ∧ i < l1.length ∧ i = (n : Int) from ⟨by omega, by omega, hi⟩)
    have d7 : decide (i < (l1.length : Int)) = true := decide_eq_true HI2.out.2.1
    have ci2 : (0 ≤ i) = True := eq_true HI2.out.1
    have ci3 : (i < l1.length) = True := eq_true HI2.out.2.1
    obtain ⟨adr, Ar, cr, er, hx0, hx1, hrc, hrC⟩ := at_T49 HR1.out i HI2.out.1 HI2.out.2.1
    subst er
    obtain ⟨q, hq⟩ : ∃ q, q = rd_T49 l1 i := ⟨_, rfl⟩
    have HRL := Aside0.mk (show q.f1.length ≤ 1000 by rw [hq]; exact HF5.out i HI2.out.1 HI2.out.2.1)
    rw [← hq] at hx0 hx1 hrc hrC
    have HRC := Aside0.mk (And.intro hrc hrC)
    replace hx0 := (HB.out.cell (World.block_lt_of_cell? _ _ hx0)).trans hx0
    replace hx1 := (HB.out.cell (World.block_lt_of_cell? _ _ hx1)).trans hx1
    have HP := Aside0.mk (show rd_T49 l1 (n : Int) = q by rw [hq, hi])
    have hz1 : i + 1 ≤ 9223372036854775807 := by have := HI2.out; have := HF4.out; omega
    have hz2 : -9223372036854775808 ≤ i + 1 := by have := HI2.out; omega
    have HLT := Aside0.mk hlt
    have HGL := Aside0.mk (show (goM SM l1 n).length ≤ 1000 * n from goM_len SM l1 HF5.out n (by omega))
    have HBL := Aside0.mk (brM_len SM l1 n)
    clear hi hlt hq hrc hrC
    obtain ⟨A16, c16, e16⟩ := Kd.R_slice HG.out
    obtain ⟨A17, c17, e17⟩ := Kd.R_slice HBK.out
    subst e16
    subst e17
    go_upto_region 11 with (first | (have HB0 := Aside0.mk (Below.refl wr.heap.size wr); (with_reducible refine gate_dst (N := 19) rfl ?_); refine box_event ?hg (N := 19) ?hd (cs := #[.bool false, .slice none 0 0]) (t := 49) ?hr ?_; (case hd => rfl); (case hg => rfl); (case hr => first | (go_simp; done) | (go_simp; rfl)); intro gr hg_R w9 hbox_ hb_; have n0_ := Aside0.mk (below_step HB0.out hb_); have BR := Aside0.mk hbox_; have GR := Aside0.mk (show wr.heap.size ≤ gr by rw [hg_R]; exact below_size HB0.out); have ER := Aside0.mk hg_R; have hcr0 : w9.cell? ⟨gr, 0, none⟩ = some (.bool false) := (blk_cell hbox_ 0).trans rfl; have hfr0 := blk_frozen hbox_ 0; have hcr1 : w9.cell? ⟨gr, 1, none⟩ = some (.slice none 0 0) := (blk_cell hbox_ 1).trans rfl; have hfr1 := blk_frozen hbox_ 1; replace hx0 := (hb_.cell (World.block_lt_of_cell? _ _ hx0)).trans hx0; replace hx1 := (hb_.cell (World.block_lt_of_cell? _ _ hx1)).trans hx1; clear HB0 hg_R hbox_ hb_; have HB0 := n0_; clear n0_))
    obtain ⟨w10, hw10⟩ : ∃ w10, w10 = (w9.setCell ⟨gr, 0, none⟩ (.bool q.f0)).setCell ⟨gr, 1, none⟩ (.slice Ar q.f1.length cr) := ⟨_, rfl⟩
    rw [← hw10]
    have BR10 := Aside0.mk (show w10.heap[gr]? = some (.cells #[.bool q.f0, .slice Ar q.f1.length cr] 49 (0, 0)) by rw [hw10]; exact blk_put2 BR.out _ _)
    have hb10 : Below wr.heap.size wr w10 := by rw [hw10]; exact below_put2 HB0.out GR.out _ _
    have HG10 := Aside0.mk (Kd.R_below HG.out hb10)
    have HK10 := Aside0.mk (Kd.R_below HBK.out hb10)
    have BS10 := Aside0.mk (blk_below BS.out hb10)
    have HM10 := Aside0.mk (HM.out.below hb10)
    have HB10 := Aside0.mk (below_step HB.out hb10)
    clear hw10 hb10 BR HB0 hcr0 hcr1 hfr0 hfr1 hx0 hx1 HG HBK BS HM HB
    have hcr0 : w10.cell? ⟨gr, 0, none⟩ = some (.bool q.f0) := (blk_cell BR10.out 0).trans rfl
    have hcr1 : w10.cell? ⟨gr, 1, none⟩ = some (.slice Ar q.f1.length cr) := (blk_cell BR10.out 1).trans rfl
    have HIX := Aside0.mk (idx_lt (refB SM) q.f1)
    obtain ⟨x, hx⟩ : ∃ x, x = idxB51 (refB SM) q.f1 := ⟨_, rfl⟩
    rw [← hx] at HIX
    have HX := Aside0.mk hx
    clear hx
    obtain ⟨i0_, hi0_, _, _, _⟩ := info_parts info51
    by_cases g0 : x < 0
    ·have u0 : decide (x < 0) = true := decide_eq_true g0
     have HN := Aside0.mk (show nOf SM q = q.f1.length by unfold nOf; rw [← HX.out, if_pos g0])
     have HBR := Aside0.mk (show brk SM q = false by unfold brk; rw [← HX.out]; exact decide_eq_false (by omega))
     have hcut := cut_to (P := Try.prog) 28 51 .i64 Try.underlying28 hi0_ Ar q.f1.length cr (q.f1.length : Int) (by omega) (by omega) HRC.out.1
     clear g0
     obtain ⟨m, hm⟩ : ∃ m, m = q.f1.length := ⟨_, rfl⟩
     have HMN := Aside0.mk (show m = nOf SM q ∧ m ≤ q.f1.length from ⟨by rw [HN.out, hm], by omega⟩)
     obtain ⟨ys, hys⟩ : ∃ ys, ys = q.f1.take m := ⟨_, rfl⟩
     have hyl : ys.length = m := by rw [hys, List.length_take]; exact Nat.min_eq_left HMN.out.2
     have HYL := Aside0.mk hyl
     have HYS := Aside0.mk hys
     have HYC := Aside0.mk (show Kd.C k51 w Ar ys.length ys by rw [hys]; exact Kd.C_take (m := m) HRC.out.2 HMN.out.2)
     rw [show ((q.f1.length : Nat) : Int).toNat = ys.length by rw [hyl, hm]; rfl] at hcut
     clear hyl hys hm
     go_wp2_with (first | ((with_reducible refine (refuses_index Ar cr q.f1 _ (Kd.C_below HRC.out.2 HB10.out) HRC.out.1 (by have := HRL.out; omega) gS gm SM BS10.out HM10.out).mono ?_); rw [← HX.out]; rintro e w11 ⟨rfl, hb_⟩; have HG11 := Aside0.mk (Kd.R_below HG10.out hb_); have HK11 := Aside0.mk (Kd.R_below HK10.out hb_); have BS11 := Aside0.mk (blk_below BS10.out hb_); have HM11 := Aside0.mk (HM10.out.below hb_); have HB11 := Aside0.mk (below_step HB10.out hb_); have BR11 := Aside0.mk (blk_below BR10.out hb_); replace hcr0 := (hb_.cell (World.block_lt_of_cell? _ _ hcr0)).trans hcr0; replace hcr1 := (hb_.cell (World.block_lt_of_cell? _ _ hcr1)).trans hcr1; clear hb_) | ((with_reducible refine gate_builtin (b := .append) (xs := #[.tmp 81, .tmp 85]) rfl ?_); at_builtin; refine Kd.R_append_rows k51 (w0 := w) w.heap.size rfl (.tmp 81) (.tmp 85) 28 51 (.agg #[(.int .i64 0), (.int .i64 0), (.int .i64 0)]) 24 rfl Try.underlying28 info51 rfl (by decide) (by omega) (.slice A16 (goM SM l1 n).length c16) (goM SM l1 n) ys _ _ _ (fun _ => True) (fun _ => False) rfl rfl HG11.out (Kd.C_below HYC.out HB11.out) (fun _ _ h => h) (fun _ h => h.elim) (fun _ _ => trivial) HB11.out (below_size HB11.out) (by have := HGL.out; have := HLT.out; have := HF4.out; have := HYL.out; have := HMN.out.2; have := HRL.out; omega) ?_; intro v86 w13 ho hb hg hat; have HG13 := Aside0.mk ho; have HK13 := Aside0.mk (Kd.R_over' HK11.out (Kd.R_typed HG11.out) (by decide) hg); have BS13 := Aside0.mk (blk_grown BS11.out hg (Kd.R_ne HG11.out BS11.out (by decide))); have HM13 := Aside0.mk (HM11.out.kept hg (HM11.out.ne_row HG11.out)); have HB13 := Aside0.mk hb; clear ho hb hg hat))
     go_roundg (gk - 1)
     case measure => have := HK.out; have := HLT.out; omega
     case rel =>
      refine ⟨n + 1, ?_, ⟨by have := HK.out; have := HLT.out; omega⟩, ⟨?_⟩, ⟨?_⟩, BS13, HM13, HB13⟩
      ·have := HI2.out
       first | (rw [show ((n + 1 : Nat) : Int) = i + 1 from by omega]; done) | (simp; omega)
      ·have h := HG13.out
       rw [goM_succ, HP.out, ← HMN.out.1, ← HYS.out]
       exact h
      ·have h := HK13.out
       rw [brM_succ, HP.out, HBR.out]
       rw [if_neg (by decide)]
       exact h
    have u0 : decide (x < 0) = false := decide_eq_false g0
    have HBR := Aside0.mk (show brk SM q = true by unfold brk; rw [← HX.out]; exact decide_eq_true (by omega))
    rcases Bool.eq_false_or_eq_true q.f0 with hch | hch
    ·rw [hch] at hcr0
     obtain ⟨m, hm⟩ : ∃ m : Nat, m = x.toNat := ⟨_, rfl⟩
     have HMN := Aside0.mk (show m = nOf SM q ∧ m ≤ q.f1.length from ⟨by unfold nOf; rw [← HX.out, if_neg g0, if_pos hch, hm], by have := HIX.out; omega⟩)
     have hcut := cut_to (P := Try.prog) 28 51 .i64 Try.underlying28 hi0_ Ar q.f1.length cr x (by omega) (by have := HIX.out; omega) HRC.out.1
     obtain ⟨ys, hys⟩ : ∃ ys, ys = q.f1.take m := ⟨_, rfl⟩
     have hyl : ys.length = m := by rw [hys, List.length_take]; exact Nat.min_eq_left HMN.out.2
     have HYL := Aside0.mk hyl
     have HYS := Aside0.mk hys
     have HYC := Aside0.mk (show Kd.C k51 w Ar ys.length ys by rw [hys]; exact Kd.C_take (m := m) HRC.out.2 HMN.out.2)
     rw [show x.toNat = ys.length by rw [hyl, hm]] at hcut
     clear g0 hch hm hyl hys
     go_wp2_with (first | ((with_reducible refine (refuses_index Ar cr q.f1 _ (Kd.C_below HRC.out.2 HB10.out) HRC.out.1 (by have := HRL.out; omega) gS gm SM BS10.out HM10.out).mono ?_); rw [← HX.out]; rintro e w11 ⟨rfl, hb_⟩; have HG11 := Aside0.mk (Kd.R_below HG10.out hb_); have HK11 := Aside0.mk (Kd.R_below HK10.out hb_); have BS11 := Aside0.mk (blk_below BS10.out hb_); have HM11 := Aside0.mk (HM10.out.below hb_); have HB11 := Aside0.mk (below_step HB10.out hb_); have BR11 := Aside0.mk (blk_below BR10.out hb_); replace hcr0 := (hb_.cell (World.block_lt_of_cell? _ _ hcr0)).trans hcr0; replace hcr1 := (hb_.cell (World.block_lt_of_cell? _ _ hcr1)).trans hcr1; clear hb_) | ((with_reducible refine gate_builtin (b := .append) (xs := #[.tmp 77, .tmp 79]) rfl ?_); at_builtin; refine Kd.R_append (Kd.int .i64) (w0 := w) w.heap.size rfl (.tmp 77) (.tmp 79) 29 3 (.int .i64 0) 8 rfl Try.underlying29 info3 rfl (by decide) (by omega) (.slice A17 (brM SM l1 n).length c17) (brM SM l1 n) i [.int .i64 i] (fun _ => True) (fun _ => False) rfl rfl rfl (fun _ hk => hk.elim) (fun _ _ => trivial) HK11.out HB11.out (below_size HB11.out) (by have := HBL.out; have := HLT.out; have := HF4.out; omega) ?_; intro v56 w12 ho hb hg hat; have HK12 := Aside0.mk ho; have HG12 := Aside0.mk (Kd.R_over' HG11.out (Kd.R_typed HK11.out) (by decide) hg); have BS12 := Aside0.mk (blk_grown BS11.out hg (Kd.R_ne HK11.out BS11.out (by decide))); have BR12 := Aside0.mk (blk_grown BR11.out hg (Kd.R_ne HK11.out BR11.out (by decide))); have HM12 := Aside0.mk (HM11.out.kept hg (HM11.out.ne_row HK11.out)); have HB12 := Aside0.mk hb; replace hcr0 := (blk_cell BR12.out 0).trans rfl; replace hcr1 := (blk_cell BR12.out 1).trans rfl; clear ho hb hg hat) | ((with_reducible refine gate_builtin (b := .append) (xs := #[.tmp 81, .tmp 85]) rfl ?_); at_builtin; refine Kd.R_append_rows k51 (w0 := w) w.heap.size rfl (.tmp 81) (.tmp 85) 28 51 (.agg #[(.int .i64 0), (.int .i64 0), (.int .i64 0)]) 24 rfl Try.underlying28 info51 rfl (by decide) (by omega) (.slice A16 (goM SM l1 n).length c16) (goM SM l1 n) ys _ _ _ (fun _ => True) (fun _ => False) rfl rfl HG12.out (Kd.C_below HYC.out HB12.out) (fun _ _ h => h) (fun _ h => h.elim) (fun _ _ => trivial) HB12.out (below_size HB12.out) (by have := HGL.out; have := HLT.out; have := HF4.out; have := HYL.out; have := HMN.out.2; have := HRL.out; omega) ?_; intro v86 w13 ho hb hg hat; have HG13 := Aside0.mk ho; have HK13 := Aside0.mk (Kd.R_over' HK12.out (Kd.R_typed HG12.out) (by decide) hg); have BS13 := Aside0.mk (blk_grown BS12.out hg (Kd.R_ne HG12.out BS12.out (by decide))); have HM13 := Aside0.mk (HM12.out.kept hg (HM12.out.ne_row HG12.out)); have HB13 := Aside0.mk hb; clear ho hb hg hat))
     go_roundg (gk - 1)
     case measure => have := HK.out; have := HLT.out; omega
     case rel =>
      refine ⟨n + 1, ?_, ⟨by have := HK.out; have := HLT.out; omega⟩, ⟨?_⟩, ⟨?_⟩, BS13, HM13, HB13⟩
      ·have := HI2.out
       first | (rw [show ((n + 1 : Nat) : Int) = i + 1 from by omega]; done) | (simp; omega)
      ·have h := HG13.out
       rw [goM_succ, HP.out, ← HMN.out.1, ← HYS.out]
       exact h
      ·have h := HK13.out
       rw [brM_succ, HP.out, HBR.out]
       have := HI2.out
       rw [if_pos rfl, show ((n : Nat) : Int) = i from this.2.2.symm]
       exact h
    ·rw [hch] at hcr0
     obtain ⟨m, hm⟩ : ∃ m : Nat, m = 0 := ⟨_, rfl⟩
     have HMN := Aside0.mk (show m = nOf SM q ∧ m ≤ q.f1.length from ⟨by unfold nOf; rw [← HX.out, if_neg g0, if_neg (by rw [hch]; decide), hm], by omega⟩)
     have hcut := cut_to (P := Try.prog) 28 51 .i64 Try.underlying28 hi0_ Ar q.f1.length cr 0 (by omega) (by omega) HRC.out.1
     obtain ⟨ys, hys⟩ : ∃ ys, ys = q.f1.take m := ⟨_, rfl⟩
     have hyl : ys.length = m := by rw [hys, List.length_take]; exact Nat.min_eq_left HMN.out.2
     have HYL := Aside0.mk hyl
     have HYS := Aside0.mk hys
     have HYC := Aside0.mk (show Kd.C k51 w Ar ys.length ys by rw [hys]; exact Kd.C_take (m := m) HRC.out.2 HMN.out.2)
     rw [show (0 : Int).toNat = ys.length by rw [hyl, hm]; rfl] at hcut
     clear g0 hch hm hyl hys
     go_wp2_with (first | ((with_reducible refine (refuses_index Ar cr q.f1 _ (Kd.C_below HRC.out.2 HB10.out) HRC.out.1 (by have := HRL.out; omega) gS gm SM BS10.out HM10.out).mono ?_); rw [← HX.out]; rintro e w11 ⟨rfl, hb_⟩; have HG11 := Aside0.mk (Kd.R_below HG10.out hb_); have HK11 := Aside0.mk (Kd.R_below HK10.out hb_); have BS11 := Aside0.mk (blk_below BS10.out hb_); have HM11 := Aside0.mk (HM10.out.below hb_); have HB11 := Aside0.mk (below_step HB10.out hb_); have BR11 := Aside0.mk (blk_below BR10.out hb_); replace hcr0 := (hb_.cell (World.block_lt_of_cell? _ _ hcr0)).trans hcr0; replace hcr1 := (hb_.cell (World.block_lt_of_cell? _ _ hcr1)).trans hcr1; clear hb_) | ((with_reducible refine gate_builtin (b := .append) (xs := #[.tmp 64, .tmp 66]) rfl ?_); at_builtin; refine Kd.R_append (Kd.int .i64) (w0 := w) w.heap.size rfl (.tmp 64) (.tmp 66) 29 3 (.int .i64 0) 8 rfl Try.underlying29 info3 rfl (by decide) (by omega) (.slice A17 (brM SM l1 n).length c17) (brM SM l1 n) i [.int .i64 i] (fun _ => True) (fun _ => False) rfl rfl rfl (fun _ hk => hk.elim) (fun _ _ => trivial) HK11.out HB11.out (below_size HB11.out) (by have := HBL.out; have := HLT.out; have := HF4.out; omega) ?_; intro v56 w12 ho hb hg hat; have HK12 := Aside0.mk ho; have HG12 := Aside0.mk (Kd.R_over' HG11.out (Kd.R_typed HK11.out) (by decide) hg); have BS12 := Aside0.mk (blk_grown BS11.out hg (Kd.R_ne HK11.out BS11.out (by decide))); have BR12 := Aside0.mk (blk_grown BR11.out hg (Kd.R_ne HK11.out BR11.out (by decide))); have HM12 := Aside0.mk (HM11.out.kept hg (HM11.out.ne_row HK11.out)); have HB12 := Aside0.mk hb; replace hcr0 := (blk_cell BR12.out 0).trans rfl; replace hcr1 := (blk_cell BR12.out 1).trans rfl; clear ho hb hg hat) | ((with_reducible refine gate_builtin (b := .append) (xs := #[.tmp 81, .tmp 85]) rfl ?_); at_builtin; refine Kd.R_append_rows k51 (w0 := w) w.heap.size rfl (.tmp 81) (.tmp 85) 28 51 (.agg #[(.int .i64 0), (.int .i64 0), (.int .i64 0)]) 24 rfl Try.underlying28 info51 rfl (by decide) (by omega) (.slice A16 (goM SM l1 n).length c16) (goM SM l1 n) ys _ _ _ (fun _ => True) (fun _ => False) rfl rfl HG12.out (Kd.C_below HYC.out HB12.out) (fun _ _ h => h) (fun _ h => h.elim) (fun _ _ => trivial) HB12.out (below_size HB12.out) (by have := HGL.out; have := HLT.out; have := HF4.out; have := HYL.out; have := HMN.out.2; have := HRL.out; omega) ?_; intro v86 w13 ho hb hg hat; have HG13 := Aside0.mk ho; have HK13 := Aside0.mk (Kd.R_over' HK12.out (Kd.R_typed HG12.out) (by decide) hg); have BS13 := Aside0.mk (blk_grown BS12.out hg (Kd.R_ne HG12.out BS12.out (by decide))); have HM13 := Aside0.mk (HM12.out.kept hg (HM12.out.ne_row HG12.out)); have HB13 := Aside0.mk hb; clear ho hb hg hat))
     go_roundg (gk - 1)
     case measure => have := HK.out; have := HLT.out; omega
     case rel =>
      refine ⟨n + 1, ?_, ⟨by have := HK.out; have := HLT.out; omega⟩, ⟨?_⟩, ⟨?_⟩, BS13, HM13, HB13⟩
      ·have := HI2.out
       first | (rw [show ((n + 1 : Nat) : Int) = i + 1 from by omega]; done) | (simp; omega)
      ·have h := HG13.out
       rw [goM_succ, HP.out, ← HMN.out.1, ← HYS.out]
       exact h
      ·have h := HK13.out
       rw [brM_succ, HP.out, HBR.out]
       have := HI2.out
       rw [if_pos rfl, show ((n : Nat) : Int) = i from this.2.2.symm]
       exact h
   ·have d7 : decide ((n : Int) < (l1.length : Int)) = false := decide_eq_false (by omega)
    have d7' : decide (n < l1.length) = false := decide_eq_false hlt
    have hnl : n = l1.length := by have := HK.out; omega
    rw [hnl] at HG HBK
    clear hlt hnl
    go_wp2
    go_ret3
    rw [HE.out]
    exact ⟨_, _, rfl, HG.out, HBK.out, HB.out⟩
theorem chain_Run.calls (A0_0 : Option Addr) (c0_0 : Nat) (l0_0 : List (S84)) (A0_1 : Option Addr) (c0_1 : Nat) (l0_1 : List (S46)) (A1 : Option Addr) (c1 : Nat) (l1 : List (S49)) (a2 : Int) (A3 : Option Addr) (c3 : Nat) (l3 : List (S55)) (r1 : List (S51)) (r2 : List Int) (r3 : Int) (w : World) (hr0_0 : Kd.C k84 w A0_0 l0_0.length l0_0) (hc0_0 : l0_0.length ≤ c0_0) (hr0_1 : Kd.C k46 w A0_1 l0_1.length l0_1) (hc0_1 : l0_1.length ≤ c0_1) (hr1 : Kd.C k49 w A1 l1.length l1) (hc1 : l1.length ≤ c1) (hr3 : Kd.C k55 w A3 l3.length l3) (hc3 : l3.length ≤ c3) (h : chain_Run.f l0_0 l0_1 l1 a2 l3 = some (r1, r2, r3)) :
  Calls Try.prog 13 #[.agg #[.slice A0_0 l0_0.length c0_0, .slice A0_1 l0_1.length c0_1], .slice A1 l1.length c1, .int .i64 a2, .slice A3 l3.length c3] w fun e w' => ∃ v0_ v1_ : Value, e = .returned (.tuple #[v0_, v1_, .int .i64 r3]) ∧ Kd.R k51 51 w' w.heap.size (fun _ => True) v0_ r1 ∧ Kd.R (Kd.int .i64) 3 w' w.heap.size (fun _ => True) v1_ r2 ∧ Below w.heap.size w w' := by
 unfold chain_Run.f at h
 by_cases hf : fewAll l0_0 l0_1 l1 l3 = true
 case neg => rw [if_neg hf] at h; cases h
 rw [if_pos hf] at h
 exact run_calls A0_0 c0_0 l0_0 A0_1 c0_1 l0_1 A1 c1 l1 a2 A3 c3 l3 (r1, r2, r3) w hr0_0 hc0_0 hr0_1 hc0_1 hr1 hc1 hr3 hc3 hf (Option.some.inj h).symm
end
section
theorem eqA51 (d : Nat) (w : World) (x0 y0 : Int) (x1 y1 : Int) (x2 y2 : Int) :
  (Op.equalIn (d + 2) 51 (.agg #[.int .i64 x0, .int .i64 x1, .int .i64 x2]) (.agg #[.int .i64 y0, .int .i64 y1, .int .i64 y2])).run Try.prog w = .ok (x0 == y0 && (x1 == y1 && (x2 == y2))) w := by
 refine eqA_of Try.underlying51 (by kernel_rfl) ?_
 refine eqf_cons (by rfl) (by go_simp; rfl) (by go_simp; rfl) (by go_simp) ?_
 refine eqf_cons (by rfl) (by go_simp; rfl) (by go_simp; rfl) (by go_simp) ?_
 exact eqf_last (by rfl) (by go_simp; rfl) (by go_simp; rfl) (by go_simp)
end
section
attribute [local go_sem high] eqA51
def cohousingref26_SameMoves.l0 : Nat → List (S51) → List (S51) → Int → Option (Bool)
 | 0, _, _, _ => none
 | k + 1, x0, x1, x5 => if x5 < (x0.length : Int) then (if 0 ≤ x5 then (if x5 < (x1.length : Int) then (if (!(((rd_T51 x0 x5).f0) == ((rd_T51 x1 x5).f0)) || (!(((rd_T51 x0 x5).f1) == ((rd_T51 x1 x5).f1)) || (!(((rd_T51 x0 x5).f2) == ((rd_T51 x1 x5).f2))))) = true then (some false) else (cohousingref26_SameMoves.l0 k x0 x1 (wrap64 (x5 + 1)))) else (none)) else (none)) else (some true)
def cohousingref26_SameMoves.f (k : Nat) (l0 : List (S51)) (l1 : List (S51)) : Option (Bool) := if (l0.length : Int) = (l1.length : Int) then (cohousingref26_SameMoves.l0 k l0 l1 0) else (some false)
theorem cohousingref26_SameMoves.mono_l : ∀ k, (∀ y0 y1 y2, LeO (cohousingref26_SameMoves.l0 k y0 y1 y2) (cohousingref26_SameMoves.l0 (k + 1) y0 y1 y2))
 | 0 => fun _ _ _ r h => by simp [cohousingref26_SameMoves.l0] at h
 | k + 1 => by
  have ih0 := cohousingref26_SameMoves.mono_l k
  ·intro y0 y1 y2
   unfold cohousingref26_SameMoves.l0
   repeat' first
   | (with_reducible exact ih0 _ _ _)
   | (with_reducible exact LeO.refl _)
   | (with_reducible exact LeO.none _)
   | (with_reducible refine LeO.ite ?_ ?_)
   | (with_reducible refine LeO.bind ?_ (fun _ => ?_))
   | exact ih0 _ _ _
   | exact LeO.none _
   | refine LeO.ite ?_ ?_
   | refine LeO.bind ?_ (fun _ => ?_)
theorem cohousingref26_SameMoves.mono : ∀ a0 a1 k, LeO (cohousingref26_SameMoves.f k a0 a1) (cohousingref26_SameMoves.f (k + 1) a0 a1) := by
 intro a0 a1 k
 have ih0 := cohousingref26_SameMoves.mono_l k
 unfold cohousingref26_SameMoves.f
 repeat' first
   | (with_reducible exact ih0 _ _ _)
   | (with_reducible exact LeO.refl _)
   | (with_reducible exact LeO.none _)
   | (with_reducible refine LeO.ite ?_ ?_)
   | (with_reducible refine LeO.bind ?_ (fun _ => ?_))
   | exact ih0 _ _ _
   | exact LeO.none _
   | refine LeO.ite ?_ ?_
   | refine LeO.bind ?_ (fun _ => ?_)
theorem cohousingref26_SameMoves.calls (k : Nat) (A0 : Option Addr) (c0 : Nat) (l0 : List (S51)) (A1 : Option Addr) (c1 : Nat) (l1 : List (S51)) (r : Bool) (w : World) (hr0 : Kd.C k51 w A0 l0.length l0) (hc0 : l0.length ≤ c0) (hr1 : Kd.C k51 w A1 l1.length l1) (hc1 : l1.length ≤ c1) (h : cohousingref26_SameMoves.f k l0 l1 = some r) :
  Calls Try.prog 17 #[.slice A0 l0.length c0, .slice A1 l1.length c1] w fun e w' => e = .returned (.bool r) ∧ Drawn0 w w' := by
 have hu51 := Try.underlying51
 have HR0 := Aside0.mk hr0
 have HC0 := Aside0.mk hc0
 clear hr0 hc0
 have HR1 := Aside0.mk hr1
 have HC1 := Aside0.mk hc1
 clear hr1 hc1
 have H : (if (l0.length : Int) = (l1.length : Int) then (cohousingref26_SameMoves.l0 k l0 l1 0) else (some false)) = some r := h
 clear h
 by_cases c3 : (l0.length : Int) = (l1.length : Int)
 ·rw [if_pos c3] at H
  have c3b0 : ((l0.length : Int) == (l1.length : Int)) = true := beq_iff_eq.mpr c3
  have c3b1 : ((l0.length : Int) != (l1.length : Int)) = false := bne_eq_false_iff_eq.mpr c3
  have c3b2 : (l0.length == l1.length) = true := by first | simpa using c3 | (simp at c3 ⊢; omega)
  clear c3
  have H' := Aside0.mk H
  clear H
  go_enter Try.func17, Try.ntmps17
  go_wp2
  repeat (go_quiet (fail); try go_wp2)
  go_loopg [5] k (fun kq v5 w' => ∃ (x5_1 : Int), v5 = .int .i64 x5_1 ∧ Aside0 (cohousingref26_SameMoves.l0 kq l0 l1 x5_1 = some r) ∧ Aside0 (kq ≤ k) ∧ Drawn0 w w')
  case atStart => exact ⟨(0), sd_, H', ⟨Nat.le_refl _⟩, by repeat (first | exact Drawn0.refl _ | apply Drawn0.step)⟩
  case round =>
   clear H'
   try clear c1
   try clear p2
   try clear c3
   try clear c3b0
   try clear c3b1
   try clear c3b2
   obtain ⟨x5_1, rfl, HA, HK1, ⟨m1, rfl⟩⟩ := hrel
   cases gk with
   | zero => exact absurd HA.out (by simp [cohousingref26_SameMoves.l0])
   | succ k1 =>
    have H := HA.out
    clear HA
    simp only [cohousingref26_SameMoves.l0] at H
    by_cases c4 : x5_1 < (l0.length : Int)
    ·rw [if_pos c4] at H
     have c4b0 : decide (x5_1 < (l0.length : Int)) = true := decide_eq_true c4
     clear c4
     by_cases c5 : 0 ≤ x5_1
     ·rw [if_pos c5] at H
      have c5b0 : decide (0 ≤ x5_1) = true := decide_eq_true c5
      clear c5
      by_cases c6 : x5_1 < (l1.length : Int)
      ·rw [if_pos c6] at H
       have c6b0 : decide (x5_1 < (l1.length : Int)) = true := decide_eq_true c6
       clear c6
       by_cases c7 : (!(((rd_T51 l0 x5_1).f0) == ((rd_T51 l1 x5_1).f0)) || (!(((rd_T51 l0 x5_1).f1) == ((rd_T51 l1 x5_1).f1)) || (!(((rd_T51 l0 x5_1).f2) == ((rd_T51 l1 x5_1).f2))))) = true
       ·rw [if_pos c7] at H
        have c7b0 : (!(((rd_T51 l0 x5_1).f0) == ((rd_T51 l1 x5_1).f0)) || (!(((rd_T51 l0 x5_1).f1) == ((rd_T51 l1 x5_1).f1)) || (!(((rd_T51 l0 x5_1).f2) == ((rd_T51 l1 x5_1).f2))))) = true := c7
        clear c7
        obtain rfl := Option.some.inj H
        have p103 : 0 ≤ (x5_1 : Int) := od_
        have q103 : x5_1 < (l0.length : Int) := od_
        obtain ⟨ad103, e103, hx103_0, hx103_1, hx103_2⟩ := at_T51 HR0.out x5_1 p103 q103
        cases e103
        replace p103 := eq_true p103
        replace q103 := eq_true q103
        have p104 : 0 ≤ (x5_1 : Int) := od_
        have q104 : x5_1 < (l1.length : Int) := od_
        obtain ⟨ad104, e104, hx104_0, hx104_1, hx104_2⟩ := at_T51 HR1.out x5_1 p104 q104
        cases e104
        replace p104 := eq_true p104
        replace q104 := eq_true q104
        go_wp2
        repeat (go_quiet (fail); try go_wp2)
        go_ret
        exact ⟨by first | rfl | (simp; done) | (simp [*]; done), by repeat (first | exact Drawn0.refl _ | apply Drawn0.step)⟩
       ·rw [if_neg c7] at H
        have c7b0 : (!(((rd_T51 l0 x5_1).f0) == ((rd_T51 l1 x5_1).f0)) || (!(((rd_T51 l0 x5_1).f1) == ((rd_T51 l1 x5_1).f1)) || (!(((rd_T51 l0 x5_1).f2) == ((rd_T51 l1 x5_1).f2))))) = false := by simpa using c7
        clear c7
        have H' := Aside0.mk H
        clear H
        have p103 : 0 ≤ (x5_1 : Int) := od_
        have q103 : x5_1 < (l0.length : Int) := od_
        obtain ⟨ad103, e103, hx103_0, hx103_1, hx103_2⟩ := at_T51 HR0.out x5_1 p103 q103
        cases e103
        replace p103 := eq_true p103
        replace q103 := eq_true q103
        have p104 : 0 ≤ (x5_1 : Int) := od_
        have q104 : x5_1 < (l1.length : Int) := od_
        obtain ⟨ad104, e104, hx104_0, hx104_1, hx104_2⟩ := at_T51 HR1.out x5_1 p104 q104
        cases e104
        replace p104 := eq_true p104
        replace q104 := eq_true q104
        go_wp2
        repeat (go_quiet (fail); try go_wp2)
        go_roundg k1
        case measure => have := HK1.out; omega
        case rel => exact ⟨(wrap64 (x5_1 + 1)), sd_, H', ⟨by have := HK1.out; omega⟩, by repeat (first | exact Drawn0.refl _ | apply Drawn0.step)⟩
      ·rw [if_neg c6] at H
       exact absurd H (by simp)
     ·rw [if_neg c5] at H
      exact absurd H (by simp)
    ·rw [if_neg c4] at H
     have c4b0 : decide (x5_1 < (l0.length : Int)) = false := decide_eq_false c4
     clear c4
     obtain rfl := Option.some.inj H
     go_wp2
     repeat (go_quiet (fail); try go_wp2)
     go_ret
     exact ⟨by first | rfl | (simp; done) | (simp [*]; done), by repeat (first | exact Drawn0.refl _ | apply Drawn0.step)⟩
 ·rw [if_neg c3] at H
  have c3b0 : ((l0.length : Int) == (l1.length : Int)) = false := beq_eq_false_iff_ne.mpr c3
  have c3b1 : ((l0.length : Int) != (l1.length : Int)) = true := bne_iff_ne.mpr c3
  have c3b2 : (l0.length == l1.length) = false := by first | simpa using c3 | (simp at c3 ⊢; omega)
  obtain rfl := Option.some.inj H
  go_enter Try.func17, Try.ntmps17
  go_wp2
  repeat (go_quiet (fail); try go_wp2)
  go_ret
  exact ⟨by first | rfl | (simp; done) | (simp [*]; done), by repeat (first | exact Drawn0.refl _ | apply Drawn0.step)⟩
end
section
def cohousinglaw26_example.f  : Option ((List (S84)) × (List (S46)) × (List (S49))) := some ((([(⟨1, 1⟩ : S84), (⟨2, 1⟩ : S84), (⟨3, 1⟩ : S84)] : List (S84))), (([(⟨5, 1, ([] : List Int)⟩ : S46), (⟨6, 2, ([] : List Int)⟩ : S46), (⟨7, 0, ([] : List Int)⟩ : S46)] : List (S46))), (([(⟨true, (([(⟨5, 1, 3⟩ : S51), (⟨6, 2, 1⟩ : S51), (⟨7, 0, 2⟩ : S51)] : List (S51)))⟩ : S49)] : List (S49))))
theorem cohousinglaw26_example.calls  (r1 : List (S84)) (r2 : List (S46)) (r3 : List (S49)) (w : World) (h : cohousinglaw26_example.f  = some (r1, r2, r3)) :
  Calls Try.prog 29 #[] w fun e w' => ∃ v0_ v1_ v2_ : Value, e = .returned (.tuple #[.agg #[v0_, v1_], v2_]) ∧ Kd.R k84 84 w' w.heap.size (fun k_ => (w.heap.size ≤ k_)) v0_ r1 ∧ Kd.N k46 46 w' w.heap.size (fun k_ => (w.heap.size ≤ k_) ∧ some k_ ≠ (v0_ : Value).ownBlock ∧ some k_ ≠ (v2_ : Value).ownBlock) v1_ r2 ∧ Kd.N k49 49 w' w.heap.size (fun k_ => (w.heap.size ≤ k_) ∧ some k_ ≠ (v0_ : Value).ownBlock ∧ some k_ ≠ (v1_ : Value).ownBlock) v2_ r3 ∧ Below w.heap.size w w' := by
 have hu25 := Try.underlying25
 have hu84 := Try.underlying84
 have hu46 := Try.underlying46
 have hu51 := Try.underlying51
 have hu49 := Try.underlying49
 have HB := Aside0.mk (Below.refl w.heap.size w)
 have H : (some ((([(⟨1, 1⟩ : S84), (⟨2, 1⟩ : S84), (⟨3, 1⟩ : S84)] : List (S84))), (([(⟨5, 1, ([] : List Int)⟩ : S46), (⟨6, 2, ([] : List Int)⟩ : S46), (⟨7, 0, ([] : List Int)⟩ : S46)] : List (S46))), (([(⟨true, (([(⟨5, 1, 3⟩ : S51), (⟨6, 2, 1⟩ : S51), (⟨7, 0, 2⟩ : S51)] : List (S51)))⟩ : S49)] : List (S49))))) = some (r1, r2, r3) := h
 clear h
 obtain ⟨y108, hy108⟩ : ∃ y_ : List (S84), y_ = (([(⟨1, 1⟩ : S84), (⟨2, 1⟩ : S84), (⟨3, 1⟩ : S84)] : List (S84))) := ⟨_, rfl⟩
 replace H : (some (y108, (([(⟨5, 1, ([] : List Int)⟩ : S46), (⟨6, 2, ([] : List Int)⟩ : S46), (⟨7, 0, ([] : List Int)⟩ : S46)] : List (S46))), (([(⟨true, (([(⟨5, 1, 3⟩ : S51), (⟨6, 2, 1⟩ : S51), (⟨7, 0, 2⟩ : S51)] : List (S51)))⟩ : S49)] : List (S49))))) = some (r1, r2, r3) := by first | (rw [hy108]; with_reducible exact H) | (have H2_ := (Option.bind_some _ _).symm.trans H; rw [hy108]; with_reducible exact H2_) | (have H2_ := (Option.bind_some _ _).symm.trans H; with_reducible exact H2_) | with_reducible exact H | (rw [hy108]; exact H) | exact H
 have Ny108 := Aside0.mk hy108
 clear hy108
 obtain ⟨y111, hy111⟩ : ∃ y_ : List (S46), y_ = (([(⟨5, 1, ([] : List Int)⟩ : S46), (⟨6, 2, ([] : List Int)⟩ : S46), (⟨7, 0, ([] : List Int)⟩ : S46)] : List (S46))) := ⟨_, rfl⟩
 replace H : (some (y108, y111, (([(⟨true, (([(⟨5, 1, 3⟩ : S51), (⟨6, 2, 1⟩ : S51), (⟨7, 0, 2⟩ : S51)] : List (S51)))⟩ : S49)] : List (S49))))) = some (r1, r2, r3) := by first | (rw [hy111]; with_reducible exact H) | (have H2_ := (Option.bind_some _ _).symm.trans H; rw [hy111]; with_reducible exact H2_) | (have H2_ := (Option.bind_some _ _).symm.trans H; with_reducible exact H2_) | with_reducible exact H | (rw [hy111]; exact H) | exact H
 have Ny111 := Aside0.mk hy111
 clear hy111
 obtain ⟨y115, hy115⟩ : ∃ y_ : List (S51), y_ = (([(⟨5, 1, 3⟩ : S51), (⟨6, 2, 1⟩ : S51), (⟨7, 0, 2⟩ : S51)] : List (S51))) := ⟨_, rfl⟩
 replace H : (some (y108, y111, (([(⟨true, y115⟩ : S49)] : List (S49))))) = some (r1, r2, r3) := by first | (rw [hy115]; with_reducible exact H) | (have H2_ := (Option.bind_some _ _).symm.trans H; rw [hy115]; with_reducible exact H2_) | (have H2_ := (Option.bind_some _ _).symm.trans H; with_reducible exact H2_) | with_reducible exact H | (rw [hy115]; exact H) | exact H
 have Ny115 := Aside0.mk hy115
 clear hy115
 obtain ⟨y118, hy118⟩ : ∃ y_ : List (S49), y_ = (([(⟨true, y115⟩ : S49)] : List (S49))) := ⟨_, rfl⟩
 replace H : (some (y108, y111, y118)) = some (r1, r2, r3) := by first | (rw [hy118]; with_reducible exact H) | (have H2_ := (Option.bind_some _ _).symm.trans H; rw [hy118]; with_reducible exact H2_) | (have H2_ := (Option.bind_some _ _).symm.trans H; with_reducible exact H2_) | with_reducible exact H | (rw [hy118]; exact H) | exact H
 have Ny118 := Aside0.mk hy118
 clear hy118
 simp only [Option.some.injEq, Prod.mk.injEq] at H
 obtain ⟨rfl, rfl, rfl⟩ := H
 go_enter Try.func29, Try.ntmps29
 go_wp2_with (first | ((with_reducible refine gate_dst (N := 0) rfl ?_); refine box_event ?hg (N := 0) ?hd (cs := #[.slice none 0 0, .slice none 0 0]) (t := 25) ?hr ?_; (case hd => rfl); (case hg => rfl); (case hr => first | (go_simp; done) | (go_simp; rfl)); intro gb107 hg w1 hbox hb; have n0_ := Aside0.mk (below_step (bb_ HB) hb); have n1_ := Aside0.mk (hbox); have n2_ := Aside0.mk ((by rw [hg]; exact (below_size (bb_ HB)) : w.heap.size ≤ gb107)); have n3_ := Aside0.mk ((by rw [hg]; exact (below_size (bb_ HB)) : w.heap.size ≤ gb107)); clear HB; have HB := n0_; have BK107 := n1_; have GW107 := n2_; have GE107 := n3_; clear n0_ n1_ n2_ n3_; clear hb hbox hg) | ((with_reducible refine gate_dst (N := 6) rfl ?_); refine Kd.R_lit k84 _ 84 ?hg (N := 6) ?hd (xs := ([(⟨1, 1⟩ : S84), (⟨2, 1⟩ : S84), (⟨3, 1⟩ : S84)] : List (S84))) (inner := [.int .i64 1, .int .i64 1, .int .i64 2, .int .i64 1, .int .i64 3, .int .i64 1]) (ok := fun _ => True) (okp := fun _ => True) ?hr ?hp (fun _ hk => hk) trivial (Below.refl _ _) (Nat.le_refl _) (by simp) ?_; (case hd => rfl); (case hg => rfl); (case hr => first | (go_simp; done) | (go_simp; rfl)); (case hp => exact (Reps.c2 (show Kd.M k84 _ _ _ (⟨1, 1⟩ : S84) [.int .i64 1, .int .i64 1] from (k84_mkM _ _ _ (⟨1, 1⟩ : S84) )) (Reps.c2 (show Kd.M k84 _ _ _ (⟨2, 1⟩ : S84) [.int .i64 2, .int .i64 1] from (k84_mkM _ _ _ (⟨2, 1⟩ : S84) )) (Reps.c2 (show Kd.M k84 _ _ _ (⟨3, 1⟩ : S84) [.int .i64 3, .int .i64 1] from (k84_mkM _ _ _ (⟨3, 1⟩ : S84) )) (Reps.none _ _))))); intro v109 w2 ho3 hb hg_ hnew_; clear hg_ hnew_; (first | rw [← Ny108.out] at ho3 | (simp only [Int.reduceToNat] at ho3; rw [← Ny108.out] at ho3)); have n0_ := Aside0.mk (Kd.R_lower (Kd.R_newM (M := fun k_ => (w.heap.size ≤ k_)) ho3 (below_size (bs_ HB GE107.out)) (fun k_ h_ => h_)) (below_size (bs_ HB GE107.out))); have n1_ := Aside0.mk (blk_below (g := gb107) (o := .cells #[.slice none 0 0, .slice none 0 0] 25 (0, 0)) (kk_ BK107) hb); have n2_ := Aside0.mk (below_step (bs_ HB GE107.out) hb); clear BK107; clear HB; have HO110 := n0_; have BK107 := n1_; have HB := n2_; clear n0_ n1_ n2_; clear hb ho3) | ((with_reducible refine gate_dst (N := 10) rfl ?_); refine Kd.N_lit k46 _ 46 ?hg (N' := 10) ?hd (xs := ([(⟨5, 1, ([] : List Int)⟩ : S46), (⟨6, 2, ([] : List Int)⟩ : S46), (⟨7, 0, ([] : List Int)⟩ : S46)] : List (S46))) (inner := [.int .i64 5, .int .i64 1, .slice none 0 0, .int .i64 6, .int .i64 2, .slice none 0 0, .int .i64 7, .int .i64 0, .slice none 0 0]) (ok := (fun k_ => (w.heap.size ≤ k_) ∧ some k_ ≠ (v109 : Value).ownBlock ∧ k_ ≠ gb107)) (okp := (fun k_ => (w.heap.size ≤ k_) ∧ some k_ ≠ (v109 : Value).ownBlock ∧ k_ ≠ gb107)) ?hr ?hp (fun _ hk => hk) ((show ∀ k_, w2.heap.size ≤ k_ → (fun k_ => (w.heap.size ≤ k_) ∧ some k_ ≠ (v109 : Value).ownBlock ∧ k_ ≠ gb107) k_ from fun k_ hk => ⟨(Nat.le_trans (below_size (bs_ HB GE107.out)) hk), Kd.fresh' (Kd.R_lt (rr_ HO110)) k_ hk, Kd.freshB (g := gb107) (o := .cells #[.slice none 0 0, .slice none 0 0] 25 (0, 0)) (kk_ BK107) k_ hk⟩) _ (Nat.le_refl _)) (Below.refl _ _) (Nat.le_refl _) (by simp) ?_; (case hd => rfl); (case hg => rfl); (case hr => first | (go_simp; done) | (go_simp; rfl)); (case hp => exact (Reps.c3 (show Kd.FK k46 _ _ (⟨5, 1, ([] : List Int)⟩ : S46) [.int .i64 5, .int .i64 1, .slice none 0 0] from (k46_mkF _ _ (⟨5, 1, ([] : List Int)⟩ : S46) (Nat.le_refl _) (Kd.F_nil _ _ _))) (Reps.c3 (show Kd.FK k46 _ _ (⟨6, 2, ([] : List Int)⟩ : S46) [.int .i64 6, .int .i64 2, .slice none 0 0] from (k46_mkF _ _ (⟨6, 2, ([] : List Int)⟩ : S46) (Nat.le_refl _) (Kd.F_nil _ _ _))) (Reps.c3 (show Kd.FK k46 _ _ (⟨7, 0, ([] : List Int)⟩ : S46) [.int .i64 7, .int .i64 0, .slice none 0 0] from (k46_mkF _ _ (⟨7, 0, ([] : List Int)⟩ : S46) (Nat.le_refl _) (Kd.F_nil _ _ _))) (Reps.none _ _))))); intro v112 w4 ho5 hb hg_ hnew_; clear hg_ hnew_; (first | rw [← Ny111.out] at ho5 | (simp only [Int.reduceToNat] at ho5; rw [← Ny111.out] at ho5)); have n0_ := Aside0.mk (Kd.R_below (rr_ HO110) hb); have n1_ := Aside0.mk (Kd.N_lower ho5 (below_size (bs_ HB GE107.out))); have n2_ := Aside0.mk (blk_below (g := gb107) (o := .cells #[.slice none 0 0, .slice none 0 0] 25 (0, 0)) (kk_ BK107) hb); have n3_ := Aside0.mk (below_step (bs_ HB GE107.out) hb); clear HO110; clear BK107; clear HB; have HO110 := n0_; have HO113 := n1_; have BK107 := n2_; have HB := n3_; clear n0_ n1_ n2_ n3_; clear hb ho5; obtain ⟨Ao6, co6, eo6⟩ := Kd.N_slice HO113.out; subst eo6; obtain ⟨Ao7, co7, eo7⟩ := Kd.R_slice HO110.out; subst eo7) | ((with_reducible refine gate_dst (N := 2) rfl ?_); refine box_event ?hg (N := 2) ?hd (cs := #[.slice none 0 0, .slice none 0 0]) (t := 25) ?hr ?_; (case hd => rfl); (case hg => rfl); (case hr => first | (go_simp; done) | (go_simp; rfl)); intro gb114 hg w8 hbox hb; have n0_ := Aside0.mk (Kd.R_below (rr_ HO110) hb); have n1_ := Aside0.mk (Kd.N_below (Kd.N_elderB (by (with_reducible repeat (first | apply Kd.N_alloc | apply Kd.N_drewN | apply Kd.N_drew)); exact HO113.out) gb114 (Nat.le_of_eq hg.symm)) hb); have n2_ := Aside0.mk (blk_below (g := gb107) (o := .cells #[.slice none 0 0, .slice none 0 0] 25 (0, 0)) (kk_ BK107) hb); have n3_ := Aside0.mk (below_step (bs_ HB GE107.out) hb); have n4_ := Aside0.mk (hbox); have n5_ := Aside0.mk ((by rw [hg]; exact (below_size (bs_ HB GE107.out)) : w.heap.size ≤ gb114)); have n6_ := Aside0.mk ((by rw [hg]; exact (below_size (bs_ HB GE107.out)) : w.heap.size ≤ gb114)); have n7_ := Aside0.mk ((by rw [hg]; exact Nat.ne_of_lt (blk_lt (g := gb107) (o := .cells #[.slice none 0 0, .slice none 0 0] 25 (0, 0)) (kk_ BK107)) : gb107 ≠ gb114)); have n8_ := Aside0.mk ((by rw [hg]; exact Nat.ne_of_gt (blk_lt (g := gb107) (o := .cells #[.slice none 0 0, .slice none 0 0] 25 (0, 0)) (kk_ BK107)) : gb114 ≠ gb107)); clear HO110; clear HO113; clear BK107; clear HB; have HO110 := n0_; have HO113 := n1_; have BK107 := n2_; have HB := n3_; have BK114 := n4_; have GW114 := n5_; have GE114 := n6_; have NB107_114 := n7_; have NB114_107 := n8_; clear n0_ n1_ n2_ n3_ n4_ n5_ n6_ n7_ n8_; clear hb hbox hg; have hnb9 := NB114_107.out; have hnc9 := NB107_114.out; have hcz10_0 : w8.cell? ⟨gb114, 0, none⟩ = some (.slice none 0 0) := (blk_cell BK114.out 0).trans rfl; have hcz10_1 : w8.cell? ⟨gb114, 1, none⟩ = some (.slice none 0 0) := (blk_cell BK114.out 1).trans rfl; have hfz10_0 := blk_frozen BK114.out 0; have hfz10_1 := blk_frozen BK114.out 1) | ((with_reducible refine gate_dst (N := 16) rfl ?_); refine Kd.R_lit k51 _ 51 ?hg (N := 16) ?hd (xs := ([(⟨5, 1, 3⟩ : S51), (⟨6, 2, 1⟩ : S51), (⟨7, 0, 2⟩ : S51)] : List (S51))) (inner := [.int .i64 5, .int .i64 1, .int .i64 3, .int .i64 6, .int .i64 2, .int .i64 1, .int .i64 7, .int .i64 0, .int .i64 2]) (ok := fun _ => True) (okp := fun _ => True) ?hr ?hp (fun _ hk => hk) trivial (Below.refl _ _) (Nat.le_refl _) (by simp) ?_; (case hd => rfl); (case hg => rfl); (case hr => first | (go_simp; done) | (go_simp; rfl)); (case hp => exact (Reps.c3 (show Kd.M k51 _ _ _ (⟨5, 1, 3⟩ : S51) [.int .i64 5, .int .i64 1, .int .i64 3] from (k51_mkM _ _ _ (⟨5, 1, 3⟩ : S51) )) (Reps.c3 (show Kd.M k51 _ _ _ (⟨6, 2, 1⟩ : S51) [.int .i64 6, .int .i64 2, .int .i64 1] from (k51_mkM _ _ _ (⟨6, 2, 1⟩ : S51) )) (Reps.c3 (show Kd.M k51 _ _ _ (⟨7, 0, 2⟩ : S51) [.int .i64 7, .int .i64 0, .int .i64 2] from (k51_mkM _ _ _ (⟨7, 0, 2⟩ : S51) )) (Reps.none _ _))))); intro v116 w11 ho12 hb hg_ hnew_; clear hg_ hnew_; (first | rw [← Ny115.out] at ho12 | (simp only [Int.reduceToNat] at ho12; rw [← Ny115.out] at ho12)); have n0_ := Aside0.mk (Kd.R_below (by (with_reducible repeat (first | apply Kd.R_alloc | apply Kd.R_drewN | apply Kd.R_drew)); exact (Kd.R_mono (Kd.R_far (p := ⟨gb114, 1, none⟩) (Kd.R_far (p := ⟨gb114, 0, none⟩) (Kd.R_types HO110.out BK114.out (by decide)) (fun _ hk => hk.2) (.slice Ao7 y108.length co7)) (fun _ hk => hk.2) (.slice Ao6 y111.length co6)) (fun _ h_ => h_.1))) hb); have n1_ := Aside0.mk (Kd.N_elder' (by (with_reducible repeat (first | apply Kd.N_alloc | apply Kd.N_drewN | apply Kd.N_drew)); exact (Kd.N_mono (Kd.N_far (p := ⟨gb114, 1, none⟩) (Kd.N_far (p := ⟨gb114, 0, none⟩) (Kd.N_mono HO113.out (fun k_ hk => (⟨hk, hk.2⟩ : _ ∧ k_ ≠ gb114))) (fun _ hk => hk.2) (.slice Ao7 y108.length co7)) (fun _ hk => hk.2) (.slice Ao6 y111.length co6)) (fun _ h_ => h_.1))) (Kd.R_base ho12) hb); have n2_ := Aside0.mk (Kd.R_lower (Kd.R_newM (M := fun k_ => (w.heap.size ≤ k_)) ho12 (below_size (by repeat (first | (with_reducible first | exact HB.out | apply below_alloc | apply pw_below_drewN | apply below_drew1 | refine below_set ?_ GE107.out | refine below_set ?_ GE114.out) | exact HB.out))) (fun k_ h_ => h_)) (below_size (by repeat (first | (with_reducible first | exact HB.out | apply below_alloc | apply pw_below_drewN | apply below_drew1 | refine below_set ?_ GE107.out | refine below_set ?_ GE114.out) | exact HB.out)))); have n3_ := Aside0.mk (blk_below (g := gb107) (o := .cells #[.slice none 0 0, .slice none 0 0] 25 (0, 0)) (by (with_reducible repeat (first | refine blk_drewN ?_ _ | refine blk_drew ?_ | refine blk_alloc ?_ _)); refine blk_far ?_ NB107_114.out _; (with_reducible repeat (first | refine blk_drewN ?_ _ | refine blk_drew ?_ | refine blk_alloc ?_ _)); refine blk_far ?_ NB107_114.out _; (with_reducible repeat (first | refine blk_drewN ?_ _ | refine blk_drew ?_ | refine blk_alloc ?_ _)); exact BK107.out) hb); have n4_ := Aside0.mk (blk_below (g := gb114) (o := .cells #[.slice Ao7 y108.length co7, .slice Ao6 y111.length co6] 25 (0, 0)) (by (with_reducible repeat (first | refine blk_drewN ?_ _ | refine blk_drew ?_ | refine blk_alloc ?_ _)); refine blk_put (cs := #[.slice Ao7 y108.length co7, .slice none 0 0]) ?_ 1 _ rfl; (with_reducible repeat (first | refine blk_drewN ?_ _ | refine blk_drew ?_ | refine blk_alloc ?_ _)); refine blk_put (cs := #[.slice none 0 0, .slice none 0 0]) ?_ 0 _ rfl; (with_reducible repeat (first | refine blk_drewN ?_ _ | refine blk_drew ?_ | refine blk_alloc ?_ _)); exact BK114.out) hb); have n5_ := Aside0.mk (below_step (by repeat (first | (with_reducible first | exact HB.out | apply below_alloc | apply pw_below_drewN | apply below_drew1 | refine below_set ?_ GE107.out | refine below_set ?_ GE114.out) | exact HB.out)) hb); clear HO110; clear HO113; clear BK107; clear BK114; clear HB; have HO110 := n0_; have HO113 := n1_; have HO117 := n2_; have BK107 := n3_; have BK114 := n4_; have HB := n5_; clear n0_ n1_ n2_ n3_ n4_ n5_; clear hb ho12; obtain ⟨Ao13, co13, eo13⟩ := Kd.R_slice HO117.out; subst eo13) | ((with_reducible refine gate_dst (N := 18) rfl ?_); refine Kd.N_lit k49 _ 49 ?hg (N' := 18) ?hd (xs := ([(⟨true, y115⟩ : S49)] : List (S49))) (inner := [.bool true, .slice Ao13 y115.length co13]) (ok := (fun k_ => (w.heap.size ≤ k_) ∧ some k_ ≠ (.slice Ao7 y108.length co7 : Value).ownBlock ∧ some k_ ≠ (.slice Ao6 y111.length co6 : Value).ownBlock ∧ k_ ≠ gb107 ∧ k_ ≠ gb114)) (okp := (fun k_ => (w.heap.size ≤ k_) ∧ some k_ ≠ (.slice Ao7 y108.length co7 : Value).ownBlock ∧ some k_ ≠ (.slice Ao6 y111.length co6 : Value).ownBlock ∧ k_ ≠ gb107 ∧ k_ ≠ gb114)) ?hr ?hp (fun _ hk => hk) ((show ∀ k_, w11.heap.size ≤ k_ → (fun k_ => (w.heap.size ≤ k_) ∧ some k_ ≠ (.slice Ao7 y108.length co7 : Value).ownBlock ∧ some k_ ≠ (.slice Ao6 y111.length co6 : Value).ownBlock ∧ k_ ≠ gb107 ∧ k_ ≠ gb114) k_ from fun k_ hk => ⟨(Nat.le_trans (below_size (by repeat (first | (with_reducible first | exact HB.out | apply below_alloc | apply pw_below_drewN | apply below_drew1 | refine below_set ?_ GE107.out | refine below_set ?_ GE114.out) | exact HB.out))) hk), Kd.fresh' (Kd.R_lt (rr_ HO110)) k_ hk, Kd.fresh' (Kd.N_lt (by (with_reducible repeat (first | apply Kd.N_alloc | apply Kd.N_drewN | apply Kd.N_drew)); exact HO113.out)) k_ hk, Kd.freshB (g := gb107) (o := .cells #[.slice none 0 0, .slice none 0 0] 25 (0, 0)) (kk_ BK107) k_ hk, Kd.freshB (g := gb114) (o := .cells #[.slice Ao7 y108.length co7, .slice Ao6 y111.length co6] 25 (0, 0)) (kk_ BK114) k_ hk⟩) _ (Nat.le_refl _)) (Below.refl _ _) (Nat.le_refl _) (by simp) ?_; (case hd => rfl); (case hg => rfl); (case hr => first | (go_simp; done) | (go_simp; rfl)); (case hp => exact (Reps.c2 (show Kd.FK k49 _ _ (⟨true, y115⟩ : S49) [.bool true, .slice Ao13 y115.length co13] from (k49_mkF _ _ (⟨true, y115⟩ : S49) (Kd.R_reads' (Kd.R_mono (ok' := (fun k_ => (w.heap.size ≤ k_) ∧ some k_ ≠ (.slice Ao7 y108.length co7 : Value).ownBlock ∧ some k_ ≠ (.slice Ao6 y111.length co6 : Value).ownBlock ∧ k_ ≠ gb107 ∧ k_ ≠ gb114)) (Kd.R_types (Kd.R_types (Kd.R_apart' (Kd.R_apart' (HO117.out) (Kd.R_typed HO110.out) (by decide)) (Kd.N_typed HO113.out) (by decide)) BK107.out (by decide)) BK114.out (by decide)) (fun k_ hk => ⟨hk.1.1.1.1.1, ⟨hk.1.1.1.2, ⟨hk.1.1.2, ⟨hk.1.2, hk.2⟩⟩⟩⟩))).2.1 (Kd.R_F (Kd.R_mono (ok' := (fun k_ => (w.heap.size ≤ k_) ∧ some k_ ≠ (.slice Ao7 y108.length co7 : Value).ownBlock ∧ some k_ ≠ (.slice Ao6 y111.length co6 : Value).ownBlock ∧ k_ ≠ gb107 ∧ k_ ≠ gb114)) (Kd.R_types (Kd.R_types (Kd.R_apart' (Kd.R_apart' (HO117.out) (Kd.R_typed HO110.out) (by decide)) (Kd.N_typed HO113.out) (by decide)) BK107.out (by decide)) BK114.out (by decide)) (fun k_ hk => ⟨hk.1.1.1.1.1, ⟨hk.1.1.1.2, ⟨hk.1.1.2, ⟨hk.1.2, hk.2⟩⟩⟩⟩))))) (Reps.none _ _))); intro v119 w14 ho15 hb hg_ hnew_; clear hg_ hnew_; (first | rw [← Ny118.out] at ho15 | (simp only [Int.reduceToNat] at ho15; rw [← Ny118.out] at ho15)); have n0_ := Aside0.mk (Kd.R_below (rr_ HO110) hb); have n1_ := Aside0.mk (Kd.N_elder' (by (with_reducible repeat (first | apply Kd.N_alloc | apply Kd.N_drewN | apply Kd.N_drew)); exact HO113.out) (Kd.N_base ho15) hb); have n2_ := Aside0.mk (Kd.N_lower ho15 (below_size (by repeat (first | (with_reducible first | exact HB.out | apply below_alloc | apply pw_below_drewN | apply below_drew1 | refine below_set ?_ GE107.out | refine below_set ?_ GE114.out) | exact HB.out)))); have n3_ := Aside0.mk (blk_below (g := gb107) (o := .cells #[.slice none 0 0, .slice none 0 0] 25 (0, 0)) (kk_ BK107) hb); have n4_ := Aside0.mk (blk_below (g := gb114) (o := .cells #[.slice Ao7 y108.length co7, .slice Ao6 y111.length co6] 25 (0, 0)) (kk_ BK114) hb); have n5_ := Aside0.mk (below_step (by repeat (first | (with_reducible first | exact HB.out | apply below_alloc | apply pw_below_drewN | apply below_drew1 | refine below_set ?_ GE107.out | refine below_set ?_ GE114.out) | exact HB.out)) hb); clear HO110; clear HO113; clear BK107; clear BK114; clear HB; clear HO117; have HO110 := n0_; have HO113 := n1_; have HO120 := n2_; have BK107 := n3_; have BK114 := n4_; have HB := n5_; clear n0_ n1_ n2_ n3_ n4_ n5_; clear hb ho15; have hcz16_0 : w14.cell? ⟨gb107, 0, none⟩ = some (.slice none 0 0) := (blk_cell BK107.out 0).trans rfl; have hcz16_1 : w14.cell? ⟨gb107, 1, none⟩ = some (.slice none 0 0) := (blk_cell BK107.out 1).trans rfl; have hfz16_0 := blk_frozen BK107.out 0; have hfz16_1 := blk_frozen BK107.out 1))
 refine bodyPost_ret (results_ct rfl _ _ gb107 25 #[.slice Ao7 y108.length co7, .slice Ao6 y111.length co6] (0, 0) _ rfl (by (with_reducible repeat (first | refine blk_drewN ?_ _ | refine blk_drew ?_ | refine blk_alloc ?_ _)); refine blk_put (cs := #[.slice Ao7 y108.length co7, .slice none 0 0]) ?_ 1 _ rfl; (with_reducible repeat (first | refine blk_drewN ?_ _ | refine blk_drew ?_ | refine blk_alloc ?_ _)); refine blk_put (cs := #[.slice none 0 0, .slice none 0 0]) ?_ 0 _ rfl; (with_reducible repeat (first | refine blk_drewN ?_ _ | refine blk_drew ?_ | refine blk_alloc ?_ _)); exact BK107.out) Try.underlying25 rfl (by kernel_rfl)) rfl ?_
 exact ⟨_, _, _, ew_, by (with_reducible repeat (first | apply Kd.R_alloc | apply Kd.R_drewN | apply Kd.R_drew)); exact Kd.R_mono (Kd.R_far (p := ⟨gb107, 1, none⟩) (Kd.R_far (p := ⟨gb107, 0, none⟩) (Kd.R_types HO110.out BK107.out (by decide)) (fun _ hk => hk.2) (.slice Ao7 y108.length co7)) (fun _ hk => hk.2) (.slice Ao6 y111.length co6)) (fun _ hk => hk.1.1), by (with_reducible repeat (first | apply Kd.N_alloc | apply Kd.N_drewN | apply Kd.N_drew)); exact Kd.N_mono (Kd.N_far (p := ⟨gb107, 1, none⟩) (Kd.N_far (p := ⟨gb107, 0, none⟩) (Kd.N_mono HO113.out (fun k_ hk => (⟨hk, hk.1.1.1.2.2⟩ : _ ∧ k_ ≠ gb107))) (fun _ hk => hk.2) (.slice Ao7 y108.length co7)) (fun _ hk => hk.2) (.slice Ao6 y111.length co6)) (fun _ hk => ⟨hk.1.1.1.1.1, ⟨hk.1.1.1.1.2.1, hk.1.2⟩⟩), by (with_reducible repeat (first | apply Kd.N_alloc | apply Kd.N_drewN | apply Kd.N_drew)); exact Kd.N_mono (Kd.N_far (p := ⟨gb107, 1, none⟩) (Kd.N_far (p := ⟨gb107, 0, none⟩) (Kd.N_mono HO120.out (fun k_ hk => (⟨hk, hk.2.2.2.1⟩ : _ ∧ k_ ≠ gb107))) (fun _ hk => hk.2) (.slice Ao7 y108.length co7)) (fun _ hk => hk.2) (.slice Ao6 y111.length co6)) (fun _ hk => ⟨hk.1.1, ⟨hk.1.2.1, hk.1.2.2.1⟩⟩), by repeat (first | (with_reducible first | exact HB.out | apply below_alloc | apply pw_below_drewN | apply below_drew1 | refine below_set ?_ GE107.out | refine below_set ?_ GE114.out) | exact HB.out)⟩
end
end Go.Proofs.Ytocbiggglnpeoaa.P
end
