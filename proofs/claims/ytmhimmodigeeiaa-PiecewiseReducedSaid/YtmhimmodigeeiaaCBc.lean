/- Part 3 of the base that the seat's proofs share: words, walks and plain laws. -/
import Derived.Test.YtmhimmodigeeiaaCBb
set_option linter.unusedVariables false
set_option linter.unusedSimpArgs false
section
namespace Go.Proofs.Ytmhimmodigeeiaa.P
open Go.RowKit Go.Proofs.YtmhimmodigeeiaaW.PrintWords Go.Proofs.YtmhimmodigeeiaaW.PrintLast Go.Proofs.YtmhimmodigeeiaaW.PrintMore
attribute [local go_sem] max2_int min2_int max_two min_two max_three min_three max_four min_four
set_option linter.unusedVariables false
set_option linter.unusedSimpArgs false
set_option maxHeartbeats 8000000
set_option maxRecDepth 100000
section
open Go.Proofs.YtmhimmodigeeiaaH
structure ST where
 x : Int
 u : Int
 f : LN
 g : LN
def encST (s : ST) : Array Value := #[.agg #[.int .i64 s.x, .int .i64 s.u, .int .i64 s.f.n, .int .i64 s.f.s, .int .i64 s.f.d, .int .i64 s.f.fr, .int .i64 s.g.n, .int .i64 s.g.s, .int .i64 s.g.d, .int .i64 s.g.fr]]
def nxt (f : List S51) (i : Nat) (a : Int) : Int := if i + 1 < f.length then mn a (rd_T51 f ((i + 1 : Nat) : Int)).f0 else a
def adv (f : List S51) (i : Nat) (x : Int) : Nat := if i + 1 < f.length ∧ (rd_T51 f ((i + 1 : Nat) : Int)).f0 = x then i + 1 else i
def stp (f g : List S51) : Nat → Nat × Nat × Int
 | 0 => (0, 0, 0)
 | j + 1 => (adv f (stp f g j).1 (nxt g (stp f g j).2.1 (nxt f (stp f g j).1 100001)), adv g (stp f g j).2.1 (nxt g (stp f g j).2.1 (nxt f (stp f g j).1 100001)), nxt g (stp f g j).2.1 (nxt f (stp f g j).1 100001))
def stE (f g : List S51) (j : Nat) : ST := ⟨(stp f g j).2.2, (stp f g (j + 1)).2.2, lineL (rd_T51 f ((stp f g j).1 : Int)), lineL (rd_T51 g ((stp f g j).2.1 : Int))⟩
structure StOk (f g : List S51) (M : Nat) : Prop where
 fl : f.length ≤ 1000000
 gl : g.length ≤ 1000000
 lt : ∀ j, j ≤ M → (stp f g j).1 < f.length ∧ (stp f g j).2.1 < g.length ∧ 0 ≤ (stp f g j).2.2
 up : ∀ j, j < M → (stp f g j).2.2 ≤ 100000 ∧ (stp f g j).2.2 < (stp f g (j + 1)).2.2
 last : 100000 < (stp f g M).2.2
def stL (f g : List S51) (M : Nat) : List ST := (List.range M).map (stE f g)
theorem stL_at {f g : List S51} {M k : Nat} (h : k < M) : (stL f g M)[k]? = some (stE f g k) := by
 unfold stL
 rw [List.getElem?_map, List.getElem?_range h]
 rfl
theorem stL_len (f g : List S51) (M : Nat) : (stL f g M).length = M := by unfold stL; rw [List.length_map, List.length_range]
def Keep2 (n0 b c : Nat) (W W' : World) : Prop := Below n0 W W' ∧ W'.heap[b]? = W.heap[b]? ∧ W'.heap[c]? = W.heap[c]?
theorem keep2_t {n0 b c : Nat} {A B C : World} (h : Keep2 n0 b c A B) (k : Keep2 n0 b c B C) : Keep2 n0 b c A C := ⟨h.1.trans k.1, k.2.1.trans h.2.1, k.2.2.trans h.2.2⟩
theorem keep2_r (n0 b c : Nat) (W : World) : Keep2 n0 b c W W := ⟨Below.refl _ _, rfl, rfl⟩
theorem keep2_b {n0 b c : Nat} {w : World} (hn : n0 ≤ w.heap.size) (hb : b < w.heap.size) (hc : c < w.heap.size) (W : World) (l : Nat) (o o' : Obj) (hl : w.heap.size ≤ l) (h : W.heap[l]? = some o) (h1 : o.isCells = false) (h2 : o.isWalk = false) : Keep2 n0 b c W (W.putObj l o') :=
 ⟨belowK_b hn W l o o' hl h h1 h2, World.putObj_heap_other (by omega), World.putObj_heap_other (by omega)⟩
theorem keep2_below {n0 b c : Nat} {W W' : World} (hn : n0 ≤ W.heap.size) (hb : b < W.heap.size) (hc : c < W.heap.size) (h : Below W.heap.size W W') : Keep2 n0 b c W W' := ⟨h.mono hn, h.block b hb, h.block c hc⟩
theorem take_nextE {α : Type} {E : List α} {k : Nat} {x : α} (h : E[k]? = some x) : E.take k ++ [x] = E.take (k + 1) := by rw [List.take_add_one, h]; rfl
theorem two_ways {e : Ending} {A B : Prop} (h : (e = .returned (.bool true) ∧ A) ∨ (e = .returned (.bool false) ∧ B)) : ∃ b : Bool, e = .returned (.bool b) ∧ ((b = true ∧ A) ∨ (b = false ∧ B)) := by
 rcases h with ⟨h1, h2⟩ | ⟨h1, h2⟩
 ·exact ⟨true, h1, .inl ⟨rfl, h2⟩⟩
 ·exact ⟨false, h1, .inr ⟨rfl, h2⟩⟩
set_option maxHeartbeats 4000000 in
theorem stretches_calls (A0 A1 : Option Addr) (n0 n1 c0 c1 : Nat) (w : World) :
  Calls Try.prog 39 #[.slice A0 n0 c0, .slice A1 n1 c1] w fun e w' => ∃ g1 g2 : Nat, e = .returned (.func (.func 59) #[] #[.pointer (some ⟨g1, 0, none⟩), .pointer (some ⟨g2, 0, none⟩)]) ∧
   w'.heap[g1]? = some (.cells #[.slice A0 n0 c0] 22 (0, 0)) ∧ w'.heap[g2]? = some (.cells #[.slice A1 n1 c1] 22 (0, 0)) ∧ w.heap.size ≤ g1 ∧ w.heap.size ≤ g2 ∧ Below w.heap.size w w' := by
 have HB := mk_ (Below.refl w.heap.size w)
 go_enter Try.func39, Try.ntmps39
 go_wp2_with (first | ((with_reducible refine gate_dst (N := 2) rfl ?_); refine box_event ?hg (N := 2) ?hd (cs := #[.slice A0 n0 c0]) (t := 22) ?hr ?_; (case hd => rfl); (case hg => rfl); (case hr => first | (go_simp; done) | (go_simp; rfl)); intro g1 hg_A w1 hbox_ hb_; have n0_ := mk_ (below_step HB.out hb_); have BA := mk_ hbox_; have GA := mk_ (show w.heap.size ≤ g1 by rw [hg_A]; exact below_size HB.out); have EA := mk_ hg_A; have hcA0 : w1.cell? ⟨g1, 0, none⟩ = some (.slice A0 n0 c0) := (blk_cell hbox_ 0).trans rfl; have hfA0 := blk_frozen hbox_ 0; clear HB hg_A hbox_ hb_; have HB := n0_; clear n0_) | ((with_reducible refine gate_dst (N := 3) rfl ?_); refine box_event ?hg (N := 3) ?hd (cs := #[.slice A1 n1 c1]) (t := 22) ?hr ?_; (case hd => rfl); (case hg => rfl); (case hr => first | (go_simp; done) | (go_simp; rfl)); intro g2 hg_B w2 hbox_ hb_; have n0_ := mk_ (below_step HB.out hb_); have BB := mk_ hbox_; have GB := mk_ (show w.heap.size ≤ g2 by rw [hg_B]; exact below_size HB.out); have EB := mk_ hg_B; have hcB0 : w2.cell? ⟨g2, 0, none⟩ = some (.slice A1 n1 c1) := (blk_cell hbox_ 0).trans rfl; have hfB0 := blk_frozen hbox_ 0; have BA := mk_ (blk_below BA.out hb_); clear HB hg_B hbox_ hb_; have HB := n0_; clear n0_))
 go_ret
 exact ⟨g1, g2, rfl, BA.out, BB.out, GA.out, GB.out, HB.out⟩
attribute [local go_sem] Oper.semAt_some
attribute [local go_sem] max2_int min2_int max_two min_two
set_option maxHeartbeats 16000000 in
theorem str1_in (n : Nat) (hn : 1 ≤ n) (lr B1 B2 n0 : Nat) (A0 A1 : Option Addr) (c0 c1 : Nat) (f g : List S51) (M : Nat) (hM : StOk f g M) (J Jx : List ST → World → Prop) (hJ : ∀ pre W W', J pre W → Below W.heap.size W W' → J pre W')
  (hY : ∀ pre x W, J pre W → pre.length < M + 1 → (∃ j, j < M ∧ pre = (stL f g M).take j ∧ x = stE f g j) → YieldAt Fence.wide (n - 1) Try.prog lr (encST x) W fun e W' =>
   (e = .returned (.bool true) ∧ J (pre ++ [x]) W' ∧ Keep2 n0 B1 B2 W W') ∨ (e = .returned (.bool false) ∧ Jx (pre ++ [x]) W'))
  (W : World) (hB1 : W.heap[B1]? = some (.cells #[.slice A0 f.length c0] 22 (0, 0))) (hB2 : W.heap[B2]? = some (.cells #[.slice A1 g.length c1] 22 (0, 0)))
  (hC0 : ∀ W', Below n0 W W' → Kd.C k51 W' A0 f.length f) (hC1 : ∀ W', Below n0 W W' → Kd.C k51 W' A1 g.length g) (hn0 : n0 ≤ W.heap.size) (h0 : J [] W) :
  CallsIn Fence.wide n Try.prog 59 #[.func (.yield lr) #[] #[], .pointer (some ⟨B1, 0, none⟩), .pointer (some ⟨B2, 0, none⟩)] W fun e W' => (∃ v, e = .returned v) ∧
   ((∃ xs : List ST, xs = stL f g M ∧ J xs W') ∨ (∃ pre, (∃ k, pre = (stL f g M).take k) ∧ Jx pre W')) := by
 refine callsIn_of_wp Try.func59 rfl trivial ?_ rfl
 simp only [Try.ntmps59, List.size_toArray, List.length_cons, List.length_nil, Nat.reduceAdd, Nat.reduceSub, Array.replicate_succ, Array.replicate_zero, List.push_toArray, List.append_toArray, List.nil_append, List.cons_append]
 have hu51 := Try.underlying51
 have hu54 := Try.underlying54
 have hu64 := Try.underlying64
 have HM := mk_ hM
 have HC0 := mk_ hC0
 have HC1 := mk_ hC1
 have HJD := mk_ hJ
 have HY := mk_ hY
 have HB1 := mk_ hB1
 have HB2 := mk_ hB2
 have HN0 := mk_ hn0
 have H0 := mk_ h0
 clear hM hC0 hC1 hJ hY hB1 hB2 h0 hn0
 gi_wp2
 gi_loopw [4, 5, 6] (fun i k x wr => ∃ (j : Nat), j ≤ M ∧ i = .int .i64 ((stp f g j).1 : Int) ∧ k = .int .i64 ((stp f g j).2.1 : Int) ∧ x = .int .i64 (stp f g j).2.2 ∧ Aside0 (J ((stL f g M).take j) wr) ∧ Aside0 (Keep2 n0 B1 B2 W wr))
  (fun _ _ x _ => (100001 - intOf x).toNat)
 case atStart => exact ⟨0, Nat.zero_le _, rfl, rfl, rfl, H0, ⟨keep2_r _ _ _ _⟩⟩
 case round =>
  clear H0
  obtain ⟨j, hj, rfl, rfl, rfl, HJ, HK⟩ := hrel
  by_cases hlt : j < M
  case neg =>
   have hjm : j = M := by omega
   have hall : (stL f g M).take j = stL f g M := List.take_of_length_le (by rw [stL_len]; omega)
   rw [hall] at HJ
   have d1 : decide ((stp f g j).2.2 ≤ 100000) = false := decide_eq_false (by have := HM.out.last; rw [hjm]; omega)
   clear hlt hjm hall
   gi_wp2
   go_end0
   exact ⟨⟨_, rfl⟩, .inl ⟨_, rfl, HJ.out⟩⟩
  have hup := HM.out.up j hlt
  have hlj := HM.out.lt j hj
  obtain ⟨iN, hiN⟩ : ∃ iN, iN = (stp f g j).1 := ⟨_, rfl⟩
  obtain ⟨kN, hkN⟩ : ∃ kN, kN = (stp f g j).2.1 := ⟨_, rfl⟩
  obtain ⟨x, hx⟩ : ∃ x, x = (stp f g j).2.2 := ⟨_, rfl⟩
  rw [← hx, ← hiN, ← hkN] at hlj
  rw [← hx] at hup
  rw [← hiN, ← hkN, ← hx]
  have d1 : decide (x ≤ 100000) = true := decide_eq_true hup.1
  obtain ⟨i, hi⟩ : ∃ i : Int, i = (iN : Int) := ⟨_, rfl⟩
  obtain ⟨k, hk⟩ : ∃ k : Int, k = (kN : Int) := ⟨_, rfl⟩
  rw [← hi, ← hk]
  have HI := mk_ (show (0 ≤ i ∧ i < f.length ∧ i = (iN : Int)) ∧ 0 ≤ k ∧ k < g.length ∧ k = (kN : Int) by omega)
  have hz1 : i + 1 ≤ 9223372036854775807 := by have := HI.out; have := HM.out.fl; omega
  have hz2 : -9223372036854775808 ≤ i + 1 := by have := HI.out; omega
  have hz3 : k + 1 ≤ 9223372036854775807 := by have := HI.out; have := HM.out.gl; omega
  have hz4 : -9223372036854775808 ≤ k + 1 := by have := HI.out; omega
  have hc1 : wr.cell? ⟨B1, 0, none⟩ = some (.slice A0 f.length c0) := (blk_cell (HK.out.2.1.trans HB1.out) 0).trans rfl
  have hc2 : wr.cell? ⟨B2, 0, none⟩ = some (.slice A1 g.length c1) := (blk_cell (HK.out.2.2.trans HB2.out) 0).trans rfl
  obtain ⟨a1, ha1⟩ : ∃ a1, a1 = nxt f iN 100001 := ⟨_, rfl⟩
  obtain ⟨a2, ha2⟩ : ∃ a2, a2 = nxt g kN a1 := ⟨_, rfl⟩
  have HX := mk_ (show (iN = (stp f g j).1 ∧ kN = (stp f g j).2.1) ∧ (x = (stp f g j).2.2 ∧ j < M) ∧ x ≤ 100000 ∧ 0 ≤ x from ⟨⟨hiN, hkN⟩, ⟨hx, hlt⟩, hup.1, hlj.2.2⟩)
  have HA1 := mk_ ha1
  have HA2 := mk_ ha2
  have HA3 := mk_ (show (stp f g (j + 1)).2.2 = a2 by rw [ha2, ha1, hiN, hkN]; rfl)
  have HUP := mk_ hup.2
  clear hi hk hiN hkN hx hup hlj hlt hj ha1 ha2
  gi_upto_if 14 with (fail)
  gi_cut [7] from 8 (fun v7 wc => v7 = .int .i64 a1 ∧ wr = wc)
  case first =>
   by_cases h1 : iN + 1 < f.length
   ·have e1 : decide (i + 1 < (f.length : Int)) = true := decide_eq_true (by have := HI.out; omega)
    rw [e1]
    have e2 : (i + 1 < f.length) = True := eq_true (by have := HI.out; omega)
    have e3 : (0 ≤ i + 1) = True := eq_true (by have := HI.out; omega)
    obtain ⟨ad, ea, hx0, _⟩ := at_T51 (HC0.out wr HK.out.1) (i + 1) (by have := HI.out; omega) (by have := HI.out; omega)
    subst ea
    obtain ⟨y, hy⟩ : ∃ y, y = (rd_T51 f (i + 1)).f0 := ⟨_, rfl⟩
    rw [← hy] at hx0
    have HAA := mk_ (show mn 100001 y = a1 by rw [HA1.out, hy]; unfold nxt; rw [if_pos h1, show i + 1 = ((iN + 1 : Nat) : Int) from by have := HI.out; omega])
    clear h1 hy
    by_cases hq : y < 100001
    ·have q1 : (y < 100001) = True := eq_true hq
     have HQ := mk_ (show y = a1 by rw [← HAA.out]; unfold mn; rw [if_pos hq])
     clear hq
     gi_wp2
     gi_meet
     case rel => exact ⟨by rw [HQ.out], rfl⟩
    ·have q1 : (y < 100001) = False := eq_false hq
     have HQ := mk_ (show 100001 = a1 by rw [← HAA.out]; unfold mn; rw [if_neg hq])
     clear hq
     gi_wp2
     gi_meet
     case rel => exact ⟨by rw [← HQ.out], rfl⟩
   ·have e1 : decide (i + 1 < (f.length : Int)) = false := decide_eq_false (by have := HI.out; omega)
    rw [e1]
    have HQ := mk_ (show 100001 = a1 by rw [HA1.out]; unfold nxt; rw [if_neg h1])
    clear h1
    gi_wp2
    gi_meet
    case rel => exact ⟨by rw [← HQ.out], rfl⟩
  case rest =>
   obtain ⟨rfl, rfl⟩ := hcut
   gi_upto_if 27 with (fail)
   gi_cut [7] from 8 (fun v7 wc => v7 = .int .i64 a2 ∧ wr = wc)
   case first =>
    by_cases h1 : kN + 1 < g.length
    ·have e1 : decide (k + 1 < (g.length : Int)) = true := decide_eq_true (by have := HI.out; omega)
     rw [e1]
     have e2 : (k + 1 < g.length) = True := eq_true (by have := HI.out; omega)
     have e3 : (0 ≤ k + 1) = True := eq_true (by have := HI.out; omega)
     obtain ⟨ad, ea, hx0, _⟩ := at_T51 (HC1.out wr HK.out.1) (k + 1) (by have := HI.out; omega) (by have := HI.out; omega)
     subst ea
     obtain ⟨y, hy⟩ : ∃ y, y = (rd_T51 g (k + 1)).f0 := ⟨_, rfl⟩
     rw [← hy] at hx0
     have HAA := mk_ (show mn a1 y = a2 by rw [HA2.out, hy]; unfold nxt; rw [if_pos h1, show k + 1 = ((kN + 1 : Nat) : Int) from by have := HI.out; omega])
     clear h1 hy
     by_cases hq : y < a1
     ·have q1 : (y < a1) = True := eq_true hq
      have HQ := mk_ (show y = a2 by rw [← HAA.out]; unfold mn; rw [if_pos hq])
      clear hq
      gi_wp2
      gi_meet
      case rel => exact ⟨by rw [HQ.out], rfl⟩
     ·have q1 : (y < a1) = False := eq_false hq
      have HQ := mk_ (show a1 = a2 by rw [← HAA.out]; unfold mn; rw [if_neg hq])
      clear hq
      gi_wp2
      gi_meet
      case rel => exact ⟨by rw [← HQ.out], rfl⟩
    ·have e1 : decide (k + 1 < (g.length : Int)) = false := decide_eq_false (by have := HI.out; omega)
     rw [e1]
     have HQ := mk_ (show a1 = a2 by rw [HA2.out]; unfold nxt; rw [if_neg h1])
     clear h1
     gi_wp2
     gi_meet
     case rel => exact ⟨by rw [← HQ.out], rfl⟩
   case rest =>
    obtain ⟨rfl, rfl⟩ := hcut
    have HPL := mk_ (show ((stL f g M).take j).length < M + 1 by rw [List.length_take]; have := HX.out; omega)
    have HEN := mk_ (take_nextE (stL_at (f := f) (g := g) HX.out.2.1.2))
    have hd1 : wr.drew.cell? ⟨B1, 0, none⟩ = some (.slice A0 f.length c0) := (blk_cell (show wr.drew.heap[B1]? = _ from HK.out.2.1.trans HB1.out) 0).trans rfl
    have hd2 : wr.drew.cell? ⟨B2, 0, none⟩ = some (.slice A1 g.length c1) := (blk_cell (show wr.drew.heap[B2]? = _ from HK.out.2.2.trans HB2.out) 0).trans rfl
    obtain ⟨adp, ep, hx0, hx1, hx2, hx3, hx4⟩ := at_T51 (HC0.out wr.drew (below_drew HK.out.1)) i HI.out.1.1 HI.out.1.2.1
    obtain ⟨adq, eq_, hy0, hy1, hy2, hy3, hy4⟩ := at_T51 (HC1.out wr.drew (below_drew HK.out.1)) k HI.out.2.1 HI.out.2.2.1
    rw [ep] at hd1
    rw [eq_] at hd2
    clear ep eq_
    have i2 : (0 ≤ i) = True := eq_true HI.out.1.1
    have i3 : (i < f.length) = True := eq_true HI.out.1.2.1
    have k2 : (0 ≤ k) = True := eq_true HI.out.2.1
    have k3 : (k < g.length) = True := eq_true HI.out.2.2.1
    obtain ⟨p, hp⟩ : ∃ p, p = rd_T51 f i := ⟨_, rfl⟩
    obtain ⟨q, hq⟩ : ∃ q, q = rd_T51 g k := ⟨_, rfl⟩
    rw [← hp] at hx0 hx1 hx2 hx3 hx4
    rw [← hq] at hy0 hy1 hy2 hy3 hy4
    have HEE := mk_ (show stE f g j = ⟨x, a2, lineL p, lineL q⟩ by unfold stE; rw [← HX.out.1.1, ← HX.out.1.2, ← HX.out.2.1.1, HA3.out, hp, hq, HI.out.1.2.2, HI.out.2.2.2])
    have HW := mk_ (below_drew (Below.refl wr.heap.size wr))
    clear hp hq
    gi_upto_region 8 with (fail)
    gi_cut [51] from 8 (fun v51 wc => ∃ b : Bool, v51 = .bool (!b) ∧ Aside0 ((b = true ∧ J ((stL f g M).take (j + 1)) wc ∧ Keep2 n0 B1 B2 wr wc) ∨ (b = false ∧ Jx ((stL f g M).take (j + 1)) wc)))
    case first =>
     gi_region_with (first | (refine ⟨trivial, ?_⟩; gi_at_call 46; (with_reducible refine (callsIn_wide.2 (lineL_calls p _)).mono ?_); rintro e w1 ⟨rfl, hb_⟩; replace hd1 := (hb_.cell (World.block_lt_of_cell? _ _ hd1)).trans hd1; replace hd2 := (hb_.cell (World.block_lt_of_cell? _ _ hd2)).trans hd2; replace hx0 := (hb_.cell (World.block_lt_of_cell? _ _ hx0)).trans hx0; replace hx1 := (hb_.cell (World.block_lt_of_cell? _ _ hx1)).trans hx1; replace hx2 := (hb_.cell (World.block_lt_of_cell? _ _ hx2)).trans hx2; replace hx3 := (hb_.cell (World.block_lt_of_cell? _ _ hx3)).trans hx3; replace hx4 := (hb_.cell (World.block_lt_of_cell? _ _ hx4)).trans hx4; replace hy0 := (hb_.cell (World.block_lt_of_cell? _ _ hy0)).trans hy0; replace hy1 := (hb_.cell (World.block_lt_of_cell? _ _ hy1)).trans hy1; replace hy2 := (hb_.cell (World.block_lt_of_cell? _ _ hy2)).trans hy2; replace hy3 := (hb_.cell (World.block_lt_of_cell? _ _ hy3)).trans hy3; replace hy4 := (hb_.cell (World.block_lt_of_cell? _ _ hy4)).trans hy4; have n0_ := mk_ (below_step HW.out hb_); clear HW hb_; have HW := n0_; clear n0_; obtain ⟨fn, tmps, assign, body, hyy, hR_⟩ := HY.out _ (stE f g j) _ (HJD.out _ _ _ HJ.out HW.out) HPL.out ⟨j, HX.out.2.1.2, rfl, rfl⟩; rw [HEE.out] at hyy; simp only [encST] at hyy; have HR := mk_ hR_; clear hR_) | (refine ⟨trivial, ?_⟩; gi_at_call 46; (with_reducible refine (callsIn_wide.2 (lineL_calls q _)).mono ?_); rintro e w1 ⟨rfl, hb_⟩; replace hd1 := (hb_.cell (World.block_lt_of_cell? _ _ hd1)).trans hd1; replace hd2 := (hb_.cell (World.block_lt_of_cell? _ _ hd2)).trans hd2; replace hx0 := (hb_.cell (World.block_lt_of_cell? _ _ hx0)).trans hx0; replace hx1 := (hb_.cell (World.block_lt_of_cell? _ _ hx1)).trans hx1; replace hx2 := (hb_.cell (World.block_lt_of_cell? _ _ hx2)).trans hx2; replace hx3 := (hb_.cell (World.block_lt_of_cell? _ _ hx3)).trans hx3; replace hx4 := (hb_.cell (World.block_lt_of_cell? _ _ hx4)).trans hx4; replace hy0 := (hb_.cell (World.block_lt_of_cell? _ _ hy0)).trans hy0; replace hy1 := (hb_.cell (World.block_lt_of_cell? _ _ hy1)).trans hy1; replace hy2 := (hb_.cell (World.block_lt_of_cell? _ _ hy2)).trans hy2; replace hy3 := (hb_.cell (World.block_lt_of_cell? _ _ hy3)).trans hy3; replace hy4 := (hb_.cell (World.block_lt_of_cell? _ _ hy4)).trans hy4; have n0_ := mk_ (below_step HW.out hb_); clear HW hb_; have HW := n0_; clear n0_; obtain ⟨fn, tmps, assign, body, hyy, hR_⟩ := HY.out _ (stE f g j) _ (HJD.out _ _ _ HJ.out HW.out) HPL.out ⟨j, HX.out.2.1.2, rfl, rfl⟩; rw [HEE.out] at hyy; simp only [encST] at hyy; have HR := mk_ hR_; clear hR_) | (refine HR.out.mono ?_; rintro e W3 h3_; obtain ⟨b, rfl, h4_⟩ := two_ways h3_; rw [HEN.out] at h4_; have H4 := mk_ h4_; clear h3_ h4_))
     all_goals
      gi_wp2
      gi_meet
      case rel =>
       refine ⟨b, rfl, ⟨?_⟩⟩
       rcases H4.out with ⟨hb, h1, h2⟩ | ⟨hb, h1⟩
       ·exact .inl ⟨hb, h1, keep2_t (keep2_below (Nat.le_trans HN0.out HK.out.1.size) (blk_lt (HK.out.2.1.trans HB1.out)) (blk_lt (HK.out.2.2.trans HB2.out)) HW.out) h2⟩
       ·exact .inr ⟨hb, h1⟩
    case rest =>
     obtain ⟨b, rfl, H4⟩ := hcut
     rcases H4.out with ⟨rfl, hJ3, hk3⟩ | ⟨rfl, hJx3⟩
     case inr =>
      have HJ3 := mk_ hJx3
      clear hJx3 H4
      gi_wp2
      refine bodyPost_ret (results_none rfl _ _ _) rfl ?_
      exact ⟨⟨_, rfl⟩, .inr ⟨_, ⟨_, rfl⟩, HJ3.out⟩⟩
     have HJ3 := mk_ hJ3
     have HKC := mk_ (keep2_t HK.out hk3)
     clear hJ3 hk3 H4 hc1 hc2 hd1 hd2 hx0 hx1 hx2 hx3 hx4 hy0 hy1 hy2 hy3 hy4
     have hc1 : wc.cell? ⟨B1, 0, none⟩ = some (.slice A0 f.length c0) := (blk_cell (HKC.out.2.1.trans HB1.out) 0).trans rfl
     have hc2 : wc.cell? ⟨B2, 0, none⟩ = some (.slice A1 g.length c1) := (blk_cell (HKC.out.2.2.trans HB2.out) 0).trans rfl
     gi_upto_region 10 with (fail)
     gi_cut [67] from 8 (fun v67 wd => v67 = .bool (decide (iN + 1 < f.length ∧ (rd_T51 f ((iN + 1 : Nat) : Int)).f0 = a2)) ∧ wc = wd)
     case first =>
      by_cases h1 : iN + 1 < f.length
      ·have e1 : decide (i + 1 < (f.length : Int)) = true := decide_eq_true (by have := HI.out; omega)
       have e2 : (i + 1 < f.length) = True := eq_true (by have := HI.out; omega)
       have e3 : (0 ≤ i + 1) = True := eq_true (by have := HI.out; omega)
       obtain ⟨ad, ea, hx0, _⟩ := at_T51 (HC0.out wc HKC.out.1) (i + 1) (by have := HI.out; omega) (by have := HI.out; omega)
       obtain ⟨y, hy⟩ : ∃ y, y = (rd_T51 f (i + 1)).f0 := ⟨_, rfl⟩
       rw [← hy] at hx0
       have HYY := mk_ (show decide (iN + 1 < f.length ∧ (rd_T51 f ((iN + 1 : Nat) : Int)).f0 = a2) = (y == a2) by
        rw [hy, show i + 1 = ((iN + 1 : Nat) : Int) from by have := HI.out; omega]
        by_cases hh : (rd_T51 f ((iN + 1 : Nat) : Int)).f0 = a2
        ·rw [decide_eq_true ⟨h1, hh⟩]; exact (beq_iff_eq.2 hh).symm
        ·rw [decide_eq_false (fun h => hh h.2)]; exact (beq_eq_false_iff_ne.2 hh).symm)
       clear h1 hy
       subst ea
       gi_wp2
       gi_meet
       case rel => exact ⟨by rw [HYY.out], rfl⟩
      ·have e1 : decide (i + 1 < (f.length : Int)) = false := decide_eq_false (by have := HI.out; omega)
       have HYY := mk_ (show decide (iN + 1 < f.length ∧ (rd_T51 f ((iN + 1 : Nat) : Int)).f0 = a2) = false from decide_eq_false (fun h => h1 h.1))
       clear h1
       gi_wp2
       gi_meet
       case rel => exact ⟨by rw [HYY.out], rfl⟩
     case rest =>
      obtain ⟨rfl, rfl⟩ := hcut
      gi_upto_if 67 with (fail)
      gi_cut [4] from 8 (fun v4 wd => v4 = .int .i64 ((adv f iN a2 : Nat) : Int) ∧ wc = wd)
      case first =>
       by_cases h1 : iN + 1 < f.length ∧ (rd_T51 f ((iN + 1 : Nat) : Int)).f0 = a2
       ·rw [decide_eq_true h1]
        have HQ := mk_ (show ((adv f iN a2 : Nat) : Int) = i + 1 by unfold adv; rw [if_pos h1]; have := HI.out; omega)
        clear h1
        gi_wp2
        gi_meet
        case rel => exact ⟨by rw [HQ.out], rfl⟩
       ·rw [decide_eq_false h1]
        have HQ := mk_ (show ((adv f iN a2 : Nat) : Int) = i by unfold adv; rw [if_neg h1]; have := HI.out; omega)
        clear h1
        gi_wp2
        gi_meet
        case rel => exact ⟨by rw [HQ.out], rfl⟩
      case rest =>
       obtain ⟨rfl, rfl⟩ := hcut
       gi_upto_region 12 with (fail)
       gi_cut [84] from 8 (fun v84 wd => v84 = .bool (decide (kN + 1 < g.length ∧ (rd_T51 g ((kN + 1 : Nat) : Int)).f0 = a2)) ∧ wc = wd)
       case first =>
        by_cases h1 : kN + 1 < g.length
        ·have e1 : decide (k + 1 < (g.length : Int)) = true := decide_eq_true (by have := HI.out; omega)
         have e2 : (k + 1 < g.length) = True := eq_true (by have := HI.out; omega)
         have e3 : (0 ≤ k + 1) = True := eq_true (by have := HI.out; omega)
         obtain ⟨ad, ea, hx0, _⟩ := at_T51 (HC1.out wc HKC.out.1) (k + 1) (by have := HI.out; omega) (by have := HI.out; omega)
         obtain ⟨y, hy⟩ : ∃ y, y = (rd_T51 g (k + 1)).f0 := ⟨_, rfl⟩
         rw [← hy] at hx0
         have HYY := mk_ (show decide (kN + 1 < g.length ∧ (rd_T51 g ((kN + 1 : Nat) : Int)).f0 = a2) = (y == a2) by
          rw [hy, show k + 1 = ((kN + 1 : Nat) : Int) from by have := HI.out; omega]
          by_cases hh : (rd_T51 g ((kN + 1 : Nat) : Int)).f0 = a2
          ·rw [decide_eq_true ⟨h1, hh⟩]; exact (beq_iff_eq.2 hh).symm
          ·rw [decide_eq_false (fun h => hh h.2)]; exact (beq_eq_false_iff_ne.2 hh).symm)
         clear h1 hy
         subst ea
         gi_wp2
         gi_meet
         case rel => exact ⟨by rw [HYY.out], rfl⟩
        ·have e1 : decide (k + 1 < (g.length : Int)) = false := decide_eq_false (by have := HI.out; omega)
         have HYY := mk_ (show decide (kN + 1 < g.length ∧ (rd_T51 g ((kN + 1 : Nat) : Int)).f0 = a2) = false from decide_eq_false (fun h => h1 h.1))
         clear h1
         gi_wp2
         gi_meet
         case rel => exact ⟨by rw [HYY.out], rfl⟩
       case rest =>
        obtain ⟨rfl, rfl⟩ := hcut
        gi_upto_if 84 with (fail)
        have HJ1 := mk_ (show ((adv f iN a2 : Nat) : Int) = ((stp f g (j + 1)).1 : Int) by rw [← HA3.out, HX.out.1.1]; rfl)
        have HK1 := mk_ (show adv g kN a2 = (stp f g (j + 1)).2.1 by rw [← HA3.out, HX.out.1.2]; rfl)
        have HMS := mk_ (show x ≤ 100000 ∧ x < a2 by have h1 := HUP.out; have h2 := HX.out.2.2.1; rw [HA3.out] at h1; exact ⟨h2, h1⟩)
        by_cases h1 : kN + 1 < g.length ∧ (rd_T51 g ((kN + 1 : Nat) : Int)).f0 = a2
        ·rw [decide_eq_true h1]
         have HQ := mk_ (show ((stp f g (j + 1)).2.1 : Int) = k + 1 by rw [← HK1.out]; unfold adv; rw [if_pos h1]; have := HI.out; omega)
         clear h1
         gi_wp2
         go_roundw
         case rel => exact ⟨j + 1, by have := HX.out; omega, by rw [HJ1.out], by rw [HQ.out], by rw [HA3.out], HJ3, HKC⟩
         case measure => have := HMS.out; simp [intOf]; omega
        ·rw [decide_eq_false h1]
         have HQ := mk_ (show ((stp f g (j + 1)).2.1 : Int) = k by rw [← HK1.out]; unfold adv; rw [if_neg h1]; have := HI.out; omega)
         clear h1
         gi_wp2
         go_roundw
         case rel => exact ⟨j + 1, by have := HX.out; omega, by rw [HJ1.out], by rw [HQ.out], by rw [HA3.out], HJ3, HKC⟩
         case measure => have := HMS.out; simp [intOf]; omega
theorem sub_list {α : Type} {p : α → Prop} : ∀ (xs : List α), (∀ x, x ∈ xs → p x) → ∃ E : List {x : α // p x}, E.map Subtype.val = xs
 | [], _ => ⟨[], rfl⟩
 | x :: t, h => by
  obtain ⟨E, hE⟩ := sub_list t (fun y hy => h y (List.mem_cons_of_mem _ hy))
  exact ⟨⟨x, h x (List.mem_cons_self ..)⟩ :: E, by rw [List.map_cons, hE]⟩
theorem str_stops {α : Type} (val : α → ST) (E : List α) (n : Nat) (hn : 1 ≤ n) (B1 B2 n0 : Nat) (A0 A1 : Option Addr) (c0 c1 : Nat) (f g : List S51) (M : Nat) (hM : StOk f g M) (hE : E.map val = stL f g M) (w : World) (hB1 : w.heap[B1]? = some (.cells #[.slice A0 f.length c0] 22 (0, 0))) (hB2 : w.heap[B2]? = some (.cells #[.slice A1 g.length c1] 22 (0, 0)))
  (hC0 : ∀ W', Below n0 w W' → Kd.C k51 W' A0 f.length f) (hC1 : ∀ W', Below n0 w W' → Kd.C k51 W' A1 g.length g) (hn0 : n0 ≤ w.heap.size) :
  SeqStopsK Fence.wide n Try.prog 59 #[.pointer (some ⟨B1, 0, none⟩), .pointer (some ⟨B2, 0, none⟩)] (fun x => encST (val x)) (Keep2 n0 B1 B2) (fun xs => xs = E) (fun pre => ∃ k, pre = E.take k) (M + 1) w := by
 intro lr J Jx W hW hJ _ hY h0
 have hl : E.length = M := by rw [← stL_len f g M, ← hE, List.length_map]
 refine (str1_in n hn lr B1 B2 n0 A0 A1 c0 c1 f g M hM (fun pre W => J (E.take pre.length) W) (fun pre W => Jx (E.take pre.length) W) (fun pre W W' h hb => hJ _ W W' none h (grown_of_below hb none) (fun r e => by cases e)) ?_ W (blk_below hB1 hW) (blk_below hB2 hW) (fun W' h => hC0 W' ((hW.mono hn0).trans h)) (fun W' h => hC1 W' ((hW.mono hn0).trans h)) (Nat.le_trans hn0 hW.size) (by simpa using h0)).mono ?_
 ·rintro pre x W1 h hlen ⟨j, hj, rfl, rfl⟩
  have hlj : ((stL f g M).take j).length = j := by rw [List.length_take, stL_len]; omega
  obtain ⟨e, he, hv⟩ : ∃ e, E[j]? = some e ∧ val e = stE f g j := by
   have h1 := stL_at (f := f) (g := g) hj
   rw [← hE, List.getElem?_map] at h1
   exact Option.map_eq_some_iff.1 h1
  have h2 := hY (E.take j) e W1 (by simp only [hlj] at h; exact h) (by rw [List.length_take]; omega)
  have e1 : E.take ((stL f g M).take j ++ [stE f g j]).length = E.take j ++ [e] := by rw [List.length_append, hlj, List.length_singleton, take_nextE he]
  simp only [hv] at h2
  simp only [e1]
  exact h2
 ·rintro e W' ⟨hv, h⟩
  refine ⟨hv, ?_⟩
  rcases h with ⟨xs, rfl, h⟩ | ⟨pre, ⟨k, rfl⟩, h⟩
  ·refine .inl ⟨E, rfl, ?_⟩
   simp only [stL_len, ← hl, List.take_length] at h
   exact h
  ·exact .inr ⟨_, ⟨_, rfl⟩, h⟩
end
section
def piecewise_line_piece.f (k : Nat) (a0_0 : Int) (a0_1 : Int) (a0_2 : Int) (a0_3 : Int) (a1 : Int) : Option (Int × Int × Int × Int × Int) := (piecewise_line_at.f a0_0 a0_1 a0_2 a0_3 a1).bind fun t133 => ((piecewise_lowest.f k t133 a0_2).bind fun bt134 => ((piecewise_lowest.f k a0_1 a0_2).bind fun bt136 => (some (a1, bt134.1, bt134.2, bt136.1, bt136.2))))
theorem piecewise_line_piece.mono : ∀ a0 a1 a2 a3 a4 k, LeO (piecewise_line_piece.f k a0 a1 a2 a3 a4) (piecewise_line_piece.f (k + 1) a0 a1 a2 a3 a4) := by
 intro a0 a1 a2 a3 a4 k
 unfold piecewise_line_piece.f
 repeat' first
   | (with_reducible exact piecewise_lowest.mono _ _ _)
   | (with_reducible exact LeO.refl _)
   | (with_reducible exact LeO.none _)
   | (with_reducible refine LeO.ite ?_ ?_)
   | (with_reducible refine LeO.bind ?_ (fun _ => ?_))
   | exact piecewise_lowest.mono _ _ _
   | exact LeO.none _
   | refine LeO.ite ?_ ?_
   | refine LeO.bind ?_ (fun _ => ?_)
def piecewise_line_piece.T1 : Bool × List (List Nat × List Nat) := (true, [([], []), ([], []), ([], []), ([1, 2], [1, 2]), ([], []), ([4], [4]), ([3, 5, 3], [3, 5]), ([], []), ([7], [7]), ([], []), ([9], [9]), ([8, 10, 6], [8, 10]), ([0, 6, 11], [0, 6, 11]), ([12, 11, 0, 1, 2, 3, 4, 5, 6, 7, 8, 9, 10, 11, 12], [12])])
def piecewise_line_piece.B1 : List Nat := [0, 0, 0, 6, 0, 16, 62, 0, 128, 0, 512, 2046, 4095, 8191]
theorem piecewise_line_piece.tab1 : rtab .any (opsOf Try.f47 1) = piecewise_line_piece.T1 := by kernel_rfl
theorem piecewise_line_piece.bits1 : waitsOk piecewise_line_piece.T1.2 piecewise_line_piece.B1 = true := by kernel_rfl
theorem piecewise_line_piece.calls (k : Nat) (a0_0 : Int) (a0_1 : Int) (a0_2 : Int) (a0_3 : Int) (a1 : Int) (r1 : Int) (r2 : Int) (r3 : Int) (r4 : Int) (r5 : Int) (w : World) (h : piecewise_line_piece.f k a0_0 a0_1 a0_2 a0_3 a1 = some (r1, r2, r3, r4, r5)) :
  Calls Try.prog 47 #[.agg #[.int .i64 a0_0, .int .i64 a0_1, .int .i64 a0_2, .int .i64 a0_3], .int .i64 a1] w fun e w' => e = .returned (.agg #[.int .i64 r1, .int .i64 r2, .int .i64 r3, .int .i64 r4, .int .i64 r5]) ∧ Below w.heap.size w w' := by
 have hu54 := Try.underlying54
 have hu51 := Try.underlying51
 have HB := mk_ (Below.refl w.heap.size w)
 have H : ((piecewise_line_at.f a0_0 a0_1 a0_2 a0_3 a1).bind fun t133 => ((piecewise_lowest.f k t133 a0_2).bind fun bt134 => ((piecewise_lowest.f k a0_1 a0_2).bind fun bt136 => (some (a1, bt134.1, bt134.2, bt136.1, bt136.2))))) = some (r1, r2, r3, r4, r5) := h
 clear h
 replace H := Option.bind_eq_some_iff.mp H
 obtain ⟨t133, A30, H⟩ := H
 replace H : ((piecewise_lowest.f k t133 a0_2).bind fun bt134 => ((piecewise_lowest.f k a0_1 a0_2).bind fun bt136 => (some (a1, bt134.1, bt134.2, bt136.1, bt136.2)))) = some (r1, r2, r3, r4, r5) := H
 have A3 := mk_ A30
 clear A30
 replace H := Option.bind_eq_some_iff.mp H
 obtain ⟨⟨t134, t135⟩, A40, H⟩ := H
 replace H : ((piecewise_lowest.f k a0_1 a0_2).bind fun bt136 => (some (a1, t134, t135, bt136.1, bt136.2))) = some (r1, r2, r3, r4, r5) := H
 have A4 := mk_ A40
 clear A40
 replace H := Option.bind_eq_some_iff.mp H
 obtain ⟨⟨t136, t137⟩, A50, H⟩ := H
 replace H : (some (a1, t134, t135, t136, t137)) = some (r1, r2, r3, r4, r5) := H
 have A5 := mk_ A50
 clear A50
 simp only [Option.some.injEq, Prod.mk.injEq] at H
 obtain ⟨rfl, rfl, rfl, rfl, rfl⟩ := H
 go_enter Try.func47, Try.ntmps47
 try go_wp2_with (first | ((with_reducible refine gate_dst (N := 2) rfl ?_); refine box_event ?hg (N := 2) ?hd (cs := #[.int .i64 a0_0, .int .i64 a0_1, .int .i64 a0_2, .int .i64 a0_3]) (t := 54) ?hr ?_; (case hd => rfl); (case hg => rfl); (case hr => first | (go_simp; done) | (go_simp; rfl)); intro gb131 hg w6 hbox hb; have n0_ := mk_ (below_step (bb_ HB) hb); have n1_ := mk_ (hbox); have n2_ := mk_ (bz_ hg (bb_ HB)); have n3_ := mk_ (bz_ hg (bb_ HB)); clear HB; revert n0_ n1_ n2_ n3_; intro HB BK131 GW131 GE131; clear hb hbox hg) | ((with_reducible refine gate_dst (N := 4) rfl ?_); refine box_event ?hg (N := 4) ?hd (cs := #[.int .i64 0, .int .i64 0, .int .i64 0, .int .i64 0, .int .i64 0]) (t := 51) ?hr ?_; (case hd => rfl); (case hg => rfl); (case hr => first | (go_simp; done) | (go_simp; rfl)); intro gb132 hg w7 hbox hb; have n0_ := mk_ (blk_below (kk_ BK131) hb); have n1_ := mk_ (below_step (bs_ HB GE131.out) hb); have n2_ := mk_ (hbox); have n3_ := mk_ (bz_ hg (bs_ HB GE131.out)); have n4_ := mk_ (bz_ hg (bs_ HB GE131.out)); have n5_ := mk_ (bl_ hg (kk_ BK131)); have n6_ := mk_ (bg_ hg (kk_ BK131)); clear BK131 HB; revert n0_ n1_ n2_ n3_ n4_ n5_ n6_; intro BK131 HB BK132 GW132 GE132 NB131_132 NB132_131; clear hb hbox hg))
 have n0_ := mk_ (blk_drew BK131.out)
 have n1_ := mk_ (blk_drew BK132.out)
 have n2_ := mk_ (below_drew1 HB.out)
 clear BK131
 clear BK132
 clear HB
 have BK131 := n0_
 have BK132 := n1_
 have HB := n2_
 clear n0_ n1_ n2_
 refine start_ (n := 14) (S := fun w' => w'.cell? ⟨gb131, 0, none⟩ = some (.int .i64 a0_0) ∧ w'.cell? ⟨gb131, 1, none⟩ = some (.int .i64 a0_1) ∧ w'.cell? ⟨gb131, 2, none⟩ = some (.int .i64 a0_2) ∧ w'.cell? ⟨gb131, 3, none⟩ = some (.int .i64 a0_3)) (ds := []) #[n_, n_, n_, n_, n_, n_, n_, n_, n_, n_, n_, n_, n_, n_] (by kernel_rfl) rfl rfl ⟨(blk_cell BK131.out 0).trans rfl, (blk_cell BK131.out 1).trans rfl, (blk_cell BK131.out 2).trans rfl, (blk_cell BK131.out 3).trans rfl⟩ (fun hHeld => ?_); refine with_tabW piecewise_line_piece.tab1 piecewise_line_piece.bits1 (fun HT_ HW_ => ?_)
 generalize w7.drew = w8 at BK131 BK132 HB hHeld ⊢
 refine pu_ 0 5 (w_ 14 1) rfl HT_ ?_
 refine pu_ 2 7 (w_ 14 5) rfl HT_ ?_
 refine pu_ 4 9 (w_ 14 21) rfl HT_ ?_
 refine pu_ 7 12 (w_ 14 149) rfl HT_ ?_
 refine pu_ 9 14 (w_ 14 661) rfl HT_ ?_
 refine ta_ 1 6 (w_ 14 663) rfl HT_ HW_ hHeld (by rintro w' ⟨s0, s1, s2, s3⟩; go_simp; with_reducible rfl) ?_
 refine ta_ 5 10 (w_ 14 695) rfl HT_ HW_ hHeld (by rintro w' ⟨s0, s1, s2, s3⟩; go_simp; with_reducible rfl) ?_
 refine ta_ 8 13 (w_ 14 951) rfl HT_ HW_ hHeld (by rintro w' ⟨s0, s1, s2, s3⟩; go_simp; with_reducible rfl) ?_
 refine ta_ 10 15 (w_ 14 1975) rfl HT_ HW_ hHeld (by rintro w' ⟨s0, s1, s2, s3⟩; go_simp; with_reducible rfl) ?_
 refine one_ (i := 3) (N := some 8) (w_ 14 1983) rfl rfl (one_of HT_.out (by kernel_rfl)) (by decide) (fun K hK => ?_)
 refine goes_ Try.func36 (by kernel_rfl) rfl #[.agg #[.int .i64 a0_0, .int .i64 a0_1, .int .i64 a0_2, .int .i64 a0_3], .int .i64 a1] (by rfl) rfl rfl (by (try simp only [List.map_toArray, List.map_cons, List.map_nil]); first | done | rfl | (simp only [List.length_drop, List.length_take]; rfl)) ?_
 with_reducible refine (piecewise_line_at.calls a0_0 a0_1 a0_2 a0_3 a1 t133 _ A3.out).mono ?_
 rintro e w9 ⟨rfl, hb⟩
 refine ⟨_, rfl, ?_⟩
 have n0_ := mk_ (blk_below (kk_ BK131) hb)
 have n1_ := mk_ (blk_below (kk_ BK132) hb)
 have n2_ := mk_ (below_step (bs2_ HB GE131 GE132) hb)
 clear BK131
 clear BK132
 clear HB
 have BK131 := n0_
 have BK132 := n1_
 have HB := n2_
 clear n0_ n1_ n2_
 (try clear hb)
 (try clear hb2)
 (try clear hk)
 (try clear hi)
 refine hK.out _ _ ⟨(blk_cell BK131.out 0).trans rfl, (blk_cell BK131.out 1).trans rfl, (blk_cell BK131.out 2).trans rfl, (blk_cell BK131.out 3).trans rfl⟩ (fun hHeld => ?_)
 clear hK K
 refine norm_ (a' := ?_) ?_ ?_
 rotate_left
 ·show Act.put _ (some 8) _ = _
  simp only [Act.put, sI_, s0_, sS_, i64_w, i32_w]
  rfl
 refine one_ (i := 6) (N := some 11) (w_ 14 2047) rfl rfl (one_of HT_.out (by kernel_rfl)) (by decide) (fun K hK => ?_)
 refine goes_ Try.func35 (by kernel_rfl) rfl #[.int .i64 t133, .int .i64 a0_2] (by rfl) rfl rfl (by (try simp only [List.map_toArray, List.map_cons, List.map_nil]); first | done | rfl | (simp only [List.length_drop, List.length_take]; rfl)) ?_
 with_reducible refine (piecewise_lowest.calls k t133 a0_2 t134 t135 _ A4.out).mono ?_
 rintro e w10 ⟨rfl, hb⟩
 refine ⟨_, rfl, ?_⟩
 have n0_ := mk_ (blk_below (kk_ BK131) hb)
 have n1_ := mk_ (blk_below (kk_ BK132) hb)
 have n2_ := mk_ (below_step (bs2_ HB GE131 GE132) hb)
 clear BK131
 clear BK132
 clear HB
 have BK131 := n0_
 have BK132 := n1_
 have HB := n2_
 clear n0_ n1_ n2_
 (try clear hb)
 (try clear hb2)
 (try clear hk)
 (try clear hi)
 refine hK.out _ _ ⟨(blk_cell BK131.out 0).trans rfl, (blk_cell BK131.out 1).trans rfl, (blk_cell BK131.out 2).trans rfl, (blk_cell BK131.out 3).trans rfl⟩ (fun hHeld => ?_)
 clear hK K
 refine norm_ (a' := ?_) ?_ ?_
 rotate_left
 ·show Act.put _ (some 11) _ = _
  simp only [Act.put, sI_, s0_, sS_, i64_w, i32_w]
  rfl
 refine one_ (i := 11) (N := some 16) (w_ 14 4095) rfl rfl (one_of HT_.out (by kernel_rfl)) (by decide) (fun K hK => ?_)
 refine goes_ Try.func35 (by kernel_rfl) rfl #[.int .i64 a0_1, .int .i64 a0_2] (by rfl) rfl rfl (by (try simp only [List.map_toArray, List.map_cons, List.map_nil]); first | done | rfl | (simp only [List.length_drop, List.length_take]; rfl)) ?_
 with_reducible refine (piecewise_lowest.calls k a0_1 a0_2 t136 t137 _ A5.out).mono ?_
 rintro e w11 ⟨rfl, hb⟩
 refine ⟨_, rfl, ?_⟩
 have n0_ := mk_ (blk_below (kk_ BK131) hb)
 have n1_ := mk_ (blk_below (kk_ BK132) hb)
 have n2_ := mk_ (below_step (bs2_ HB GE131 GE132) hb)
 clear BK131
 clear BK132
 clear HB
 have BK131 := n0_
 have BK132 := n1_
 have HB := n2_
 clear n0_ n1_ n2_
 (try clear hb)
 (try clear hb2)
 (try clear hk)
 (try clear hi)
 refine hK.out _ _ ⟨(blk_cell BK131.out 0).trans rfl, (blk_cell BK131.out 1).trans rfl, (blk_cell BK131.out 2).trans rfl, (blk_cell BK131.out 3).trans rfl⟩ (fun hHeld => ?_)
 clear hK K
 refine norm_ (a' := ?_) ?_ ?_
 rotate_left
 ·show Act.put _ (some 16) _ = _
  simp only [Act.put, sI_, s0_, sS_, i64_w, i32_w]
  rfl
 refine pu_ 12 17 (w_ 14 8191) rfl HT_ ?_
 refine one_ (i := 13) (N := none) (w_ 14 16383) rfl rfl (one_of HT_.out (by kernel_rfl)) (by decide) (fun K hK => ?_)
 have hs12 : w11.cell? ⟨gb132, 0, none⟩ = some (.int .i64 0) := (blk_cell BK132.out 0).trans rfl
 have hfs12 := blk_frozen BK132.out 0
 have hns12_0 := NB131_132.out
 have hms12_0 := NB132_131.out
 have hs13 : w11.cell? ⟨gb132, 1, none⟩ = some (.int .i64 0) := (blk_cell BK132.out 1).trans rfl
 have hfs13 := blk_frozen BK132.out 1
 have hns13_0 := NB131_132.out
 have hms13_0 := NB132_131.out
 have hs14 : w11.cell? ⟨gb132, 2, none⟩ = some (.int .i64 0) := (blk_cell BK132.out 2).trans rfl
 have hfs14 := blk_frozen BK132.out 2
 have hns14_0 := NB131_132.out
 have hms14_0 := NB132_131.out
 have hs15 : w11.cell? ⟨gb132, 3, none⟩ = some (.int .i64 0) := (blk_cell BK132.out 3).trans rfl
 have hfs15 := blk_frozen BK132.out 3
 have hns15_0 := NB131_132.out
 have hms15_0 := NB132_131.out
 have hs16 : w11.cell? ⟨gb132, 4, none⟩ = some (.int .i64 0) := (blk_cell BK132.out 4).trans rfl
 have hfs16 := blk_frozen BK132.out 4
 have hns16_0 := NB131_132.out
 have hms16_0 := NB132_131.out
 refine skip_ (w1 := ?_) (by rfl) rfl ?_ ?_
 rotate_left
 ·go_simp
  rfl
 refine hK.out _ _ ⟨((cell_far (p := ⟨gb132, _, none⟩) NB131_132.out _).trans (((cell_far (p := ⟨gb132, _, none⟩) NB131_132.out _).trans (((cell_far (p := ⟨gb132, _, none⟩) NB131_132.out _).trans (((cell_far (p := ⟨gb132, _, none⟩) NB131_132.out _).trans (((cell_far (p := ⟨gb132, _, none⟩) NB131_132.out _).trans (hHeld.1)))))))))), ((cell_far (p := ⟨gb132, _, none⟩) NB131_132.out _).trans (((cell_far (p := ⟨gb132, _, none⟩) NB131_132.out _).trans (((cell_far (p := ⟨gb132, _, none⟩) NB131_132.out _).trans (((cell_far (p := ⟨gb132, _, none⟩) NB131_132.out _).trans (((cell_far (p := ⟨gb132, _, none⟩) NB131_132.out _).trans (hHeld.2.1)))))))))), ((cell_far (p := ⟨gb132, _, none⟩) NB131_132.out _).trans (((cell_far (p := ⟨gb132, _, none⟩) NB131_132.out _).trans (((cell_far (p := ⟨gb132, _, none⟩) NB131_132.out _).trans (((cell_far (p := ⟨gb132, _, none⟩) NB131_132.out _).trans (((cell_far (p := ⟨gb132, _, none⟩) NB131_132.out _).trans (hHeld.2.2.1)))))))))), ((cell_far (p := ⟨gb132, _, none⟩) NB131_132.out _).trans (((cell_far (p := ⟨gb132, _, none⟩) NB131_132.out _).trans (((cell_far (p := ⟨gb132, _, none⟩) NB131_132.out _).trans (((cell_far (p := ⟨gb132, _, none⟩) NB131_132.out _).trans (((cell_far (p := ⟨gb132, _, none⟩) NB131_132.out _).trans (hHeld.2.2.2))))))))))⟩ (fun hHeld => ?_)
 clear hK K
 refine done_ (done_of HT_.out (by kernel_rfl)) ?_
 try go_wp2
 refine bodyPost_ret (results_cell_row rfl _ _ gb132 51 #[.int .i64 a1, .int .i64 t134, .int .i64 t135, .int .i64 t136, .int .i64 t137] (0, 0) _ rfl (by (with_reducible repeat (first | refine blk_drewN ?_ _ | refine blk_drew ?_ | refine blk_alloc ?_ _)); refine blk_put (cs := #[.int .i64 a1, .int .i64 t134, .int .i64 t135, .int .i64 t136, .int .i64 0]) ?_ 4 _ rfl; (with_reducible repeat (first | refine blk_drewN ?_ _ | refine blk_drew ?_ | refine blk_alloc ?_ _)); refine blk_put (cs := #[.int .i64 a1, .int .i64 t134, .int .i64 t135, .int .i64 0, .int .i64 0]) ?_ 3 _ rfl; (with_reducible repeat (first | refine blk_drewN ?_ _ | refine blk_drew ?_ | refine blk_alloc ?_ _)); refine blk_put (cs := #[.int .i64 a1, .int .i64 t134, .int .i64 0, .int .i64 0, .int .i64 0]) ?_ 2 _ rfl; (with_reducible repeat (first | refine blk_drewN ?_ _ | refine blk_drew ?_ | refine blk_alloc ?_ _)); refine blk_put (cs := #[.int .i64 a1, .int .i64 0, .int .i64 0, .int .i64 0, .int .i64 0]) ?_ 1 _ rfl; (with_reducible repeat (first | refine blk_drewN ?_ _ | refine blk_drew ?_ | refine blk_alloc ?_ _)); refine blk_put (cs := #[.int .i64 0, .int .i64 0, .int .i64 0, .int .i64 0, .int .i64 0]) ?_ 0 _ rfl; (with_reducible repeat (first | refine blk_drewN ?_ _ | refine blk_drew ?_ | refine blk_alloc ?_ _)); exact BK132.out) Try.underlying51 rfl (by kernel_rfl)) rfl ?_
 exact ⟨ew_, bs2_ HB GE131 GE132⟩
end
section
open Go.Proofs.YtmhimmodigeeiaaH
structure BD where
 last : LN
 out : List S51
 bad : Bool
def pieceO (k : Nat) (l : LN) (x : Int) : Option S51 := (piecewise_line_piece.f k l.n l.s l.d l.fr x).bind fun t => some ⟨t.1, ⟨t.2.1, t.2.2.1⟩, ⟨t.2.2.2.1, t.2.2.2.2⟩⟩
def eqP (p q : S51) : Bool := p.f0 == q.f0 && ((p.f1.f0 == q.f1.f0 && (p.f1.f1 == q.f1.f1)) && (p.f2.f0 == q.f2.f0 && (p.f2.f1 == q.f2.f1)))
def numB (p : S51) : Option Bool := piecewise_numbers.f p.f0 p.f1.f0 p.f1.f1 p.f2.f0 p.f2.f1
def putO (k : Nat) (b : BD) (l : LN) (x : Int) : Option BD :=
 (pieceO k l x).bind fun p => if b.out.length = 0 then ((numB p).bind fun ok => some ⟨l, b.out ++ [p], b.bad || !ok⟩)
  else ((pieceO k b.last x).bind fun q => if eqP p q = true then some ⟨l, b.out, b.bad⟩ else ((numB p).bind fun ok => some ⟨l, b.out ++ [p], b.bad || !ok⟩))
theorem pieceO_calls (k : Nat) (l : LN) (x : Int) (p : S51) (w : World) (h : pieceO k l x = some p) : Calls Try.prog 47 #[.agg #[.int .i64 l.n, .int .i64 l.s, .int .i64 l.d, .int .i64 l.fr], .int .i64 x] w fun e w' => e = .returned (.agg #[.int .i64 p.f0, .int .i64 p.f1.f0, .int .i64 p.f1.f1, .int .i64 p.f2.f0, .int .i64 p.f2.f1]) ∧ Below w.heap.size w w' := by
 unfold pieceO at h
 obtain ⟨t, ht, h⟩ := Option.bind_eq_some_iff.1 h
 obtain rfl := Option.some.inj h
 exact piecewise_line_piece.calls k l.n l.s l.d l.fr x _ _ _ _ _ w ht
theorem numB_calls (p : S51) (b : Bool) (w : World) (h : numB p = some b) : Calls Try.prog 38 #[.agg #[.int .i64 p.f0, .int .i64 p.f1.f0, .int .i64 p.f1.f1, .int .i64 p.f2.f0, .int .i64 p.f2.f1]] w fun e w' => e = .returned (.bool b) ∧ Below w.heap.size w w' :=
 piecewise_numbers.calls _ _ _ _ _ b w h
theorem eqQ24 (d : Nat) (w : World) (x0 y0 : Int) (x1 y1 : Int) :
  (Op.equalIn (d + 2) 24 (.agg #[.int .i64 x0, .int .i64 x1]) (.agg #[.int .i64 y0, .int .i64 y1])).run Try.prog w = .ok (x0 == y0 && (x1 == y1)) w := by
 refine eqA_of Try.underlying24 (by kernel_rfl) ?_
 refine eqf_cons (by rfl) (by go_simp; rfl) (by go_simp; rfl) (by go_simp) ?_
 exact eqf_last (by rfl) (by go_simp; rfl) (by go_simp; rfl) (by go_simp)
theorem eqQ51 (d : Nat) (w : World) (x0 y0 x1 y1 x2 y2 x3 y3 x4 y4 : Int) :
  (Op.equalIn (d + 3) 51 (.agg #[.int .i64 x0, .int .i64 x1, .int .i64 x2, .int .i64 x3, .int .i64 x4]) (.agg #[.int .i64 y0, .int .i64 y1, .int .i64 y2, .int .i64 y3, .int .i64 y4])).run Try.prog w = .ok (x0 == y0 && ((x1 == y1 && (x2 == y2)) && (x3 == y3 && (x4 == y4)))) w := by
 refine eqA_of Try.underlying51 (by kernel_rfl) ?_
 refine eqf_cons (by rfl) (by go_simp; rfl) (by go_simp; rfl) (by go_simp) ?_
 refine eqf_cons (by rfl) (by go_simp) (by go_simp) (eqQ24 (d + 0) w _ _ _ _) ?_
 exact eqf_last (by rfl) (by go_simp) (by go_simp) (eqQ24 (d + 0) w _ _ _ _)
attribute [local go_sem high] eqQ51
def BdAt (W : World) (base g : Nat) (b : BD) (v : Value) : Prop := W.heap[g]? = some (.cells #[.int .i64 b.last.n, .int .i64 b.last.s, .int .i64 b.last.d, .int .i64 b.last.fr, v, .bool b.bad] 59 (0, 0)) ∧ Kd.R k51 51 W base (fun _ => True) v b.out
theorem neP (p q : S51) : (!p.f0 == q.f0 || (!p.f1.f0 == q.f1.f0 || !p.f1.f1 == q.f1.f1 || (!p.f2.f0 == q.f2.f0 || !p.f2.f1 == q.f2.f1))) = !eqP p q := by
 simp only [eqP, Bool.not_and]
theorem put_end {w W' : World} {n0 g : Nat} {b b0 : BD} {cs : Array Value} {v v' : Value} (hg : w.heap[g]? = some (.cells cs 59 (0, 0))) (hR : Kd.R k51 51 w n0 (fun _ => True) v b0.out) (hb : Below n0 w W') (hk : KeepBut w W' g v.ownBlock) (hB : BdAt W' n0 g b v') :
  (∃ v', BdAt W' n0 g b v') ∧ Below n0 w W' ∧ KeepsOthers w W' ∧ ∀ i, i < w.heap.size → i ≠ g → some i ≠ v.ownBlock → W'.heap[i]? = w.heap[i]? := by
 refine ⟨⟨_, hB⟩, hb, ⟨hb.size, fun i o hi ho => (hk.2 i (blk_lt hi) ?_ ?_).trans hi⟩, hk.2⟩
 ·rintro rfl
  rw [hg] at hi
  cases hi
  cases ho
 ·intro e
  obtain ⟨cells, hc⟩ := Kd.R_typed hR i e.symm
  rw [hc] at hi
  cases hi
  cases ho
set_option maxHeartbeats 16000000 in
theorem put_calls (k : Nat) (b b' : BD) (l : LN) (x : Int) (w : World) (n0 g : Nat) (v : Value) (hn : n0 ≤ g) (hb : BdAt w n0 g b v) (hlen : b.out.length ≤ 1000000) (h : putO k b l x = some b') :
  Calls Try.prog 40 #[.pointer (some ⟨g, 0, none⟩), .agg #[.int .i64 l.n, .int .i64 l.s, .int .i64 l.d, .int .i64 l.fr], .int .i64 x] w fun e w' => (∃ u, e = .returned u) ∧ (∃ v', BdAt w' n0 g b' v') ∧ Below n0 w w' ∧ KeepsOthers w w' ∧ ∀ i, i < w.heap.size → i ≠ g → some i ≠ v.ownBlock → w'.heap[i]? = w.heap[i]? := by
 have hu51 := Try.underlying51
 have hu54 := Try.underlying54
 have hu59 := Try.underlying59
 have hu24 := Try.underlying24
 obtain ⟨hg, hR⟩ := hb
 obtain ⟨Av, cv, ev⟩ := Kd.R_slice hR
 obtain ⟨nv, hnv⟩ : ∃ nv, nv = b.out.length := ⟨_, rfl⟩
 rw [← hnv] at ev
 subst ev
 have HNV := mk_ hnv
 clear hnv
 unfold putO at h
 obtain ⟨p, hp, h⟩ := Option.bind_eq_some_iff.1 h
 have HP := mk_ hp
 have HG := mk_ hg
 have HR := mk_ hR
 have HB := mk_ (Below.refl w.heap.size w)
 go_enter Try.func40, Try.ntmps40
 go_upto_region 2 with (first | ((with_reducible refine gate_dst (N := 4) rfl ?_); refine box_event ?hg (N := 4) ?hd (cs := #[.int .i64 l.n, .int .i64 l.s, .int .i64 l.d, .int .i64 l.fr]) (t := 54) ?hr ?_; (case hd => rfl); (case hg => rfl); (case hr => first | (go_simp; done) | (go_simp; rfl)); intro g1 hg_L w1 hbox_ hb_; have n0_ := mk_ (below_step HB.out hb_); have BL := mk_ hbox_; have GL := mk_ (show w.heap.size ≤ g1 by rw [hg_L]; exact below_size HB.out); have EL := mk_ hg_L; have hcL0 : w1.cell? ⟨g1, 0, none⟩ = some (.int .i64 l.n) := (blk_cell hbox_ 0).trans rfl; have hfL0 := blk_frozen hbox_ 0; have hcL1 : w1.cell? ⟨g1, 1, none⟩ = some (.int .i64 l.s) := (blk_cell hbox_ 1).trans rfl; have hfL1 := blk_frozen hbox_ 1; have hcL2 : w1.cell? ⟨g1, 2, none⟩ = some (.int .i64 l.d) := (blk_cell hbox_ 2).trans rfl; have hfL2 := blk_frozen hbox_ 2; have hcL3 : w1.cell? ⟨g1, 3, none⟩ = some (.int .i64 l.fr) := (blk_cell hbox_ 3).trans rfl; have hfL3 := blk_frozen hbox_ 3; clear HB hg_L hbox_ hb_; have HB := n0_; clear n0_) | (go_at_call 47; (with_reducible refine (pieceO_calls k l x p _ HP.out).mono ?_); rintro e w2 ⟨rfl, hb_⟩; have n0_ := mk_ (below_step HB.out hb_); have BL := mk_ (blk_below BL.out hb_); clear HB hb_; have HB := n0_; clear n0_) | ((with_reducible refine gate_dst (N := 6) rfl ?_); refine box_event ?hg (N := 6) ?hd (cs := #[.int .i64 0, .int .i64 0, .int .i64 0, .int .i64 0, .int .i64 0]) (t := 51) ?hr ?_; (case hd => rfl); (case hg => rfl); (case hr => first | (go_simp; done) | (go_simp; rfl)); intro g2 hg_P w3 hbox_ hb_; have n0_ := mk_ (below_step HB.out hb_); have BP := mk_ hbox_; have GP := mk_ (show w.heap.size ≤ g2 by rw [hg_P]; exact below_size HB.out); have EP := mk_ hg_P; have hcP0 : w3.cell? ⟨g2, 0, none⟩ = some (.int .i64 0) := (blk_cell hbox_ 0).trans rfl; have hfP0 := blk_frozen hbox_ 0; have hcP1 : w3.cell? ⟨g2, 1, none⟩ = some (.int .i64 0) := (blk_cell hbox_ 1).trans rfl; have hfP1 := blk_frozen hbox_ 1; have hcP2 : w3.cell? ⟨g2, 2, none⟩ = some (.int .i64 0) := (blk_cell hbox_ 2).trans rfl; have hfP2 := blk_frozen hbox_ 2; have hcP3 : w3.cell? ⟨g2, 3, none⟩ = some (.int .i64 0) := (blk_cell hbox_ 3).trans rfl; have hfP3 := blk_frozen hbox_ 3; have hcP4 : w3.cell? ⟨g2, 4, none⟩ = some (.int .i64 0) := (blk_cell hbox_ 4).trans rfl; have hfP4 := blk_frozen hbox_ 4; have BL := mk_ (blk_below BL.out hb_); clear HB hg_P hbox_ hb_; have HB := n0_; clear n0_))
 obtain ⟨w4, hw4⟩ : ∃ w4, w4 = ((((w3.setCell ⟨g2, 0, none⟩ (.int .i64 p.f0)).setCell ⟨g2, 1, none⟩ (.int .i64 p.f1.f0)).setCell ⟨g2, 2, none⟩ (.int .i64 p.f1.f1)).setCell ⟨g2, 3, none⟩ (.int .i64 p.f2.f0)).setCell ⟨g2, 4, none⟩ (.int .i64 p.f2.f1) := ⟨_, rfl⟩
 rw [← hw4]
 have BP4 := mk_ (show w4.heap[g2]? = some (.cells #[.int .i64 p.f0, .int .i64 p.f1.f0, .int .i64 p.f1.f1, .int .i64 p.f2.f0, .int .i64 p.f2.f1] 51 (0, 0)) by rw [hw4]; exact blk_put (blk_put (blk_put (blk_put (blk_put BP.out 0 _ rfl) 1 _ rfl) 2 _ rfl) 3 _ rfl) 4 _ rfl)
 have HB4 := mk_ (show Below w.heap.size w w4 by rw [hw4]; exact below_set (below_set (below_put3 HB.out GP.out _ _ _) GP.out) GP.out)
 have NLP := mk_ (blk_ne BL.out BP.out (by decide))
 have BL4 := mk_ (show w4.heap[g1]? = some (.cells #[.int .i64 l.n, .int .i64 l.s, .int .i64 l.d, .int .i64 l.fr] 54 (0, 0)) by rw [hw4]; exact blk_far (p := ⟨g2, 4, none⟩) (blk_far (p := ⟨g2, 3, none⟩) (blk_far (p := ⟨g2, 2, none⟩) (blk_far (p := ⟨g2, 1, none⟩) (blk_far (p := ⟨g2, 0, none⟩) BL.out NLP.out _) NLP.out _) NLP.out _) NLP.out _) NLP.out _)
 have BG4 := mk_ (blk_below HG.out HB4.out)
 have HGL := mk_ (blk_lt HG.out)
 have HN0 := mk_ (show n0 ≤ w.heap.size by have := HGL.out; omega)
 clear hw4 BP HB BL hcL0 hcL1 hcL2 hcL3 hfL0 hfL1 hfL2 hfL3 hcP0 hcP1 hcP2 hcP3 hcP4 hfP0 hfP1 hfP2 hfP3 hfP4 hp hg hR
 have hcv : w4.drew.cell? ⟨g, 4, none⟩ = some (.slice Av nv cv) := (blk_cell (show w4.drew.heap[g]? = _ from BG4.out) 4).trans rfl
 by_cases hz : b.out.length = 0
 ·rw [if_pos hz] at h
  obtain ⟨ok, hok, h⟩ := Option.bind_eq_some_iff.1 h
  obtain rfl := Option.some.inj h
  have HOK := mk_ hok
  have z1 : ((nv : Int) == 0) = true := beq_iff_eq.2 (by have := HNV.out; omega)
  have z2 : (nv == 0) = true := beq_iff_eq.2 (by have := HNV.out; omega)
  clear h hok
  refine start_ (n := 16) (S := fun w' => w'.cell? ⟨g, 4, none⟩ = some (.slice Av nv cv)) (ds := []) #[n_, n_, n_, n_, n_, n_, n_, n_, n_, n_, n_, n_, n_, n_, n_, n_] (by kernel_rfl) rfl rfl (hcv) (fun hHeld => ?_)
  refine pv_ 0 10 (w_ 16 1) rfl ?_
  refine pv_ 1 11 (w_ 16 3) rfl ?_
  refine pv_ 2 12 (w_ 16 7) rfl ?_
  refine take_ (i := 3) (N := some 13) (v := ?_) (a' := ?_) #[y_, y_, y_, y_, n_, n_, n_, n_, n_, n_, n_, n_, n_, n_, n_, n_] rfl rfl (by kernel_rfl) (fun _ _ _ h => h) (Or.inl ⟨by rfl, ?_⟩) hHeld ?_ ?_
  rotate_left
  ·intro w' s0
   go_simp
   with_reducible rfl
  rotate_left
  ·simp only [Act.put, sI_, s0_, sS_, i64_w, i32_w]
   rfl
  refine pv_ 4 14 (w_ 16 31) rfl ?_
  refine pv_ 5 15 (w_ 16 63) rfl ?_
  refine pv_ 6 16 (w_ 16 127) rfl ?_
  refine po_ 7 17 (w_ 16 255) rfl ?_
  refine po_ 8 18 (w_ 16 511) rfl ?_
  refine po_ 9 19 (w_ 16 1023) rfl ?_
  refine po_ 10 20 (w_ 16 2047) rfl ?_
  refine po_ 11 21 (w_ 16 4095) rfl ?_
  refine po_ 12 22 (w_ 16 8191) rfl ?_
  refine po_ 13 23 (w_ 16 16383) rfl ?_
  refine po_ 14 24 (w_ 16 32767) rfl ?_
  refine pv_ 15 25 (w_ 16 65535) rfl ?_
  refine done_ (by kernel_rfl) ?_
  have BG5 := mk_ (show w4.drew.heap[g]? = _ from BG4.out)
  have BL5 := mk_ (show w4.drew.heap[g1]? = _ from BL4.out)
  have BP5 := mk_ (show w4.drew.heap[g2]? = _ from BP4.out)
  have HB5 := mk_ (below_drew HB4.out)
  obtain ⟨W5, hW5⟩ : ∃ W5, W5 = w4.drew := ⟨_, rfl⟩
  rw [← hW5] at BG5 BL5 BP5 HB5 ⊢
  clear hW5 hcv
  have NGV := mk_ (Kd.R_ne HR.out HG.out (by decide))
  have NPV := mk_ (show some g2 ≠ (Value.slice Av nv cv).ownBlock from fun e => by have := Kd.R_lt HR.out g2 e.symm; have := GP.out; omega)
  have NLV := mk_ (show some g1 ≠ (Value.slice Av nv cv).ownBlock from fun e => by have := Kd.R_lt HR.out g1 e.symm; have := GL.out; omega)
  have HR5 := mk_ (Kd.R_drew (Kd.R_below HR.out HB5.out))
  go_wp2_with (fail)
  refine start_ (n := 11) (S := fun w' => w'.cell? ⟨g, 4, none⟩ = some (.slice Av nv cv) ∧ w'.cell? ⟨g2, 0, none⟩ = some (.int .i64 p.f0) ∧ w'.cell? ⟨g2, 1, none⟩ = some (.int .i64 p.f1.f0) ∧ w'.cell? ⟨g2, 2, none⟩ = some (.int .i64 p.f1.f1) ∧ w'.cell? ⟨g2, 3, none⟩ = some (.int .i64 p.f2.f0) ∧ w'.cell? ⟨g2, 4, none⟩ = some (.int .i64 p.f2.f1)) (ds := [10]) #[n_, n_, n_, n_, n_, n_, n_, n_, n_, n_, n_] (by kernel_rfl) rfl rfl ⟨(blk_cell (show W5.drew.heap[g]? = _ from BG5.out) 4).trans rfl, (blk_cell (show W5.drew.heap[g2]? = _ from BP5.out) 0).trans rfl, (blk_cell (show W5.drew.heap[g2]? = _ from BP5.out) 1).trans rfl, (blk_cell (show W5.drew.heap[g2]? = _ from BP5.out) 2).trans rfl, (blk_cell (show W5.drew.heap[g2]? = _ from BP5.out) 3).trans rfl, (blk_cell (show W5.drew.heap[g2]? = _ from BP5.out) 4).trans rfl⟩ (fun hHeld => ?_)
  refine pv_ 0 26 (w_ 11 1) rfl ?_
  refine pv_ 1 27 (w_ 11 3) rfl ?_
  refine pv_ 2 28 (w_ 11 7) rfl ?_
  refine pv_ 3 29 (w_ 11 15) rfl ?_
  refine tb_ 4 30 (w_ 11 31) rfl hHeld (by rintro w' ⟨s0, s1, s2, s3, s4, s5⟩; go_simp; with_reducible rfl) ?_
  refine tb_ 5 31 (w_ 11 63) rfl hHeld (by rintro w' ⟨s0, s1, s2, s3, s4, s5⟩; go_simp; with_reducible rfl) ?_
  refine one_ (i := 6) (N := some 32) (w_ 11 127) rfl rfl (by kernel_rfl) (by decide) (fun K hK => ?_)
  refine value_ (w1 := ?_) (v := ?_) (by rfl) rfl ?_ ?_
  rotate_left 2
  ·go_simp
   constructor
   ·rfl
   ·rfl
  refine hK.out _ _ ⟨(World.cell?_alloc_lt _ _ _ (World.block_lt_of_cell? _ _ (hHeld.1))).trans (hHeld.1), (World.cell?_alloc_lt _ _ _ (World.block_lt_of_cell? _ _ (hHeld.2.1))).trans (hHeld.2.1), (World.cell?_alloc_lt _ _ _ (World.block_lt_of_cell? _ _ (hHeld.2.2.1))).trans (hHeld.2.2.1), (World.cell?_alloc_lt _ _ _ (World.block_lt_of_cell? _ _ (hHeld.2.2.2.1))).trans (hHeld.2.2.2.1), (World.cell?_alloc_lt _ _ _ (World.block_lt_of_cell? _ _ (hHeld.2.2.2.2.1))).trans (hHeld.2.2.2.2.1), (World.cell?_alloc_lt _ _ _ (World.block_lt_of_cell? _ _ (hHeld.2.2.2.2.2))).trans (hHeld.2.2.2.2.2)⟩ (fun hHeld => ?_)
  clear hK K
  refine norm_ (a' := ?_) ?_ ?_
  rotate_left
  ·show Act.put _ (some 32) _ = _
   simp only [Act.put, sI_, s0_, sS_, i64_w, i32_w]
   rfl
  refine one_ (i := 7) (N := some 33) (w_ 11 255) rfl rfl (by kernel_rfl) (by decide) (fun K hK => ?_)
  refine Kd.R_append_step (W := W5.drew) k51 (w0 := w) n0 rfl (.tmp 30) (.tmp 32) 22 51 (.agg #[.int .i64 0, .int .i64 0, .int .i64 0, .int .i64 0, .int .i64 0]) 40 rfl Try.underlying22 info51 rfl (by decide) (by omega) (.slice Av nv cv) b.out p [.int .i64 p.f0, .int .i64 p.f1.f0, .int .i64 p.f1.f1, .int .i64 p.f2.f0, .int .i64 p.f2.f1] (fun _ => True) (fun _ => False) rfl rfl (k51_mkM _ _ _ p) (fun _ hk => hk.elim) (fun _ _ => trivial) HR5.out ((below_drew HB5.out).mono HN0.out) (Nat.le_trans HN0.out (below_size (below_drew HB5.out))) (by omega) ?_
  intro v10 w10 ho10 hb10 hg10 hat10
  obtain ⟨n10, hn10⟩ : ∃ n10, n10 = (b.out ++ [p]).length := ⟨_, rfl⟩
  obtain ⟨A10, c10, e10⟩ := Kd.R_slice ho10
  rw [← hn10] at e10
  subst e10
  have HO10 := mk_ ho10
  have HG10 := mk_ hg10
  have HB10 := mk_ hb10
  have hf10 := blk_frozen (blk_grown (blk_drew BG5.out) HG10.out NGV.out) 4
  clear ho10 hb10 hg10 hat10 hn10
  refine hK.out _ _ ⟨(blk_cell (blk_grown (blk_drew BG5.out) HG10.out NGV.out) 4).trans rfl, (blk_cell (blk_grown (blk_drew BP5.out) HG10.out NPV.out) 0).trans rfl, (blk_cell (blk_grown (blk_drew BP5.out) HG10.out NPV.out) 1).trans rfl, (blk_cell (blk_grown (blk_drew BP5.out) HG10.out NPV.out) 2).trans rfl, (blk_cell (blk_grown (blk_drew BP5.out) HG10.out NPV.out) 3).trans rfl, (blk_cell (blk_grown (blk_drew BP5.out) HG10.out NPV.out) 4).trans rfl⟩ (fun hHeld => ?_)
  clear hK K
  refine norm_ (a' := ?_) ?_ ?_
  rotate_left
  ·show Act.put _ (some 33) _ = _
   simp only [Act.put, sI_, s0_, sS_, i64_w, i32_w]
   rfl
  refine pv_ 8 34 (w_ 11 511) rfl ?_
  refine pv_ 9 35 (w_ 11 1023) rfl ?_
  refine last_ (i := 10) (N := none) (w_ 11 2047) rfl rfl (by kernel_rfl) (by decide) (fun K hK => ?_)
  refine skip_ (w1 := ?_) (by rfl) rfl ?_ ?_
  rotate_left
  ·go_simp
   rfl
  refine hK.out _ _ ?_
  clear hK K
  refine done_ (by kernel_rfl) ?_
  obtain ⟨W9, hW9⟩ : ∃ W9, W9 = w10.setCell ⟨g, 4, none⟩ (.slice A10 n10 c10) := ⟨_, rfl⟩
  rw [← hW9]
  have BG10 := mk_ (blk_grown (blk_drew BG5.out) HG10.out NGV.out)
  have NPG := mk_ (blk_ne BP5.out BG5.out (by decide))
  have NLG := mk_ (blk_ne BL5.out BG5.out (by decide))
  have BG9 := mk_ (show W9.heap[g]? = some (.cells #[.int .i64 b.last.n, .int .i64 b.last.s, .int .i64 b.last.d, .int .i64 b.last.fr, .slice A10 n10 c10, .bool b.bad] 59 (0, 0)) by rw [hW9]; exact blk_put BG10.out 4 _ rfl)
  have BP9 := mk_ (show W9.heap[g2]? = some (.cells #[.int .i64 p.f0, .int .i64 p.f1.f0, .int .i64 p.f1.f1, .int .i64 p.f2.f0, .int .i64 p.f2.f1] 51 (0, 0)) by rw [hW9]; exact blk_far (blk_grown (blk_drew BP5.out) HG10.out NPV.out) NPG.out _)
  have BL9 := mk_ (show W9.heap[g1]? = some (.cells #[.int .i64 l.n, .int .i64 l.s, .int .i64 l.d, .int .i64 l.fr] 54 (0, 0)) by rw [hW9]; exact blk_far (blk_grown (blk_drew BL5.out) HG10.out NLV.out) NLG.out _)
  have HR9 := mk_ (show Kd.R k51 51 W9 n0 (fun k => True ∧ k ≠ g) (.slice A10 n10 c10) (b.out ++ [p]) by rw [hW9]; exact Kd.R_far (Kd.R_types HO10.out BG10.out (by decide)) (fun _ hk => hk.2) _)
  have HK9 := mk_ (show KeepBut w W9 g (Value.slice Av nv cv).ownBlock by rw [hW9]; exact KeepBut.set_ ((keep_drew (KeepBut.of_below HB5.out g _)).trans (KeepBut.of_grown HG10.out g) (.inl rfl)) 4 _)
  have HN9 := mk_ (show Below n0 w W9 by rw [hW9]; exact Below.setCell HB10.out (p := ⟨g, 4, none⟩) hn _)
  clear hW9
  have h90 : W9.cell? ⟨g, 5, none⟩ = some (.bool b.bad) := (blk_cell BG9.out 5).trans rfl
  have h91 : W9.cell? ⟨g2, 0, none⟩ = some (.int .i64 p.f0) := (blk_cell BP9.out 0).trans rfl
  have h92 : W9.cell? ⟨g2, 1, none⟩ = some (.int .i64 p.f1.f0) := (blk_cell BP9.out 1).trans rfl
  have h93 : W9.cell? ⟨g2, 2, none⟩ = some (.int .i64 p.f1.f1) := (blk_cell BP9.out 2).trans rfl
  have h94 : W9.cell? ⟨g2, 3, none⟩ = some (.int .i64 p.f2.f0) := (blk_cell BP9.out 3).trans rfl
  have h95 : W9.cell? ⟨g2, 4, none⟩ = some (.int .i64 p.f2.f1) := (blk_cell BP9.out 4).trans rfl
  have h96 := blk_frozen BG9.out 5
  have HN9' := mk_ (show n0 ≤ W9.heap.size from Nat.le_trans HN0.out HK9.out.1)
  clear HG10 HO10 BG10 HB10 BG5 BP5 BL5 HB5 hf10 hHeld HR5
  cases hbb : b.bad with
  | true =>
   rw [hbb] at h90
   go_upto_region 5 with (fail)
   obtain ⟨WE, hWE⟩ : ∃ WE, WE = W9.setCell ⟨g, 5, none⟩ (.bool true) := ⟨_, rfl⟩
   rw [← hWE]
   have BGE := mk_ (show WE.heap[g]? = some (.cells #[.int .i64 b.last.n, .int .i64 b.last.s, .int .i64 b.last.d, .int .i64 b.last.fr, .slice A10 n10 c10, .bool true] 59 (0, 0)) by rw [hWE]; exact blk_put BG9.out 5 _ rfl)
   have BLE := mk_ (show WE.heap[g1]? = some (.cells #[.int .i64 l.n, .int .i64 l.s, .int .i64 l.d, .int .i64 l.fr] 54 (0, 0)) by rw [hWE]; exact blk_far (p := ⟨g, 5, none⟩) BL9.out NLG.out _)
   have HRE := mk_ (show Kd.R k51 51 WE n0 (fun k => True ∧ k ≠ g) (.slice A10 n10 c10) (b.out ++ [p]) by rw [hWE]; exact Kd.R_far HR9.out (fun _ hk => hk.2) _)
   have HKE := mk_ (show KeepBut w WE g (Value.slice Av nv cv).ownBlock by rw [hWE]; exact KeepBut.set_ HK9.out 5 _)
   have HNE := mk_ (show Below n0 w WE by rw [hWE]; exact Below.setCell HN9.out (p := ⟨g, 5, none⟩) hn _)
   clear hWE h90 h91 h92 h93 h94 h95 h96
   have e50 : WE.cell? ⟨g1, 0, none⟩ = some (.int .i64 l.n) := (blk_cell BLE.out 0).trans rfl
   have e51 : WE.cell? ⟨g1, 1, none⟩ = some (.int .i64 l.s) := (blk_cell BLE.out 1).trans rfl
   have e52 : WE.cell? ⟨g1, 2, none⟩ = some (.int .i64 l.d) := (blk_cell BLE.out 2).trans rfl
   have e53 : WE.cell? ⟨g1, 3, none⟩ = some (.int .i64 l.fr) := (blk_cell BLE.out 3).trans rfl
   have f50 := blk_frozen BGE.out 0
   have f51 := blk_frozen BGE.out 1
   have f52 := blk_frozen BGE.out 2
   have f53 := blk_frozen BGE.out 3
   have e60 : WE.cell? ⟨g, 0, none⟩ = some (.int .i64 b.last.n) := (blk_cell BGE.out 0).trans rfl
   have e61 : WE.cell? ⟨g, 1, none⟩ = some (.int .i64 b.last.s) := (blk_cell BGE.out 1).trans rfl
   have e62 : WE.cell? ⟨g, 2, none⟩ = some (.int .i64 b.last.d) := (blk_cell BGE.out 2).trans rfl
   have e63 : WE.cell? ⟨g, 3, none⟩ = some (.int .i64 b.last.fr) := (blk_cell BGE.out 3).trans rfl
   go_wp2_with (fail)
   go_end0
   refine ⟨⟨_, rfl⟩, put_end HG.out HR.out (Below.setCell (Below.setCell (Below.setCell (Below.setCell HNE.out (p := ⟨g, 0, none⟩) hn _) (p := ⟨g, 1, none⟩) hn _) (p := ⟨g, 2, none⟩) hn _) (p := ⟨g, 3, none⟩) hn _) (KeepBut.set_ (KeepBut.set_ (KeepBut.set_ (KeepBut.set_ HKE.out 0 _) 1 _) 2 _) 3 _) ⟨(blk_put (blk_put (blk_put (blk_put BGE.out 0 _ rfl) 1 _ rfl) 2 _ rfl) 3 _ rfl).trans ?_, Kd.R_mono (Kd.R_far (p := ⟨g, 3, none⟩) (Kd.R_far (p := ⟨g, 2, none⟩) (Kd.R_far (p := ⟨g, 1, none⟩) (Kd.R_far (p := ⟨g, 0, none⟩) HRE.out (fun _ hk => hk.2) _) (fun _ hk => hk.2) _) (fun _ hk => hk.2) _) (fun _ hk => hk.2) _) (fun _ _ => trivial)⟩⟩
   first | rfl | (simp [hbb]; done) | (simp; done)
  | false =>
   rw [hbb] at h90
   go_upto_region 5 with (first | (go_at_call 38; (with_reducible refine (numB_calls p ok _ HOK.out).mono ?_); rintro e W10 ⟨rfl, hb_⟩; have BG9 := mk_ (blk_below BG9.out hb_); have BL9 := mk_ (blk_below BL9.out hb_); have HR9 := mk_ (Kd.R_below HR9.out hb_); have HK9 := mk_ (HK9.out.trans (KeepBut.of_below hb_ g _) (.inl rfl)); have HN9 := mk_ (below_then HN9.out HN9'.out hb_); have h97 := blk_frozen BG9.out 5; have h98 : W10.cell? ⟨g, 5, none⟩ = some (.bool b.bad) := (blk_cell BG9.out 5).trans rfl; clear hb_))
   obtain ⟨WE, hWE⟩ : ∃ WE, WE = W10.setCell ⟨g, 5, none⟩ (.bool (!ok)) := ⟨_, rfl⟩
   rw [← hWE]
   have BGE := mk_ (show WE.heap[g]? = some (.cells #[.int .i64 b.last.n, .int .i64 b.last.s, .int .i64 b.last.d, .int .i64 b.last.fr, .slice A10 n10 c10, .bool (!ok)] 59 (0, 0)) by rw [hWE]; exact blk_put BG9.out 5 _ rfl)
   have BLE := mk_ (show WE.heap[g1]? = some (.cells #[.int .i64 l.n, .int .i64 l.s, .int .i64 l.d, .int .i64 l.fr] 54 (0, 0)) by rw [hWE]; exact blk_far (p := ⟨g, 5, none⟩) BL9.out NLG.out _)
   have HRE := mk_ (show Kd.R k51 51 WE n0 (fun k => True ∧ k ≠ g) (.slice A10 n10 c10) (b.out ++ [p]) by rw [hWE]; exact Kd.R_far HR9.out (fun _ hk => hk.2) _)
   have HKE := mk_ (show KeepBut w WE g (Value.slice Av nv cv).ownBlock by rw [hWE]; exact KeepBut.set_ HK9.out 5 _)
   have HNE := mk_ (show Below n0 w WE by rw [hWE]; exact Below.setCell HN9.out (p := ⟨g, 5, none⟩) hn _)
   clear hWE h90 h91 h92 h93 h94 h95 h96 h97 h98
   have e50 : WE.cell? ⟨g1, 0, none⟩ = some (.int .i64 l.n) := (blk_cell BLE.out 0).trans rfl
   have e51 : WE.cell? ⟨g1, 1, none⟩ = some (.int .i64 l.s) := (blk_cell BLE.out 1).trans rfl
   have e52 : WE.cell? ⟨g1, 2, none⟩ = some (.int .i64 l.d) := (blk_cell BLE.out 2).trans rfl
   have e53 : WE.cell? ⟨g1, 3, none⟩ = some (.int .i64 l.fr) := (blk_cell BLE.out 3).trans rfl
   have f50 := blk_frozen BGE.out 0
   have f51 := blk_frozen BGE.out 1
   have f52 := blk_frozen BGE.out 2
   have f53 := blk_frozen BGE.out 3
   have e60 : WE.cell? ⟨g, 0, none⟩ = some (.int .i64 b.last.n) := (blk_cell BGE.out 0).trans rfl
   have e61 : WE.cell? ⟨g, 1, none⟩ = some (.int .i64 b.last.s) := (blk_cell BGE.out 1).trans rfl
   have e62 : WE.cell? ⟨g, 2, none⟩ = some (.int .i64 b.last.d) := (blk_cell BGE.out 2).trans rfl
   have e63 : WE.cell? ⟨g, 3, none⟩ = some (.int .i64 b.last.fr) := (blk_cell BGE.out 3).trans rfl
   go_wp2_with (fail)
   go_end0
   refine ⟨⟨_, rfl⟩, put_end HG.out HR.out (Below.setCell (Below.setCell (Below.setCell (Below.setCell HNE.out (p := ⟨g, 0, none⟩) hn _) (p := ⟨g, 1, none⟩) hn _) (p := ⟨g, 2, none⟩) hn _) (p := ⟨g, 3, none⟩) hn _) (KeepBut.set_ (KeepBut.set_ (KeepBut.set_ (KeepBut.set_ HKE.out 0 _) 1 _) 2 _) 3 _) ⟨(blk_put (blk_put (blk_put (blk_put BGE.out 0 _ rfl) 1 _ rfl) 2 _ rfl) 3 _ rfl).trans ?_, Kd.R_mono (Kd.R_far (p := ⟨g, 3, none⟩) (Kd.R_far (p := ⟨g, 2, none⟩) (Kd.R_far (p := ⟨g, 1, none⟩) (Kd.R_far (p := ⟨g, 0, none⟩) HRE.out (fun _ hk => hk.2) _) (fun _ hk => hk.2) _) (fun _ hk => hk.2) _) (fun _ hk => hk.2) _) (fun _ _ => trivial)⟩⟩
   first | rfl | (simp [hbb]; done) | (simp; done)
 ·rw [if_neg hz] at h
  obtain ⟨q, hq, h⟩ := Option.bind_eq_some_iff.1 h
  have HQ := mk_ hq
  have z1 : ((nv : Int) == 0) = false := beq_eq_false_iff_ne.2 (by have := HNV.out; omega)
  have z2 : (nv == 0) = false := beq_eq_false_iff_ne.2 (by have := HNV.out; omega)
  clear hq
  refine start_ (n := 16) (S := fun w' => w'.cell? ⟨g, 4, none⟩ = some (.slice Av nv cv) ∧ w'.cell? ⟨g, 0, none⟩ = some (.int .i64 b.last.n) ∧ w'.cell? ⟨g, 1, none⟩ = some (.int .i64 b.last.s) ∧ w'.cell? ⟨g, 2, none⟩ = some (.int .i64 b.last.d) ∧ w'.cell? ⟨g, 3, none⟩ = some (.int .i64 b.last.fr) ∧ w'.cell? ⟨g2, 0, none⟩ = some (.int .i64 p.f0) ∧ w'.cell? ⟨g2, 1, none⟩ = some (.int .i64 p.f1.f0) ∧ w'.cell? ⟨g2, 2, none⟩ = some (.int .i64 p.f1.f1) ∧ w'.cell? ⟨g2, 3, none⟩ = some (.int .i64 p.f2.f0) ∧ w'.cell? ⟨g2, 4, none⟩ = some (.int .i64 p.f2.f1)) (ds := []) #[n_, n_, n_, n_, n_, n_, n_, n_, n_, n_, n_, n_, n_, n_, n_, n_] (by kernel_rfl) rfl rfl ⟨(blk_cell (show w4.drew.heap[g]? = _ from BG4.out) 4).trans rfl, (blk_cell (show w4.drew.heap[g]? = _ from BG4.out) 0).trans rfl, (blk_cell (show w4.drew.heap[g]? = _ from BG4.out) 1).trans rfl, (blk_cell (show w4.drew.heap[g]? = _ from BG4.out) 2).trans rfl, (blk_cell (show w4.drew.heap[g]? = _ from BG4.out) 3).trans rfl, (blk_cell (show w4.drew.heap[g2]? = _ from BP4.out) 0).trans rfl, (blk_cell (show w4.drew.heap[g2]? = _ from BP4.out) 1).trans rfl, (blk_cell (show w4.drew.heap[g2]? = _ from BP4.out) 2).trans rfl, (blk_cell (show w4.drew.heap[g2]? = _ from BP4.out) 3).trans rfl, (blk_cell (show w4.drew.heap[g2]? = _ from BP4.out) 4).trans rfl⟩ (fun hHeld => ?_)
  refine pv_ 0 10 (w_ 16 1) rfl ?_
  refine pv_ 1 11 (w_ 16 3) rfl ?_
  refine pv_ 2 12 (w_ 16 7) rfl ?_
  refine tb_ 3 13 (w_ 16 15) rfl hHeld (by rintro w' ⟨s0, s1, s2, s3, s4, s5, s6, s7, s8, s9⟩; go_simp; with_reducible rfl) ?_
  refine pv_ 4 14 (w_ 16 31) rfl ?_
  refine pv_ 5 15 (w_ 16 63) rfl ?_
  refine pv_ 6 16 (w_ 16 127) rfl ?_
  refine pv_ 8 18 (w_ 16 383) rfl ?_
  refine pv_ 9 19 (w_ 16 895) rfl ?_
  refine pv_ 10 20 (w_ 16 1919) rfl ?_
  refine pv_ 12 22 (w_ 16 6015) rfl ?_
  refine tb_ 7 17 (w_ 16 6143) rfl hHeld (by rintro w' ⟨s0, s1, s2, s3, s4, s5, s6, s7, s8, s9⟩; go_simp; with_reducible rfl) ?_
  refine tb_ 11 21 (w_ 16 8191) rfl hHeld (by rintro w' ⟨s0, s1, s2, s3, s4, s5, s6, s7, s8, s9⟩; go_simp; with_reducible rfl) ?_
  refine one_ (i := 13) (N := some 23) (w_ 16 16383) rfl rfl (by kernel_rfl) (by decide) (fun K hK => ?_)
  refine goes_ Try.func47 (by kernel_rfl) rfl #[.agg #[.int .i64 b.last.n, .int .i64 b.last.s, .int .i64 b.last.d, .int .i64 b.last.fr], .int .i64 x] (by rfl) rfl rfl (by simp only [List.map_toArray, List.map_cons, List.map_nil]; rfl) ?_
  with_reducible refine (pieceO_calls k b.last x q _ HQ.out).mono ?_
  rintro e W5 ⟨rfl, hb_⟩
  refine ⟨_, rfl, ?_⟩
  have BG5 := mk_ (blk_below (show w4.drew.heap[g]? = _ from BG4.out) hb_)
  have BP5 := mk_ (blk_below (show w4.drew.heap[g2]? = _ from BP4.out) hb_)
  have BL5 := mk_ (blk_below (show w4.drew.heap[g1]? = _ from BL4.out) hb_)
  have HB5 := mk_ (below_step (below_drew HB4.out) hb_)
  clear hb_
  refine hK.out _ _ ⟨(blk_cell (BG5.out) 4).trans rfl, (blk_cell (BG5.out) 0).trans rfl, (blk_cell (BG5.out) 1).trans rfl, (blk_cell (BG5.out) 2).trans rfl, (blk_cell (BG5.out) 3).trans rfl, (blk_cell (BP5.out) 0).trans rfl, (blk_cell (BP5.out) 1).trans rfl, (blk_cell (BP5.out) 2).trans rfl, (blk_cell (BP5.out) 3).trans rfl, (blk_cell (BP5.out) 4).trans rfl⟩ (fun hHeld => ?_)
  clear hK K
  refine norm_ (a' := ?_) ?_ ?_
  rotate_left
  ·show Act.put _ (some 23) _ = _
   simp only [Act.put, sI_, s0_, sS_, i64_w, i32_w]
   rfl
  refine pv_ 14 24 (w_ 16 32767) rfl ?_
  refine pv_ 15 25 (w_ 16 65535) rfl ?_
  refine done_ (by kernel_rfl) ?_
  cases he : eqP p q with
  | true =>
   rw [he, if_pos rfl] at h
   obtain rfl := Option.some.inj h
   have hne_ := (neP p q).trans (show (!eqP p q) = false by rw [he]; rfl)
   rw [hne_]
   clear hne_ he h
   have HR5 := mk_ (Kd.R_types (Kd.R_below HR.out HB5.out) BG5.out (by decide))
   go_upto_region 5 with (fail)
   obtain ⟨WE, hWE⟩ : ∃ WE, WE = W5 := ⟨_, rfl⟩
   rw [← hWE] at BG5 BL5 HR5 HB5 ⊢
   have BGE := BG5
   have BLE := BL5
   have HRE := HR5
   have HKE := mk_ (KeepBut.of_below HB5.out g (Value.slice Av nv cv).ownBlock)
   have HNE := mk_ (HB5.out.mono HN0.out)
   clear hWE BG5 BL5 HR5 HB5 BP5
   have e50 : WE.cell? ⟨g1, 0, none⟩ = some (.int .i64 l.n) := (blk_cell BLE.out 0).trans rfl
   have e51 : WE.cell? ⟨g1, 1, none⟩ = some (.int .i64 l.s) := (blk_cell BLE.out 1).trans rfl
   have e52 : WE.cell? ⟨g1, 2, none⟩ = some (.int .i64 l.d) := (blk_cell BLE.out 2).trans rfl
   have e53 : WE.cell? ⟨g1, 3, none⟩ = some (.int .i64 l.fr) := (blk_cell BLE.out 3).trans rfl
   have f50 := blk_frozen BGE.out 0
   have f51 := blk_frozen BGE.out 1
   have f52 := blk_frozen BGE.out 2
   have f53 := blk_frozen BGE.out 3
   have e60 : WE.cell? ⟨g, 0, none⟩ = some (.int .i64 b.last.n) := (blk_cell BGE.out 0).trans rfl
   have e61 : WE.cell? ⟨g, 1, none⟩ = some (.int .i64 b.last.s) := (blk_cell BGE.out 1).trans rfl
   have e62 : WE.cell? ⟨g, 2, none⟩ = some (.int .i64 b.last.d) := (blk_cell BGE.out 2).trans rfl
   have e63 : WE.cell? ⟨g, 3, none⟩ = some (.int .i64 b.last.fr) := (blk_cell BGE.out 3).trans rfl
   go_wp2_with (fail)
   go_end0
   refine ⟨⟨_, rfl⟩, put_end HG.out HR.out (Below.setCell (Below.setCell (Below.setCell (Below.setCell HNE.out (p := ⟨g, 0, none⟩) hn _) (p := ⟨g, 1, none⟩) hn _) (p := ⟨g, 2, none⟩) hn _) (p := ⟨g, 3, none⟩) hn _) (KeepBut.set_ (KeepBut.set_ (KeepBut.set_ (KeepBut.set_ HKE.out 0 _) 1 _) 2 _) 3 _) ⟨(blk_put (blk_put (blk_put (blk_put BGE.out 0 _ rfl) 1 _ rfl) 2 _ rfl) 3 _ rfl).trans ?_, Kd.R_mono (Kd.R_far (p := ⟨g, 3, none⟩) (Kd.R_far (p := ⟨g, 2, none⟩) (Kd.R_far (p := ⟨g, 1, none⟩) (Kd.R_far (p := ⟨g, 0, none⟩) HRE.out (fun _ hk => hk.2) _) (fun _ hk => hk.2) _) (fun _ hk => hk.2) _) (fun _ hk => hk.2) _) (fun _ _ => trivial)⟩⟩
   first | rfl | (simp [hbb]; done) | (simp; done)
  | false =>
   rw [he, if_neg (by decide)] at h
   obtain ⟨ok, hok, h⟩ := Option.bind_eq_some_iff.1 h
   obtain rfl := Option.some.inj h
   have HOK := mk_ hok
   clear h hok
   have hne_ := (neP p q).trans (show (!eqP p q) = true by rw [he]; rfl)
   rw [hne_]
   clear hne_ he
   have NGV := mk_ (Kd.R_ne HR.out HG.out (by decide))
   have NPV := mk_ (show some g2 ≠ (Value.slice Av nv cv).ownBlock from fun e => by have := Kd.R_lt HR.out g2 e.symm; have := GP.out; omega)
   have NLV := mk_ (show some g1 ≠ (Value.slice Av nv cv).ownBlock from fun e => by have := Kd.R_lt HR.out g1 e.symm; have := GL.out; omega)
   have HR5 := mk_ (Kd.R_drew (Kd.R_below HR.out HB5.out))
   go_wp2_with (fail)
   refine start_ (n := 11) (S := fun w' => w'.cell? ⟨g, 4, none⟩ = some (.slice Av nv cv) ∧ w'.cell? ⟨g2, 0, none⟩ = some (.int .i64 p.f0) ∧ w'.cell? ⟨g2, 1, none⟩ = some (.int .i64 p.f1.f0) ∧ w'.cell? ⟨g2, 2, none⟩ = some (.int .i64 p.f1.f1) ∧ w'.cell? ⟨g2, 3, none⟩ = some (.int .i64 p.f2.f0) ∧ w'.cell? ⟨g2, 4, none⟩ = some (.int .i64 p.f2.f1)) (ds := [10]) #[n_, n_, n_, n_, n_, n_, n_, n_, n_, n_, n_] (by kernel_rfl) rfl rfl ⟨(blk_cell (show W5.drew.heap[g]? = _ from BG5.out) 4).trans rfl, (blk_cell (show W5.drew.heap[g2]? = _ from BP5.out) 0).trans rfl, (blk_cell (show W5.drew.heap[g2]? = _ from BP5.out) 1).trans rfl, (blk_cell (show W5.drew.heap[g2]? = _ from BP5.out) 2).trans rfl, (blk_cell (show W5.drew.heap[g2]? = _ from BP5.out) 3).trans rfl, (blk_cell (show W5.drew.heap[g2]? = _ from BP5.out) 4).trans rfl⟩ (fun hHeld => ?_)
   refine pv_ 0 26 (w_ 11 1) rfl ?_
   refine pv_ 1 27 (w_ 11 3) rfl ?_
   refine pv_ 2 28 (w_ 11 7) rfl ?_
   refine pv_ 3 29 (w_ 11 15) rfl ?_
   refine tb_ 4 30 (w_ 11 31) rfl hHeld (by rintro w' ⟨s0, s1, s2, s3, s4, s5⟩; go_simp; with_reducible rfl) ?_
   refine tb_ 5 31 (w_ 11 63) rfl hHeld (by rintro w' ⟨s0, s1, s2, s3, s4, s5⟩; go_simp; with_reducible rfl) ?_
   refine one_ (i := 6) (N := some 32) (w_ 11 127) rfl rfl (by kernel_rfl) (by decide) (fun K hK => ?_)
   refine value_ (w1 := ?_) (v := ?_) (by rfl) rfl ?_ ?_
   rotate_left 2
   ·go_simp
    constructor
    ·rfl
    ·rfl
   refine hK.out _ _ ⟨(World.cell?_alloc_lt _ _ _ (World.block_lt_of_cell? _ _ (hHeld.1))).trans (hHeld.1), (World.cell?_alloc_lt _ _ _ (World.block_lt_of_cell? _ _ (hHeld.2.1))).trans (hHeld.2.1), (World.cell?_alloc_lt _ _ _ (World.block_lt_of_cell? _ _ (hHeld.2.2.1))).trans (hHeld.2.2.1), (World.cell?_alloc_lt _ _ _ (World.block_lt_of_cell? _ _ (hHeld.2.2.2.1))).trans (hHeld.2.2.2.1), (World.cell?_alloc_lt _ _ _ (World.block_lt_of_cell? _ _ (hHeld.2.2.2.2.1))).trans (hHeld.2.2.2.2.1), (World.cell?_alloc_lt _ _ _ (World.block_lt_of_cell? _ _ (hHeld.2.2.2.2.2))).trans (hHeld.2.2.2.2.2)⟩ (fun hHeld => ?_)
   clear hK K
   refine norm_ (a' := ?_) ?_ ?_
   rotate_left
   ·show Act.put _ (some 32) _ = _
    simp only [Act.put, sI_, s0_, sS_, i64_w, i32_w]
    rfl
   refine one_ (i := 7) (N := some 33) (w_ 11 255) rfl rfl (by kernel_rfl) (by decide) (fun K hK => ?_)
   refine Kd.R_append_step (W := W5.drew) k51 (w0 := w) n0 rfl (.tmp 30) (.tmp 32) 22 51 (.agg #[.int .i64 0, .int .i64 0, .int .i64 0, .int .i64 0, .int .i64 0]) 40 rfl Try.underlying22 info51 rfl (by decide) (by omega) (.slice Av nv cv) b.out p [.int .i64 p.f0, .int .i64 p.f1.f0, .int .i64 p.f1.f1, .int .i64 p.f2.f0, .int .i64 p.f2.f1] (fun _ => True) (fun _ => False) rfl rfl (k51_mkM _ _ _ p) (fun _ hk => hk.elim) (fun _ _ => trivial) HR5.out ((below_drew HB5.out).mono HN0.out) (Nat.le_trans HN0.out (below_size (below_drew HB5.out))) (by omega) ?_
   intro v10 w10 ho10 hb10 hg10 hat10
   obtain ⟨n10, hn10⟩ : ∃ n10, n10 = (b.out ++ [p]).length := ⟨_, rfl⟩
   obtain ⟨A10, c10, e10⟩ := Kd.R_slice ho10
   rw [← hn10] at e10
   subst e10
   have HO10 := mk_ ho10
   have HG10 := mk_ hg10
   have HB10 := mk_ hb10
   have hf10 := blk_frozen (blk_grown (blk_drew BG5.out) HG10.out NGV.out) 4
   clear ho10 hb10 hg10 hat10 hn10
   refine hK.out _ _ ⟨(blk_cell (blk_grown (blk_drew BG5.out) HG10.out NGV.out) 4).trans rfl, (blk_cell (blk_grown (blk_drew BP5.out) HG10.out NPV.out) 0).trans rfl, (blk_cell (blk_grown (blk_drew BP5.out) HG10.out NPV.out) 1).trans rfl, (blk_cell (blk_grown (blk_drew BP5.out) HG10.out NPV.out) 2).trans rfl, (blk_cell (blk_grown (blk_drew BP5.out) HG10.out NPV.out) 3).trans rfl, (blk_cell (blk_grown (blk_drew BP5.out) HG10.out NPV.out) 4).trans rfl⟩ (fun hHeld => ?_)
   clear hK K
   refine norm_ (a' := ?_) ?_ ?_
   rotate_left
   ·show Act.put _ (some 33) _ = _
    simp only [Act.put, sI_, s0_, sS_, i64_w, i32_w]
    rfl
   refine pv_ 8 34 (w_ 11 511) rfl ?_
   refine pv_ 9 35 (w_ 11 1023) rfl ?_
   refine last_ (i := 10) (N := none) (w_ 11 2047) rfl rfl (by kernel_rfl) (by decide) (fun K hK => ?_)
   refine skip_ (w1 := ?_) (by rfl) rfl ?_ ?_
   rotate_left
   ·go_simp
    rfl
   refine hK.out _ _ ?_
   clear hK K
   refine done_ (by kernel_rfl) ?_
   obtain ⟨W9, hW9⟩ : ∃ W9, W9 = w10.setCell ⟨g, 4, none⟩ (.slice A10 n10 c10) := ⟨_, rfl⟩
   rw [← hW9]
   have BG10 := mk_ (blk_grown (blk_drew BG5.out) HG10.out NGV.out)
   have NPG := mk_ (blk_ne BP5.out BG5.out (by decide))
   have NLG := mk_ (blk_ne BL5.out BG5.out (by decide))
   have BG9 := mk_ (show W9.heap[g]? = some (.cells #[.int .i64 b.last.n, .int .i64 b.last.s, .int .i64 b.last.d, .int .i64 b.last.fr, .slice A10 n10 c10, .bool b.bad] 59 (0, 0)) by rw [hW9]; exact blk_put BG10.out 4 _ rfl)
   have BP9 := mk_ (show W9.heap[g2]? = some (.cells #[.int .i64 p.f0, .int .i64 p.f1.f0, .int .i64 p.f1.f1, .int .i64 p.f2.f0, .int .i64 p.f2.f1] 51 (0, 0)) by rw [hW9]; exact blk_far (blk_grown (blk_drew BP5.out) HG10.out NPV.out) NPG.out _)
   have BL9 := mk_ (show W9.heap[g1]? = some (.cells #[.int .i64 l.n, .int .i64 l.s, .int .i64 l.d, .int .i64 l.fr] 54 (0, 0)) by rw [hW9]; exact blk_far (blk_grown (blk_drew BL5.out) HG10.out NLV.out) NLG.out _)
   have HR9 := mk_ (show Kd.R k51 51 W9 n0 (fun k => True ∧ k ≠ g) (.slice A10 n10 c10) (b.out ++ [p]) by rw [hW9]; exact Kd.R_far (Kd.R_types HO10.out BG10.out (by decide)) (fun _ hk => hk.2) _)
   have HK9 := mk_ (show KeepBut w W9 g (Value.slice Av nv cv).ownBlock by rw [hW9]; exact KeepBut.set_ ((keep_drew (KeepBut.of_below HB5.out g _)).trans (KeepBut.of_grown HG10.out g) (.inl rfl)) 4 _)
   have HN9 := mk_ (show Below n0 w W9 by rw [hW9]; exact Below.setCell HB10.out (p := ⟨g, 4, none⟩) hn _)
   clear hW9
   have h90 : W9.cell? ⟨g, 5, none⟩ = some (.bool b.bad) := (blk_cell BG9.out 5).trans rfl
   have h91 : W9.cell? ⟨g2, 0, none⟩ = some (.int .i64 p.f0) := (blk_cell BP9.out 0).trans rfl
   have h92 : W9.cell? ⟨g2, 1, none⟩ = some (.int .i64 p.f1.f0) := (blk_cell BP9.out 1).trans rfl
   have h93 : W9.cell? ⟨g2, 2, none⟩ = some (.int .i64 p.f1.f1) := (blk_cell BP9.out 2).trans rfl
   have h94 : W9.cell? ⟨g2, 3, none⟩ = some (.int .i64 p.f2.f0) := (blk_cell BP9.out 3).trans rfl
   have h95 : W9.cell? ⟨g2, 4, none⟩ = some (.int .i64 p.f2.f1) := (blk_cell BP9.out 4).trans rfl
   have h96 := blk_frozen BG9.out 5
   have HN9' := mk_ (show n0 ≤ W9.heap.size from Nat.le_trans HN0.out HK9.out.1)
   clear HG10 HO10 BG10 HB10 BG5 BP5 BL5 HB5 hf10 hHeld HR5
   cases hbb : b.bad with
   | true =>
    rw [hbb] at h90
    go_upto_region 5 with (fail)
    obtain ⟨WE, hWE⟩ : ∃ WE, WE = W9.setCell ⟨g, 5, none⟩ (.bool true) := ⟨_, rfl⟩
    rw [← hWE]
    have BGE := mk_ (show WE.heap[g]? = some (.cells #[.int .i64 b.last.n, .int .i64 b.last.s, .int .i64 b.last.d, .int .i64 b.last.fr, .slice A10 n10 c10, .bool true] 59 (0, 0)) by rw [hWE]; exact blk_put BG9.out 5 _ rfl)
    have BLE := mk_ (show WE.heap[g1]? = some (.cells #[.int .i64 l.n, .int .i64 l.s, .int .i64 l.d, .int .i64 l.fr] 54 (0, 0)) by rw [hWE]; exact blk_far (p := ⟨g, 5, none⟩) BL9.out NLG.out _)
    have HRE := mk_ (show Kd.R k51 51 WE n0 (fun k => True ∧ k ≠ g) (.slice A10 n10 c10) (b.out ++ [p]) by rw [hWE]; exact Kd.R_far HR9.out (fun _ hk => hk.2) _)
    have HKE := mk_ (show KeepBut w WE g (Value.slice Av nv cv).ownBlock by rw [hWE]; exact KeepBut.set_ HK9.out 5 _)
    have HNE := mk_ (show Below n0 w WE by rw [hWE]; exact Below.setCell HN9.out (p := ⟨g, 5, none⟩) hn _)
    clear hWE h90 h91 h92 h93 h94 h95 h96
    have e50 : WE.cell? ⟨g1, 0, none⟩ = some (.int .i64 l.n) := (blk_cell BLE.out 0).trans rfl
    have e51 : WE.cell? ⟨g1, 1, none⟩ = some (.int .i64 l.s) := (blk_cell BLE.out 1).trans rfl
    have e52 : WE.cell? ⟨g1, 2, none⟩ = some (.int .i64 l.d) := (blk_cell BLE.out 2).trans rfl
    have e53 : WE.cell? ⟨g1, 3, none⟩ = some (.int .i64 l.fr) := (blk_cell BLE.out 3).trans rfl
    have f50 := blk_frozen BGE.out 0
    have f51 := blk_frozen BGE.out 1
    have f52 := blk_frozen BGE.out 2
    have f53 := blk_frozen BGE.out 3
    have e60 : WE.cell? ⟨g, 0, none⟩ = some (.int .i64 b.last.n) := (blk_cell BGE.out 0).trans rfl
    have e61 : WE.cell? ⟨g, 1, none⟩ = some (.int .i64 b.last.s) := (blk_cell BGE.out 1).trans rfl
    have e62 : WE.cell? ⟨g, 2, none⟩ = some (.int .i64 b.last.d) := (blk_cell BGE.out 2).trans rfl
    have e63 : WE.cell? ⟨g, 3, none⟩ = some (.int .i64 b.last.fr) := (blk_cell BGE.out 3).trans rfl
    go_wp2_with (fail)
    go_end0
    refine ⟨⟨_, rfl⟩, put_end HG.out HR.out (Below.setCell (Below.setCell (Below.setCell (Below.setCell HNE.out (p := ⟨g, 0, none⟩) hn _) (p := ⟨g, 1, none⟩) hn _) (p := ⟨g, 2, none⟩) hn _) (p := ⟨g, 3, none⟩) hn _) (KeepBut.set_ (KeepBut.set_ (KeepBut.set_ (KeepBut.set_ HKE.out 0 _) 1 _) 2 _) 3 _) ⟨(blk_put (blk_put (blk_put (blk_put BGE.out 0 _ rfl) 1 _ rfl) 2 _ rfl) 3 _ rfl).trans ?_, Kd.R_mono (Kd.R_far (p := ⟨g, 3, none⟩) (Kd.R_far (p := ⟨g, 2, none⟩) (Kd.R_far (p := ⟨g, 1, none⟩) (Kd.R_far (p := ⟨g, 0, none⟩) HRE.out (fun _ hk => hk.2) _) (fun _ hk => hk.2) _) (fun _ hk => hk.2) _) (fun _ hk => hk.2) _) (fun _ _ => trivial)⟩⟩
    first | rfl | (simp [hbb]; done) | (simp; done)
   | false =>
    rw [hbb] at h90
    go_upto_region 5 with (first | (go_at_call 38; (with_reducible refine (numB_calls p ok _ HOK.out).mono ?_); rintro e W10 ⟨rfl, hb_⟩; have BG9 := mk_ (blk_below BG9.out hb_); have BL9 := mk_ (blk_below BL9.out hb_); have HR9 := mk_ (Kd.R_below HR9.out hb_); have HK9 := mk_ (HK9.out.trans (KeepBut.of_below hb_ g _) (.inl rfl)); have HN9 := mk_ (below_then HN9.out HN9'.out hb_); have h97 := blk_frozen BG9.out 5; have h98 : W10.cell? ⟨g, 5, none⟩ = some (.bool b.bad) := (blk_cell BG9.out 5).trans rfl; clear hb_))
    obtain ⟨WE, hWE⟩ : ∃ WE, WE = W10.setCell ⟨g, 5, none⟩ (.bool (!ok)) := ⟨_, rfl⟩
    rw [← hWE]
    have BGE := mk_ (show WE.heap[g]? = some (.cells #[.int .i64 b.last.n, .int .i64 b.last.s, .int .i64 b.last.d, .int .i64 b.last.fr, .slice A10 n10 c10, .bool (!ok)] 59 (0, 0)) by rw [hWE]; exact blk_put BG9.out 5 _ rfl)
    have BLE := mk_ (show WE.heap[g1]? = some (.cells #[.int .i64 l.n, .int .i64 l.s, .int .i64 l.d, .int .i64 l.fr] 54 (0, 0)) by rw [hWE]; exact blk_far (p := ⟨g, 5, none⟩) BL9.out NLG.out _)
    have HRE := mk_ (show Kd.R k51 51 WE n0 (fun k => True ∧ k ≠ g) (.slice A10 n10 c10) (b.out ++ [p]) by rw [hWE]; exact Kd.R_far HR9.out (fun _ hk => hk.2) _)
    have HKE := mk_ (show KeepBut w WE g (Value.slice Av nv cv).ownBlock by rw [hWE]; exact KeepBut.set_ HK9.out 5 _)
    have HNE := mk_ (show Below n0 w WE by rw [hWE]; exact Below.setCell HN9.out (p := ⟨g, 5, none⟩) hn _)
    clear hWE h90 h91 h92 h93 h94 h95 h96 h97 h98
    have e50 : WE.cell? ⟨g1, 0, none⟩ = some (.int .i64 l.n) := (blk_cell BLE.out 0).trans rfl
    have e51 : WE.cell? ⟨g1, 1, none⟩ = some (.int .i64 l.s) := (blk_cell BLE.out 1).trans rfl
    have e52 : WE.cell? ⟨g1, 2, none⟩ = some (.int .i64 l.d) := (blk_cell BLE.out 2).trans rfl
    have e53 : WE.cell? ⟨g1, 3, none⟩ = some (.int .i64 l.fr) := (blk_cell BLE.out 3).trans rfl
    have f50 := blk_frozen BGE.out 0
    have f51 := blk_frozen BGE.out 1
    have f52 := blk_frozen BGE.out 2
    have f53 := blk_frozen BGE.out 3
    have e60 : WE.cell? ⟨g, 0, none⟩ = some (.int .i64 b.last.n) := (blk_cell BGE.out 0).trans rfl
    have e61 : WE.cell? ⟨g, 1, none⟩ = some (.int .i64 b.last.s) := (blk_cell BGE.out 1).trans rfl
    have e62 : WE.cell? ⟨g, 2, none⟩ = some (.int .i64 b.last.d) := (blk_cell BGE.out 2).trans rfl
    have e63 : WE.cell? ⟨g, 3, none⟩ = some (.int .i64 b.last.fr) := (blk_cell BGE.out 3).trans rfl
    go_wp2_with (fail)
    go_end0
    refine ⟨⟨_, rfl⟩, put_end HG.out HR.out (Below.setCell (Below.setCell (Below.setCell (Below.setCell HNE.out (p := ⟨g, 0, none⟩) hn _) (p := ⟨g, 1, none⟩) hn _) (p := ⟨g, 2, none⟩) hn _) (p := ⟨g, 3, none⟩) hn _) (KeepBut.set_ (KeepBut.set_ (KeepBut.set_ (KeepBut.set_ HKE.out 0 _) 1 _) 2 _) 3 _) ⟨(blk_put (blk_put (blk_put (blk_put BGE.out 0 _ rfl) 1 _ rfl) 2 _ rfl) 3 _ rfl).trans ?_, Kd.R_mono (Kd.R_far (p := ⟨g, 3, none⟩) (Kd.R_far (p := ⟨g, 2, none⟩) (Kd.R_far (p := ⟨g, 1, none⟩) (Kd.R_far (p := ⟨g, 0, none⟩) HRE.out (fun _ hk => hk.2) _) (fun _ hk => hk.2) _) (fun _ hk => hk.2) _) (fun _ hk => hk.2) _) (fun _ _ => trivial)⟩⟩
    first | rfl | (simp [hbb]; done) | (simp; done)
end
section
open Go.Proofs.YtmhimmodigeeiaaH
def resO (b : BD) : List S51 × Int := if b.bad = true then ([], 3) else if 64 < b.out.length then ([], 2) else (b.out, 0)
set_option maxHeartbeats 4000000 in
theorem result_calls (b : BD) (w : World) (n0 g : Nat) (v : Value) (hb : BdAt w n0 g b v) :
  Calls Try.prog 41 #[.pointer (some ⟨g, 0, none⟩)] w fun e w' => ∃ u : Value, e = .returned (.tuple #[u, .int .i64 (resO b).2]) ∧ Kd.R k51 51 w' n0 (fun _ => True) u (resO b).1 ∧ Below w.heap.size w w' := by
 have hu59 := Try.underlying59
 obtain ⟨hg, hR⟩ := hb
 obtain ⟨Av, cv, ev⟩ := Kd.R_slice hR
 obtain ⟨nv, hnv⟩ : ∃ nv, nv = b.out.length := ⟨_, rfl⟩
 rw [← hnv] at ev
 subst ev
 have HNV := mk_ hnv
 have HR := mk_ hR
 have h1 : w.cell? ⟨g, 5, none⟩ = some (.bool b.bad) := (blk_cell hg 5).trans rfl
 have h2 : w.cell? ⟨g, 4, none⟩ = some (.slice Av nv cv) := (blk_cell hg 4).trans rfl
 clear hnv hg hR
 cases hbb : b.bad with
 | true =>
  rw [hbb] at h1
  have e1 : resO b = ([], 3) := by simp [resO, hbb]
  rw [e1]
  clear e1 hbb
  go_enter Try.func41, Try.ntmps41
  go_wp2_with (fail)
  go_ret2
  exact ⟨.slice none 0 0, rfl, Kd.R_nil _ _ _ _ _, Below.refl _ _⟩
 | false =>
  rw [hbb] at h1
  by_cases hl : 64 < nv
  ·have e1 : resO b = ([], 2) := by simp [resO, hbb, ← HNV.out, hl]
   rw [e1]
   have d1 : decide ((64 : Int) < (nv : Int)) = true := decide_eq_true (by omega)
   have d2 : decide (64 < nv) = true := decide_eq_true hl
   clear e1 hbb
   go_enter Try.func41, Try.ntmps41
   go_wp2_with (fail)
   go_ret2
   exact ⟨.slice none 0 0, rfl, Kd.R_nil _ _ _ _ _, Below.refl _ _⟩
  ·have e1 : resO b = (b.out, 0) := by simp [resO, hbb, ← HNV.out, hl]
   rw [e1]
   have d1 : decide ((64 : Int) < (nv : Int)) = false := decide_eq_false (by omega)
   have d2 : decide (64 < nv) = false := decide_eq_false hl
   clear e1 hbb
   go_enter Try.func41, Try.ntmps41
   go_wp2_with (fail)
   go_ret2
   exact ⟨.slice Av nv cv, rfl, HR.out, Below.refl _ _⟩
end
section
open Go.Proofs.YtmhimmodigeeiaaH
def atL (l : LN) (x : Int) : Int := wrap64 (l.n + wrap64 (l.s * wrap64 (x - l.fr)))
abbrev sumL (s : ST) : LN := ⟨wrap64 (wrap64 (atL s.f s.x * s.g.d) + wrap64 (atL s.g s.x * s.f.d)), wrap64 (wrap64 (s.f.s * s.g.d) + wrap64 (s.g.s * s.f.d)), wrap64 (s.f.d * s.g.d), s.x⟩
theorem atL_calls (l : LN) (x : Int) (w : World) : Calls Try.prog 36 #[.agg #[.int .i64 l.n, .int .i64 l.s, .int .i64 l.d, .int .i64 l.fr], .int .i64 x] w fun e w' => e = .returned (.int .i64 (atL l x)) ∧ Below w.heap.size w w' :=
 piecewise_line_at.calls l.n l.s l.d l.fr x _ w rfl
def addF (k : Nat) : BD → List ST → Option BD
 | b, [] => some b
 | b, s :: t => (putO k b (sumL s) s.x).bind fun b' => addF k b' t
def b00 : BD := ⟨⟨0, 0, 0, 0⟩, [], false⟩
theorem addF_append (k : Nat) : ∀ (xs : List ST) (b : BD) (s : ST), addF k b (xs ++ [s]) = (addF k b xs).bind fun b' => putO k b' (sumL s) s.x
 | [], b, s => by
  simp only [List.nil_append, addF, Option.bind_some]
  cases putO k b (sumL s) s.x <;> rfl
 | x :: t, b, s => by
  simp only [List.cons_append, addF]
  cases putO k b (sumL x) x.x with
  | none => rfl
  | some b' => exact addF_append k t b' s
theorem putO_len {k : Nat} {b b' : BD} {l : LN} {x : Int} (h : putO k b l x = some b') : b'.out.length ≤ b.out.length + 1 := by
 unfold putO at h
 obtain ⟨p, _, h⟩ := Option.bind_eq_some_iff.1 h
 split at h
 ·obtain ⟨ok, _, h⟩ := Option.bind_eq_some_iff.1 h
  obtain rfl := Option.some.inj h
  simp
 ·obtain ⟨q, _, h⟩ := Option.bind_eq_some_iff.1 h
  split at h
  ·obtain rfl := Option.some.inj h
   simp
  ·obtain ⟨ok, _, h⟩ := Option.bind_eq_some_iff.1 h
   obtain rfl := Option.some.inj h
   simp
theorem addF_len {k : Nat} : ∀ (xs : List ST) {b b' : BD}, addF k b xs = some b' → b'.out.length ≤ b.out.length + xs.length
 | [], b, b', h => by obtain rfl := Option.some.inj h; simp
 | s :: t, b, b', h => by
  unfold addF at h
  obtain ⟨b1, h1, h2⟩ := Option.bind_eq_some_iff.1 h
  have := putO_len h1
  have := addF_len t h2
  simp only [List.length_cons]
  omega
def calmQS (Q : Exit → Act → World → Prop) : Exit → Act → World → Prop
 | .panic _, _, _ => False
 | .outgrown, _, _ => False
 | e, a, w => Q e a w
theorem wp_calmS {P : Program} {c : Code} {Q : Exit → Act → World → Prop} {a : Act} {w : World} (h : c.wp P (calmQS Q) a w) : c.wp P Q a w := wp_mono h (by
 intro e a w h
 cases e with
 | panic _ => exact h.elim
 | outgrown => exact h.elim
 | _ => exact h)
theorem at_frameS {F : Fence} {n : Nat} {P : Program} {c : Code} {Q : Exit → Act → World → Prop} {T : Array Value} {d : List Deferred} {w : World} (h : ∀ T0, T0 = T → c.wpIn F n P Q { tmps := T0, defers := d } w) : c.wpIn F n P Q { tmps := T, defers := d } w := h T rfl
theorem postM_doneW {F : Fence} {n : Nat} {P : Program} {fn : Func} {R : Ending → World → Prop} {T : Array Value} {v : Value} {D : Nat} {w : World} (hD : w.heap[D]? = some (.deferred (some []))) (h : (results fn T).run P (w.putObj D (.deferred none)) = .ok v (w.putObj D (.deferred none))) (hR : R (.returned v) (w.putObj D (.deferred none))) :
  bodyPostM F n P fn R .ret { tmps := T, defers := [{ target := .collected D, args := #[] }] } w := ⟨by simp, .inl ⟨_, _, rfl, run_takeDeferred hD, v, h, hR⟩⟩
theorem bdAt_below {w w' : World} {n0 g : Nat} {b : BD} {v : Value} (h : BdAt w n0 g b v) (hb : Below w.heap.size w w') : BdAt w' n0 g b v := ⟨blk_below h.1 hb, Kd.R_below h.2 hb⟩
theorem bdAt_objs {w w1 : World} {n0 g : Nat} {b : BD} {v : Value} {row : Option Nat} (h : BdAt w n0 g b v) (hg : w.grownBy w1 row) (hr : ∀ r, row = some r → ∃ o : Obj, w.heap[r]? = some o ∧ o.isCells = false) : BdAt w1 n0 g b v := ⟨blk_objs h.1 hg hr, R_objs h.2 hg hr⟩
def cST (s : ST) : Array Value := #[.int .i64 s.x, .int .i64 s.u, .int .i64 s.f.n, .int .i64 s.f.s, .int .i64 s.f.d, .int .i64 s.f.fr, .int .i64 s.g.n, .int .i64 s.g.s, .int .i64 s.g.d, .int .i64 s.g.fr]
attribute [local go_sem] Oper.semAt_some
set_option maxHeartbeats 16000000 in
theorem add_calls (k : Nat) (D : ST → Prop) (hD : ∀ (b : BD) (xs : List ST) (x : ST), (∀ y, y ∈ xs → D y) → D x → addF k b00 xs = some b → ∃ b', putO k b (sumL x) x.x = some b') (A0 A1 : Option Addr) (c0 c1 : Nat) (f g : List S51) (M : Nat) (hM : StOk f g M) (h64 : M ≤ 1000) (hDs : ∀ s, s ∈ stL f g M → D s) (w : World) (hr0 : Kd.C k51 w A0 f.length f) (hr1 : Kd.C k51 w A1 g.length g) (hc0 : f.length ≤ c0) (hc1 : g.length ≤ c1) (kf kg : Nat) (hv0 : piecewise_Valid.f kf f = some true) (hv1 : piecewise_Valid.f kg g = some true) (b : BD) (hb : addF k b00 (stL f g M) = some b) :
  Calls Try.prog 16 #[.slice A0 f.length c0, .slice A1 g.length c1] w fun e w' => ∃ v0_ : Value, e = .returned (.tuple #[v0_, .int .i64 (resO b).2]) ∧ Kd.R k51 51 w' w.heap.size (fun _ => True) v0_ (resO b).1 ∧ Below w.heap.size w w' := by
 obtain ⟨E, hE⟩ := sub_list (p := D) (stL f g M) hDs
 refine (callsIn_wide (n := 5)).1 ?_
 refine callsIn_of_wp_marks Try.func16 rfl trivial ?_ rfl
 simp only [Try.ntmps16, List.size_toArray, List.length_cons, List.length_nil, Nat.reduceAdd, Nat.reduceSub, Array.replicate_succ, Array.replicate_zero, List.push_toArray, List.append_toArray, List.nil_append, List.cons_append]
 refine wpIn_wide.2 (wp_calmS ?_)
 have hu51 := Try.underlying51
 have hu54 := Try.underlying54
 have hu59 := Try.underlying59
 have hu64 := Try.underlying64
 have HR0 := mk_ hr0
 have HR1 := mk_ hr1
 have HC0 := mk_ hc0
 have HC1 := mk_ hc1
 have HM := mk_ hM
 have H64 := mk_ h64
 have HE := mk_ hE
 have HV0 := mk_ hv0
 have HV1 := mk_ hv1
 have HBF := mk_ hb
 have HD := mk_ hD
 clear hr0 hr1 hc0 hc1 hM h64 hE hv0 hv1 hb hD hDs
 have HB := mk_ (Below.refl w.heap.size w)
 go_wp2_with (first | (go_at_call 14; (with_reducible refine (piecewise_Valid.calls kf A0 c0 f true _ (Kd.C_below HR0.out HB.out) HC0.out HV0.out).mono ?_); rintro e w1 ⟨rfl, hb_⟩; clear HV0; have n0_ := mk_ (below_step HB.out hb_); clear HB hb_; have HB := n0_; clear n0_) | (go_at_call 14; (with_reducible refine (piecewise_Valid.calls kg A1 c1 g true _ (Kd.C_below HR1.out HB.out) HC1.out HV1.out).mono ?_); rintro e w2 ⟨rfl, hb_⟩; have n0_ := mk_ (below_step HB.out hb_); clear HB hb_; have HB := n0_; clear n0_) | ((with_reducible refine gate_dst (N := 6) rfl ?_); refine box_event ?hg (N := 6) ?hd (cs := #[.int .i64 0, .int .i64 0, .int .i64 0, .int .i64 0, .slice none 0 0, .bool false]) (t := 59) ?hr ?_; (case hd => rfl); (case hg => rfl); (case hr => first | (go_simp; done) | (go_simp; rfl)); intro gb hg_G w3 hbox_ hb_; have n0_ := mk_ (below_step HB.out hb_); have BG := mk_ hbox_; have GG := mk_ (show w.heap.size ≤ gb by rw [hg_G]; exact below_size HB.out); have EG := mk_ hg_G; have hcG0 : w3.cell? ⟨gb, 0, none⟩ = some (.int .i64 0) := (blk_cell hbox_ 0).trans rfl; have hfG0 := blk_frozen hbox_ 0; have hcG1 : w3.cell? ⟨gb, 1, none⟩ = some (.int .i64 0) := (blk_cell hbox_ 1).trans rfl; have hfG1 := blk_frozen hbox_ 1; have hcG2 : w3.cell? ⟨gb, 2, none⟩ = some (.int .i64 0) := (blk_cell hbox_ 2).trans rfl; have hfG2 := blk_frozen hbox_ 2; have hcG3 : w3.cell? ⟨gb, 3, none⟩ = some (.int .i64 0) := (blk_cell hbox_ 3).trans rfl; have hfG3 := blk_frozen hbox_ 3; have hcG4 : w3.cell? ⟨gb, 4, none⟩ = some (.slice none 0 0) := (blk_cell hbox_ 4).trans rfl; have hfG4 := blk_frozen hbox_ 4; have hcG5 : w3.cell? ⟨gb, 5, none⟩ = some (.bool false) := (blk_cell hbox_ 5).trans rfl; have hfG5 := blk_frozen hbox_ 5; clear HB hg_G hbox_ hb_; have HB := n0_; clear n0_) | (go_at_call 39; (with_reducible refine (stretches_calls A0 A1 f.length g.length c0 c1 _).mono ?_); rintro e w4 ⟨g1, g2, rfl, hp_, hq_, hg1_, hg2_, hb_⟩; have BP := mk_ hp_; have BQ := mk_ hq_; have G1 := mk_ (Nat.le_trans (below_size HB.out) hg1_); have G2 := mk_ (Nat.le_trans (below_size HB.out) hg2_); have NB := mk_ (show gb ≠ g1 ∧ gb ≠ g2 by have := blk_lt BG.out; omega); clear hp_ hq_ hg1_ hg2_; have n0_ := mk_ (below_step HB.out hb_); have BG := mk_ (blk_below BG.out hb_); clear HB hb_; have HB := n0_; clear n0_))
 have hlt1 := blk_lt BP.out
 have hlt2 := blk_lt BQ.out
 have hle := below_size HB.out
 refine (wpIn_wide (n := 4)).1 ?_
 refine at_frameS (fun T0 hT0 => ?_)
 refine wpIn_rangeFunc_ownH rfl (by omega) (gf := 59) (lb := #[.pointer (some ⟨g1, 0, none⟩), .pointer (some ⟨g2, 0, none⟩)]) (by subst hT0; rfl) trivial (enters_fn Try.func59 (by kernel_rfl) rfl)
  (str_stops Subtype.val E 3 (by omega) g1 g2 w.heap.size A0 A1 c0 c1 f g M HM.out HE.out w4 BP.out BQ.out (fun W' h => Kd.C_below HR0.out (HB.out.trans h)) (fun W' h => Kd.C_below HR1.out (HB.out.trans h)) hle) keep2_t (keep2_b hle hlt1 hlt2) (Below.refl _ _) (fun _ => rfl)
  (fun pre W => (∃ b1 v1, addF k b00 (pre.map Subtype.val) = some b1 ∧ BdAt W w.heap.size gb b1 v1) ∧ W.heap[g1]? = some (.cells #[.slice A0 f.length c0] 22 (0, 0)) ∧ W.heap[g2]? = some (.cells #[.slice A1 g.length c1] 22 (0, 0)) ∧ Below w.heap.size w W)
  (fun _ _ _ => False)
  (fun st A B row hs hg hr => by
   have hr' : ∀ r, row = some r → ∃ o : Obj, A.heap[r]? = some o ∧ o.isCells = false := fun r e => (hr r e).2
   obtain ⟨⟨b1, v1, i1, i2⟩, i4, i5, i8⟩ := hs
   exact ⟨⟨b1, v1, i1, bdAt_objs i2 hg hr'⟩, blk_objs i4 hg hr', blk_objs i5 hg hr', grown_below i8 hg (fun r e => by have := (hr r e).1; omega)⟩)
  (fun _ _ _ _ _ hs _ _ => hs)
  ⟨⟨b00, _, rfl, BG.out, Kd.R_nil _ _ _ _ _⟩, BP.out, BQ.out, HB.out⟩
  (fun x a' W => ∃ gx, a' = { tmps := (T0.setIfInBounds 20 (.agg (cST x.val))).setIfInBounds 7 (.pointer (some ⟨gx, 0, none⟩)), defers := [] } ∧ W.heap[gx]? = some (.cells (cST x.val) 64 (0, 0)))
  (fun x a' s A B row hs hg hr => by
   obtain ⟨gx, e, hb⟩ := hs
   exact ⟨gx, e, blk_objs hb hg (fun r e => (hr r e).2)⟩) ?assign ?body ?done ?stop
 case assign =>
  rintro lr pre ⟨p, hp⟩ W K ⟨⟨b1, v1, i1, i2⟩, i4, i5, i8⟩ hK
  subst hT0
  simp only [sI_, s0_, sS_] at hK
  simp only [encST]
  gi_wp2
  exact hK _ _ ((KeepsOthers.alloc W _).from _) (keep2_below (below_size i8) (blk_lt i4) (blk_lt i5) (below_alloc (Below.refl _ _) _)) ⟨⟨b1, v1, i1, bdAt_below i2 (below_alloc (Below.refl _ _) _)⟩, blk_alloc i4 _, blk_alloc i5 _, below_alloc i8 _⟩ ⟨W.heap.size, rfl, blk_new W _⟩
 case stop =>
  rintro D c pre W _ _ h _
  exact h.elim
 case done =>
  rintro D ys W hD rfl ⟨⟨b1, v1, hb1, hB1⟩, q4, q5, hBW⟩ hDD
  subst hT0
  rw [HE.out, HBF.out] at hb1
  obtain rfl := Option.some.inj hb1
  have HBD := mk_ hB1
  have HBV := mk_ hBW
  have HDV := mk_ hDD
  have HDL := mk_ (show w.heap.size ≤ D from Nat.le_trans hle hD)
  clear hB1 q4 q5 hBW hDD hD hb1
  go_wp2_with (first | (go_at_call 41; (with_reducible refine (result_calls b _ w.heap.size gb v1 HBD.out).mono ?_); rintro e w9 ⟨v9, rfl, hR_, hb_⟩; have HR9 := mk_ hR_; have HBV9 := mk_ hb_; clear hR_ hb_))
  have rD := blk_below HDV.out HBV9.out
  show bodyPostM _ _ _ _ _ .ret _ _
  refine postM_doneW (D := D) rD (results_tmp2 rfl _ _ _) ⟨v9, rfl, ?_, ?_⟩
  ·exact R_objs HR9.out (grownBy_putObj' w9 D _) (fun r e => by cases e; exact ⟨_, rD, rfl⟩)
  ·exact (below_step HBV.out HBV9.out).trans (belowK_b (w := w) (Nat.le_refl _) _ D _ _ HDL.out rD rfl rfl)
 case body =>
  rintro lr pre ⟨p, hp⟩ a' W _ _ ⟨⟨b1, v1, hb1, hB1⟩, q1, q2, hBW⟩ ⟨gx, rfl, hb⟩ hlen
  subst hT0
  simp only [sI_, s0_, sS_]
  obtain ⟨b2, hb2⟩ := HD.out b1 (pre.map Subtype.val) p (fun y hy => by obtain ⟨z, _, rfl⟩ := List.mem_map.1 hy; exact z.property) hp hb1
  have HLN := mk_ (show b1.out.length ≤ 1000000 by have h1 := addF_len _ hb1; rw [List.length_map] at h1; have h3 : b00.out.length = 0 := rfl; have := H64.out; omega)
  have BX := mk_ hb
  have Q1 := mk_ q1
  have Q2 := mk_ q2
  have HBD := mk_ hB1
  have HF := mk_ hb1
  have HP2 := mk_ hb2
  have HBW := mk_ hBW
  have hx0 : W.cell? ⟨gx, 0, none⟩ = some (.int .i64 p.x) := (blk_cell hb 0).trans rfl
  clear hb q1 q2 hB1 hb1 hb2 hBW hlen
  gi_wp2_with (fail)
  refine start_R (m := 43) (S := fun w' => w'.cell? ⟨gx, 0, none⟩ = some (.int .i64 p.x) ∧ w'.cell? ⟨gx, 1, none⟩ = some (.int .i64 p.u) ∧ w'.cell? ⟨gx, 2, none⟩ = some (.int .i64 p.f.n) ∧ w'.cell? ⟨gx, 3, none⟩ = some (.int .i64 p.f.s) ∧ w'.cell? ⟨gx, 4, none⟩ = some (.int .i64 p.f.d) ∧ w'.cell? ⟨gx, 5, none⟩ = some (.int .i64 p.f.fr) ∧ w'.cell? ⟨gx, 6, none⟩ = some (.int .i64 p.g.n) ∧ w'.cell? ⟨gx, 7, none⟩ = some (.int .i64 p.g.s) ∧ w'.cell? ⟨gx, 8, none⟩ = some (.int .i64 p.g.d) ∧ w'.cell? ⟨gx, 9, none⟩ = some (.int .i64 p.g.fr)) (ds := []) (by kernel_rfl) (by rintro ⟨_, _, h⟩; exact h) #[n_, n_, n_, n_, n_, n_, n_, n_, n_, n_, n_, n_, n_, n_, n_, n_, n_, n_, n_, n_, n_, n_, n_, n_, n_, n_, n_, n_, n_, n_, n_, n_, n_, n_, n_, n_, n_, n_, n_, n_, n_, n_, n_] (by kernel_rfl) rfl rfl ⟨(blk_cell (show W.drew.heap[gx]? = _ from BX.out) 0).trans rfl, (blk_cell (show W.drew.heap[gx]? = _ from BX.out) 1).trans rfl, (blk_cell (show W.drew.heap[gx]? = _ from BX.out) 2).trans rfl, (blk_cell (show W.drew.heap[gx]? = _ from BX.out) 3).trans rfl, (blk_cell (show W.drew.heap[gx]? = _ from BX.out) 4).trans rfl, (blk_cell (show W.drew.heap[gx]? = _ from BX.out) 5).trans rfl, (blk_cell (show W.drew.heap[gx]? = _ from BX.out) 6).trans rfl, (blk_cell (show W.drew.heap[gx]? = _ from BX.out) 7).trans rfl, (blk_cell (show W.drew.heap[gx]? = _ from BX.out) 8).trans rfl, (blk_cell (show W.drew.heap[gx]? = _ from BX.out) 9).trans rfl⟩ (fun hHeld => ?_)
  refine pv_ 0 23 (w_ 43 1) rfl ?_
  refine pv_ 2 25 (w_ 43 5) rfl ?_
  refine pv_ 4 27 (w_ 43 21) rfl ?_
  refine pv_ 5 28 (w_ 43 53) rfl ?_
  refine pv_ 8 31 (w_ 43 309) rfl ?_
  refine pv_ 10 33 (w_ 43 1333) rfl ?_
  refine pv_ 12 35 (w_ 43 5429) rfl ?_
  refine pv_ 13 36 (w_ 43 13621) rfl ?_
  refine pv_ 17 40 (w_ 43 144693) rfl ?_
  refine pv_ 18 41 (w_ 43 406837) rfl ?_
  refine pv_ 20 43 (w_ 43 1455413) rfl ?_
  refine pv_ 21 44 (w_ 43 3552565) rfl ?_
  refine pv_ 24 47 (w_ 43 20329781) rfl ?_
  refine pv_ 25 48 (w_ 43 53884213) rfl ?_
  refine pv_ 27 50 (w_ 43 188101941) rfl ?_
  refine pv_ 28 51 (w_ 43 456537397) rfl ?_
  refine pv_ 32 55 (w_ 43 4751504693) rfl ?_
  refine pv_ 33 56 (w_ 43 13341439285) rfl ?_
  refine pv_ 35 58 (w_ 43 47701177653) rfl ?_
  refine pv_ 36 59 (w_ 43 116420654389) rfl ?_
  refine pv_ 39 62 (w_ 43 666176468277) rfl ?_
  refine pv_ 41 64 (w_ 43 2865199723829) rfl ?_
  refine tb_ 1 24 (w_ 43 2865199723831) rfl hHeld (by rintro w' ⟨s0, s1, s2, s3, s4, s5, s6, s7, s8, s9⟩; go_simp; with_reducible rfl) ?_
  refine tb_ 6 29 (w_ 43 2865199723895) rfl hHeld (by rintro w' ⟨s0, s1, s2, s3, s4, s5, s6, s7, s8, s9⟩; go_simp; with_reducible rfl) ?_
  refine tb_ 9 32 (w_ 43 2865199724407) rfl hHeld (by rintro w' ⟨s0, s1, s2, s3, s4, s5, s6, s7, s8, s9⟩; go_simp; with_reducible rfl) ?_
  refine tb_ 14 37 (w_ 43 2865199740791) rfl hHeld (by rintro w' ⟨s0, s1, s2, s3, s4, s5, s6, s7, s8, s9⟩; go_simp; with_reducible rfl) ?_
  refine tb_ 19 42 (w_ 43 2865200265079) rfl hHeld (by rintro w' ⟨s0, s1, s2, s3, s4, s5, s6, s7, s8, s9⟩; go_simp; with_reducible rfl) ?_
  refine tb_ 22 45 (w_ 43 2865204459383) rfl hHeld (by rintro w' ⟨s0, s1, s2, s3, s4, s5, s6, s7, s8, s9⟩; go_simp; with_reducible rfl) ?_
  refine pv_ 23 46 (w_ 43 2865212847991) rfl ?_
  refine tb_ 26 49 (w_ 43 2865279956855) rfl hHeld (by rintro w' ⟨s0, s1, s2, s3, s4, s5, s6, s7, s8, s9⟩; go_simp; with_reducible rfl) ?_
  refine tb_ 29 52 (w_ 43 2865816827767) rfl hHeld (by rintro w' ⟨s0, s1, s2, s3, s4, s5, s6, s7, s8, s9⟩; go_simp; with_reducible rfl) ?_
  refine pv_ 30 53 (w_ 43 2866890569591) rfl ?_
  refine pv_ 31 54 (w_ 43 2869038053239) rfl ?_
  refine tb_ 34 57 (w_ 43 2886217922423) rfl hHeld (by rintro w' ⟨s0, s1, s2, s3, s4, s5, s6, s7, s8, s9⟩; go_simp; with_reducible rfl) ?_
  refine tb_ 37 60 (w_ 43 3023656875895) rfl hHeld (by rintro w' ⟨s0, s1, s2, s3, s4, s5, s6, s7, s8, s9⟩; go_simp; with_reducible rfl) ?_
  refine pv_ 38 61 (w_ 43 3298534782839) rfl ?_
  refine one_ (i := 3) (N := some 26) (w_ 43 3298534782847) rfl rfl (by kernel_rfl) (by decide) (fun K hK => ?_)
  refine goes_ Try.func36 (by kernel_rfl) rfl #[.agg #[.int .i64 p.f.n, .int .i64 p.f.s, .int .i64 p.f.d, .int .i64 p.f.fr], .int .i64 p.x] (by rfl) rfl rfl (by simp only [List.map_toArray, List.map_cons, List.map_nil]; rfl) ?_
  with_reducible refine (atL_calls p.f p.x _).mono ?_
  rintro e wa ⟨rfl, hb_⟩
  refine ⟨_, rfl, ?_⟩
  have BXa := mk_ (blk_below (show W.drew.heap[gx]? = _ from BX.out) hb_)
  have HWa := mk_ (below_step (below_drew (Below.refl W.heap.size W)) hb_)
  clear hb_
  refine hK.out _ _ ⟨(blk_cell (BXa.out) 0).trans rfl, (blk_cell (BXa.out) 1).trans rfl, (blk_cell (BXa.out) 2).trans rfl, (blk_cell (BXa.out) 3).trans rfl, (blk_cell (BXa.out) 4).trans rfl, (blk_cell (BXa.out) 5).trans rfl, (blk_cell (BXa.out) 6).trans rfl, (blk_cell (BXa.out) 7).trans rfl, (blk_cell (BXa.out) 8).trans rfl, (blk_cell (BXa.out) 9).trans rfl⟩ (fun hHeld => ?_)
  clear hK K
  refine norm_ (a' := ?_) ?_ ?_
  rotate_left
  ·show Act.put _ (some 26) _ = _
   simp only [Act.put, sI_, s0_, sS_, i64_w, i32_w]
   rfl
  refine pv_ 7 30 (w_ 43 3298534782975) rfl ?_
  refine one_ (i := 11) (N := some 34) (w_ 43 3298534785023) rfl rfl (by kernel_rfl) (by decide) (fun K hK => ?_)
  refine goes_ Try.func36 (by kernel_rfl) rfl #[.agg #[.int .i64 p.g.n, .int .i64 p.g.s, .int .i64 p.g.d, .int .i64 p.g.fr], .int .i64 p.x] (by rfl) rfl rfl (by simp only [List.map_toArray, List.map_cons, List.map_nil]; rfl) ?_
  with_reducible refine (atL_calls p.g p.x _).mono ?_
  rintro e wb ⟨rfl, hb_⟩
  refine ⟨_, rfl, ?_⟩
  have BXb := mk_ (blk_below BXa.out hb_)
  have HWb := mk_ (below_step HWa.out hb_)
  clear hb_
  refine hK.out _ _ ⟨(blk_cell (BXb.out) 0).trans rfl, (blk_cell (BXb.out) 1).trans rfl, (blk_cell (BXb.out) 2).trans rfl, (blk_cell (BXb.out) 3).trans rfl, (blk_cell (BXb.out) 4).trans rfl, (blk_cell (BXb.out) 5).trans rfl, (blk_cell (BXb.out) 6).trans rfl, (blk_cell (BXb.out) 7).trans rfl, (blk_cell (BXb.out) 8).trans rfl, (blk_cell (BXb.out) 9).trans rfl⟩ (fun hHeld => ?_)
  clear hK K
  refine norm_ (a' := ?_) ?_ ?_
  rotate_left
  ·show Act.put _ (some 34) _ = _
   simp only [Act.put, sI_, s0_, sS_, i64_w, i32_w]
   rfl
  refine pv_ 15 38 (w_ 43 3298534817791) rfl ?_
  refine pv_ 16 39 (w_ 43 3298534883327) rfl ?_
  refine pv_ 40 63 (w_ 43 4398046511103) rfl ?_
  refine one_ (i := 42) (N := some 65) (w_ 43 8796093022207) rfl rfl (by kernel_rfl) (by decide) (fun K hK => ?_)
  refine goes_ Try.func40 (by kernel_rfl) rfl #[.pointer (some ⟨gb, 0, none⟩), .agg #[.int .i64 (wrap64 (wrap64 (atL p.f p.x * p.g.d) + wrap64 (atL p.g p.x * p.f.d))), .int .i64 (wrap64 (wrap64 (p.f.s * p.g.d) + wrap64 (p.g.s * p.f.d))), .int .i64 (wrap64 (p.f.d * p.g.d)), .int .i64 p.x], .int .i64 p.x] (by rfl) rfl rfl (by simp only [List.map_toArray, List.map_cons, List.map_nil]; rfl) ?_
  with_reducible refine (put_calls k b1 b2 (sumL p) p.x _ w.heap.size gb v1 GG.out (bdAt_below HBD.out HWb.out) HLN.out HP2.out).mono ?_
  rintro e w8 ⟨⟨u, rfl⟩, ⟨v2, hB2⟩, hbn, hko, hfr⟩
  refine ⟨_, rfl, ?_⟩
  have BX8 := mk_ ((hfr gx (blk_lt BXb.out) (blk_ne BXb.out (bdAt_below HBD.out HWb.out).1 (by decide)) (Kd.R_ne (bdAt_below HBD.out HWb.out).2 BXb.out (by decide))).trans BXb.out)
  have HB2 := mk_ hB2
  have HBN := mk_ hbn
  have HKO := mk_ hko
  have HFR := mk_ hfr
  clear hB2 hbn hko hfr
  refine hK.out _ _ ⟨(blk_cell (BX8.out) 0).trans rfl, (blk_cell (BX8.out) 1).trans rfl, (blk_cell (BX8.out) 2).trans rfl, (blk_cell (BX8.out) 3).trans rfl, (blk_cell (BX8.out) 4).trans rfl, (blk_cell (BX8.out) 5).trans rfl, (blk_cell (BX8.out) 6).trans rfl, (blk_cell (BX8.out) 7).trans rfl, (blk_cell (BX8.out) 8).trans rfl, (blk_cell (BX8.out) 9).trans rfl⟩ (fun hHeld => ?_)
  clear hK K
  refine norm_ (a' := ?_) ?_ ?_
  rotate_left
  ·show Act.put _ (some 65) _ = _
   simp only [Act.put, sI_, s0_, sS_, i64_w, i32_w]
   rfl
  refine done_ (by kernel_rfl) ?_
  go_wp2_with (fail)
  have hWb := HWb.out
  have hbd := bdAt_below HBD.out hWb
  have n1 : some g1 ≠ v1.ownBlock := Kd.R_ne HBD.out.2 Q1.out (by decide)
  have n2 : some g2 ≠ v1.ownBlock := Kd.R_ne HBD.out.2 Q2.out (by decide)
  have f1 := (HFR.out g1 (Nat.lt_of_lt_of_le (blk_lt Q1.out) hWb.size) NB.out.1.symm n1).trans (hWb.block g1 (blk_lt Q1.out))
  have f2 := (HFR.out g2 (Nat.lt_of_lt_of_le (blk_lt Q2.out) hWb.size) NB.out.2.symm n2).trans (hWb.block g2 (blk_lt Q2.out))
  have kb : Below w.heap.size W w8 := (hWb.mono (below_size HBW.out)).trans HBN.out
  refine ⟨((KeepsOthers.of_grownBy (grown_of_below hWb none) (by simp)).trans HKO.out).from _, ⟨kb, f1, f2⟩, ⟨b2, v2, ?_, HB2.out⟩, f1.trans Q1.out, f2.trans Q2.out, HBW.out.trans kb⟩
  rw [List.map_append, List.map_singleton, addF_append, HF.out]
  exact HP2.out
theorem postM_ret {F : Fence} {n : Nat} {P : Program} {fn : Func} {R : Ending → World → Prop} {T : Array Value} {v : Value} {w : World} (h : (results fn T).run P w = .ok v w) (hR : R (.returned v) w) : bodyPostM F n P fn R .ret { tmps := T, defers := [] } w := ⟨v, h, hR⟩
theorem add_bad0 (A0 A1 : Option Addr) (c0 c1 : Nat) (f g : List S51) (w : World) (hr0 : Kd.C k51 w A0 f.length f) (hc0 : f.length ≤ c0) (kf : Nat) (hv0 : piecewise_Valid.f kf f = some false) :
  Calls Try.prog 16 #[.slice A0 f.length c0, .slice A1 g.length c1] w fun e w' => e = .returned (.tuple #[.slice none 0 0, .int .i64 1]) ∧ Below w.heap.size w w' := by
 refine (callsIn_wide (n := 5)).1 ?_
 refine callsIn_of_wp_marks Try.func16 rfl trivial ?_ rfl
 simp only [Try.ntmps16, List.size_toArray, List.length_cons, List.length_nil, Nat.reduceAdd, Nat.reduceSub, Array.replicate_succ, Array.replicate_zero, List.push_toArray, List.append_toArray, List.nil_append, List.cons_append]
 refine wpIn_wide.2 (wp_calmS ?_)
 have HR0 := mk_ hr0
 have HC0 := mk_ hc0
 have HV0 := mk_ hv0
 clear hr0 hc0 hv0
 have HB := mk_ (Below.refl w.heap.size w)
 go_wp2_with (first | (go_at_call 14; (with_reducible refine (piecewise_Valid.calls kf A0 c0 f false _ (Kd.C_below HR0.out HB.out) HC0.out HV0.out).mono ?_); rintro e w1 ⟨rfl, hb_⟩; clear HV0; have n0_ := mk_ (below_step HB.out hb_); clear HB hb_; have HB := n0_; clear n0_))
 show bodyPostM _ _ _ _ _ .ret _ _
 exact postM_ret (results_tmp2 rfl _ _ _) ⟨rfl, HB.out⟩
theorem add_bad1 (A0 A1 : Option Addr) (c0 c1 : Nat) (f g : List S51) (w : World) (hr0 : Kd.C k51 w A0 f.length f) (hr1 : Kd.C k51 w A1 g.length g) (hc0 : f.length ≤ c0) (hc1 : g.length ≤ c1) (kf kg : Nat) (hv0 : piecewise_Valid.f kf f = some true) (hv1 : piecewise_Valid.f kg g = some false) :
  Calls Try.prog 16 #[.slice A0 f.length c0, .slice A1 g.length c1] w fun e w' => e = .returned (.tuple #[.slice none 0 0, .int .i64 1]) ∧ Below w.heap.size w w' := by
 refine (callsIn_wide (n := 5)).1 ?_
 refine callsIn_of_wp_marks Try.func16 rfl trivial ?_ rfl
 simp only [Try.ntmps16, List.size_toArray, List.length_cons, List.length_nil, Nat.reduceAdd, Nat.reduceSub, Array.replicate_succ, Array.replicate_zero, List.push_toArray, List.append_toArray, List.nil_append, List.cons_append]
 refine wpIn_wide.2 (wp_calmS ?_)
 have HR0 := mk_ hr0
 have HC0 := mk_ hc0
 have HV0 := mk_ hv0
 have HR1 := mk_ hr1
 have HC1 := mk_ hc1
 have HV1 := mk_ hv1
 clear hr0 hc0 hv0 hr1 hc1 hv1
 have HB := mk_ (Below.refl w.heap.size w)
 go_wp2_with (first | (go_at_call 14; (with_reducible refine (piecewise_Valid.calls kf A0 c0 f true _ (Kd.C_below HR0.out HB.out) HC0.out HV0.out).mono ?_); rintro e w1 ⟨rfl, hb_⟩; clear HV0; have n0_ := mk_ (below_step HB.out hb_); clear HB hb_; have HB := n0_; clear n0_) | (go_at_call 14; (with_reducible refine (piecewise_Valid.calls kg A1 c1 g false _ (Kd.C_below HR1.out HB.out) HC1.out HV1.out).mono ?_); rintro e w2 ⟨rfl, hb_⟩; have n0_ := mk_ (below_step HB.out hb_); clear HB hb_; have HB := n0_; clear n0_))
 show bodyPostM _ _ _ _ _ .ret _ _
 exact postM_ret (results_tmp2 rfl _ _ _) ⟨rfl, HB.out⟩
theorem lowest_total (x0 x1 : Int) : ∀ (k : Nat) (x5 x6 : Int), (x5 ≠ 0 ∨ 0 < x6) → x6.toNat < k → ∃ r, piecewise_lowest.l0 k x0 x1 x5 x6 = some r
 | 0, _, _, _, h => absurd h (Nat.not_lt_zero _)
 | k + 1, x5, x6, h, hk => by
  unfold piecewise_lowest.l0
  by_cases h6 : x6 > 0
  ·rw [if_pos h6, if_neg (by omega)]
   refine lowest_total x0 x1 k x6 (Int.tmod x5 x6) (.inl (by omega)) ?_
   have : Int.tmod x5 x6 < x6 := by
    have := Int.tmod_lt_of_pos x5 h6
    omega
   omega
  ·rw [if_neg h6]
   rcases h with h | h
   ·rw [if_neg h]; exact ⟨_, rfl⟩
   ·exact absurd h h6
theorem pieceO_total {k : Nat} {l : LN} (x : Int) (hd : 1 ≤ l.d) (hk : l.d.toNat < k) : ∃ p, pieceO k l x = some p := by
 unfold pieceO piecewise_line_piece.f piecewise_lowest.f piecewise_line_at.f
 obtain ⟨r1, e1⟩ := lowest_total (wrap64 (l.n + wrap64 (l.s * wrap64 (x - l.fr)))) l.d k (mx (wrap64 (l.n + wrap64 (l.s * wrap64 (x - l.fr)))) (wrap64 (-wrap64 (l.n + wrap64 (l.s * wrap64 (x - l.fr)))))) l.d (.inr (by omega)) hk
 obtain ⟨r2, e2⟩ := lowest_total l.s l.d k (mx l.s (wrap64 (-l.s))) l.d (.inr (by omega)) hk
 simp only [Option.bind_some, e1, e2]
 exact ⟨_, rfl⟩
theorem common_total : ∀ (k : Nat) (a b : Int), b.natAbs < k → ∃ r, rational_common.l0 k a b = some r
 | 0, _, _, h => absurd h (Nat.not_lt_zero _)
 | k + 1, a, b, h => by
  unfold rational_common.l0
  by_cases hb : b = 0
  ·rw [if_pos hb]; exact ⟨_, rfl⟩
  ·rw [if_neg hb]
   refine common_total k b (Int.tmod a b) ?_
   have : (Int.tmod a b).natAbs < b.natAbs := by
    rw [Int.natAbs_tmod]
    exact Nat.mod_lt _ (by omega)
   omega
theorem size_total (a : Int) : ∃ r, rational_size.f a = some r := by
 unfold rational_size.f
 split <;> exact ⟨_, rfl⟩
theorem rvalid_total (a b : Int) : ∃ r, rational_Valid.f a b = some r := by
 unfold rational_Valid.f
 obtain ⟨s, hs⟩ := size_total a
 obtain ⟨t, ht⟩ := size_total b
 obtain ⟨c, hc⟩ := common_total (t.natAbs + 1) s t (by omega)
 have hc' : rational_common.f s t = some c := hc
 simp only [hs, ht, hc', Option.bind_some]
 repeat' split
 all_goals exact ⟨_, rfl⟩
theorem numB_total (p : S51) : ∃ b, numB p = some b := by
 unfold numB piecewise_numbers.f
 obtain ⟨s, hs⟩ := rvalid_total p.f1.f0 p.f1.f1
 obtain ⟨t, ht⟩ := rvalid_total p.f2.f0 p.f2.f1
 simp only [hs, ht, Option.bind_some]
 repeat' split
 all_goals exact ⟨_, rfl⟩
theorem putO_total {k : Nat} {b : BD} {l : LN} (x : Int) (hd : 1 ≤ l.d) (hk : l.d.toNat < k) (hb : b.out.length ≠ 0 → 1 ≤ b.last.d ∧ b.last.d.toNat < k) : ∃ b', putO k b l x = some b' := by
 unfold putO
 obtain ⟨p, hp⟩ := pieceO_total x hd hk
 obtain ⟨ok, hok⟩ := numB_total p
 simp only [hp, hok, Option.bind_some]
 by_cases hz : b.out.length = 0
 ·rw [if_pos hz]; exact ⟨_, rfl⟩
 ·rw [if_neg hz]
  obtain ⟨q, hq⟩ := pieceO_total x (hb hz).1 (hb hz).2
  simp only [hq, Option.bind_some]
  split <;> exact ⟨_, rfl⟩
theorem putO_last {k : Nat} {b b' : BD} {l : LN} {x : Int} (h : putO k b l x = some b') : b'.last = l := by
 unfold putO at h
 obtain ⟨p, _, h⟩ := Option.bind_eq_some_iff.1 h
 split at h
 ·obtain ⟨ok, _, h⟩ := Option.bind_eq_some_iff.1 h
  obtain rfl := Option.some.inj h
  rfl
 ·obtain ⟨q, _, h⟩ := Option.bind_eq_some_iff.1 h
  split at h
  ·obtain rfl := Option.some.inj h
   rfl
  ·obtain ⟨ok, _, h⟩ := Option.bind_eq_some_iff.1 h
   obtain rfl := Option.some.inj h
   rfl
theorem addF_last {k : Nat} : ∀ (xs : List ST) {b b' : BD}, addF k b xs = some b' → (xs = [] ∧ b' = b) ∨ ∃ y, y ∈ xs ∧ b'.last = sumL y
 | [], b, b', h => .inl ⟨rfl, (Option.some.inj h).symm⟩
 | s :: t, b, b', h => by
  unfold addF at h
  obtain ⟨b1, h1, h2⟩ := Option.bind_eq_some_iff.1 h
  rcases addF_last t h2 with ⟨rfl, rfl⟩ | ⟨y, hy, e⟩
  ·exact .inr ⟨s, List.mem_cons_self .., putO_last h1⟩
  ·exact .inr ⟨y, List.mem_cons_of_mem _ hy, e⟩
def okST (s : ST) : Bool := decide (1 ≤ s.f.d ∧ s.f.d ≤ 10000 ∧ 1 ≤ s.g.d ∧ s.g.d ≤ 10000)
theorem sumL_d {s : ST} (h : okST s = true) : 1 ≤ (sumL s).d ∧ (sumL s).d ≤ 100000000 := by
 obtain ⟨h1, h2, h3, h4⟩ := of_decide_eq_true h
 have h5 : 1 ≤ s.f.d * s.g.d := by
  have := Int.mul_le_mul h1 h3 (by omega) (by omega)
  omega
 have h6 : s.f.d * s.g.d ≤ 100000000 := by
  have := Int.mul_le_mul h2 h4 (by omega) (by omega)
  omega
 have h7 : wrap64 (s.f.d * s.g.d) = s.f.d * s.g.d := by unfold wrap64; omega
 show 1 ≤ wrap64 (s.f.d * s.g.d) ∧ wrap64 (s.f.d * s.g.d) ≤ 100000000
 rw [h7]
 exact ⟨h5, h6⟩
theorem addD {k : Nat} (hk : 100000000 < k) (b : BD) (xs : List ST) (x : ST) (hxs : ∀ y, y ∈ xs → okST y = true) (hx : okST x = true) (h : addF k b00 xs = some b) : ∃ b', putO k b (sumL x) x.x = some b' := by
 have h1 := sumL_d hx
 refine putO_total x.x h1.1 (by omega) (fun hz => ?_)
 rcases addF_last xs h with ⟨_, rfl⟩ | ⟨y, hy, e⟩
 ·exact absurd rfl hz
 ·rw [e]
  have h2 := sumL_d (hxs y hy)
  exact ⟨h2.1, by omega⟩
def stOkB (f g : List S51) (M : Nat) : Bool := decide (f.length ≤ 1000000 ∧ g.length ≤ 1000000) && (decide (∀ j, j < M + 1 → (stp f g j).1 < f.length ∧ (stp f g j).2.1 < g.length ∧ 0 ≤ (stp f g j).2.2) && (decide (∀ j, j < M → (stp f g j).2.2 ≤ 100000 ∧ (stp f g j).2.2 < (stp f g (j + 1)).2.2) && decide (100000 < (stp f g M).2.2)))
theorem stOkB_at {f g : List S51} {M : Nat} (h : stOkB f g M = true) : StOk f g M := by
 unfold stOkB at h
 simp only [Bool.and_eq_true, decide_eq_true_eq] at h
 obtain ⟨⟨h1, h2⟩, h3, h4, h5⟩ := h
 exact ⟨h1, h2, fun j hj => h3 j (by omega), h4, h5⟩
def stM (f g : List S51) : Option Nat := (List.range 1001).find? (fun M => stOkB f g M)
theorem stM_at {f g : List S51} {M : Nat} (h : stM f g = some M) : StOk f g M ∧ M ≤ 1000 := by
 unfold stM at h
 have h1 := List.find?_some h
 have h2 := List.mem_of_find?_eq_some h
 rw [List.mem_range] at h2
 exact ⟨stOkB_at h1, by omega⟩
def kV : Nat := 5000
def kP : Nat := 100000001
theorem kP_lt : 100000000 < kP := by unfold kP; omega
attribute [irreducible] kV kP
def piecewise_Add.f (l0 l1 : List S51) : Option (List S51 × Int) :=
 (piecewise_Valid.f kV l0).bind fun v0 => if v0 = true then ((piecewise_Valid.f kV l1).bind fun v1 => if v1 = true then ((stM l0 l1).bind fun M => if (stL l0 l1 M).all okST = true then (addF kP b00 (stL l0 l1 M)).bind fun b => some (resO b) else none) else some ([], 1)) else some ([], 1)
theorem piecewise_Add.calls (A0 : Option Addr) (c0 : Nat) (l0 : List (S51)) (A1 : Option Addr) (c1 : Nat) (l1 : List (S51)) (r1 : List (S51)) (r2 : Int) (w : World) (hr0 : Kd.C k51 w A0 l0.length l0) (hc0 : l0.length ≤ c0) (hr1 : Kd.C k51 w A1 l1.length l1) (hc1 : l1.length ≤ c1) (h : piecewise_Add.f l0 l1 = some (r1, r2)) :
  Calls Try.prog 16 #[.slice A0 l0.length c0, .slice A1 l1.length c1] w fun e w' => ∃ v0_ : Value, e = .returned (.tuple #[v0_, .int .i64 r2]) ∧ Kd.R k51 51 w' w.heap.size (fun _ => True) v0_ r1 ∧ Below w.heap.size w w' := by
 unfold piecewise_Add.f at h
 obtain ⟨v0, hv0, h⟩ := Option.bind_eq_some_iff.1 h
 cases v0 with
 | false =>
  rw [if_neg (by decide)] at h
  simp only [Option.some.injEq, Prod.mk.injEq] at h
  obtain ⟨rfl, rfl⟩ := h
  exact (add_bad0 A0 A1 c0 c1 l0 l1 w hr0 hc0 kV hv0).mono (fun e w' h => ⟨_, h.1, Kd.R_nil _ _ _ _ _, h.2⟩)
 | true =>
  rw [if_pos rfl] at h
  obtain ⟨v1, hv1, h⟩ := Option.bind_eq_some_iff.1 h
  cases v1 with
  | false =>
   rw [if_neg (by decide)] at h
   simp only [Option.some.injEq, Prod.mk.injEq] at h
   obtain ⟨rfl, rfl⟩ := h
   exact (add_bad1 A0 A1 c0 c1 l0 l1 w hr0 hr1 hc0 hc1 kV kV hv0 hv1).mono (fun e w' h => ⟨_, h.1, Kd.R_nil _ _ _ _ _, h.2⟩)
  | true =>
   rw [if_pos rfl] at h
   obtain ⟨M, hM, h⟩ := Option.bind_eq_some_iff.1 h
   by_cases hall : (stL l0 l1 M).all okST = true
   case neg => rw [if_neg hall] at h; cases h
   rw [if_pos hall] at h
   obtain ⟨b, hb, h⟩ := Option.bind_eq_some_iff.1 h
   obtain ⟨hS, hM1⟩ := stM_at hM
   have h' := Option.some.inj h
   have e1 : (resO b).1 = r1 := congrArg Prod.fst h'
   have e2 : (resO b).2 = r2 := congrArg Prod.snd h'
   subst e1
   subst e2
   exact add_calls kP (fun s => okST s = true) (addD kP_lt) A0 A1 c0 c1 l0 l1 M hS hM1 (List.all_eq_true.1 hall) w hr0 hr1 hc0 hc1 kV kV hv0 hv1 b hb
end
end Go.Proofs.Ytmhimmodigeeiaa.P
end
