/- Part 3 of the base that the seat's proofs share: words, walks and plain laws. -/
import Derived.ArgAppend
import Derived.Below
import Derived.BigQuiet
import Derived.ChangeOld
import Derived.ChangeSlices
import Derived.Deep.AppendLies
import Derived.Deep.CutBlock
import Derived.Deep.DeepCutAuto
import Derived.Deep.Draws
import Derived.Deep.LoopGhost
import Derived.Deep.OwnRows
import Derived.Deep.QuietTactic
import Derived.Deep.RegionHeld3
import Derived.Deep.Slices
import Derived.KernelRfl
import Derived.Laws.BitsLemmas
import Derived.Laws.BytesArg
import Derived.Laws.IdiomCopy
import Derived.Laws.MakeOwn
import Derived.Laws.OwnMore
import Derived.Laws.Rows
import Derived.Laws.Slices
import Derived.Laws.StructEq
import Derived.Lib.AppendStr
import Derived.Lib.ConvBytes
import Derived.LoopIn
import Derived.LoopNIn
import Derived.Maps.AppendAt
import Derived.Maps.Own
import Derived.OpenShut
import Derived.OrdersHeld
import Derived.OwnWalk
import Derived.OwnWalkIn
import Derived.ProofKit
import Derived.RangeFuncBound
import Derived.RangeFuncCalls
import Derived.RangeFuncLeaves
import Derived.RangeFuncNested
import Derived.RowKit
import Derived.RowKit3
import Derived.ShutString
import Derived.SizedLaws
import Derived.Tactics
import Derived.TacticsInMore
import Derived.Test.YtbgchacafglcpaaProg
import Derived.WalkKit
import Derived.WideLaws
import Derived.Test.YtbgchacafglcpaaCMb
set_option linter.unusedVariables false
set_option linter.unusedSimpArgs false
section
namespace Go.Proofs.Ytbgchacafglcpaa.P
open Go.RowKit Go.Proofs.YtbgchacafglcpaaW.PrintWords Go.Proofs.YtbgchacafglcpaaW.PrintLast Go.Proofs.YtbgchacafglcpaaW.PrintMore
attribute [local go_sem] max2_int min2_int max_two min_two max_three min_three max_four min_four
set_option linter.unusedVariables false
set_option linter.unusedSimpArgs false
set_option maxHeartbeats 8000000
set_option maxRecDepth 100000
section
open Go.Proofs.YtbgchacafglcpaaH
def homesB : Int → List Int → Bool
 | _, [] => true
 | last, h :: t => if h ≤ last ∨ h > 64 then false else homesB h t
theorem homes_l0 (l : List Int) (hn : l.length ≤ 140737488355328) : ∀ (d : Nat) (i : Nat) (k : Nat) (last : Int), i + d = l.length → d < k → charges_households.l0 k last l (l.length : Int) (i : Int) = some (homesB last (l.drop i)) := by
 intro d
 induction d with
 | zero =>
  intro i k last hi hk
  obtain ⟨k, rfl⟩ : ∃ m, k = m + 1 := ⟨k - 1, by omega⟩
  simp only [charges_households.l0]
  rw [if_neg (by omega), List.drop_of_length_le (by omega)]
  rfl
 | succ d ih =>
  intro i k last hi hk
  obtain ⟨k, rfl⟩ : ∃ m, k = m + 1 := ⟨k - 1, by omega⟩
  have hil : i < l.length := by omega
  have hrd : rd l (i : Int) = l[i] := by simp [rd, List.getD_eq_getElem?_getD, hil]
  simp only [charges_households.l0]
  rw [if_pos (by omega), if_pos (by omega), if_pos (by omega), hrd, List.drop_eq_getElem_cons hil]
  simp only [homesB]
  by_cases c1 : l[i] ≤ last
  ·rw [if_pos c1, if_pos (.inl c1)]
  ·by_cases c2 : l[i] > 64
   ·rw [if_neg c1, if_pos c2, if_pos (.inr c2)]
   ·rw [if_neg c1, if_neg c2, if_neg (by omega), show wrap64 ((i : Int) + 1) = ((i + 1 : Nat) : Int) from by unfold wrap64; omega]
    exact ih (i + 1) k _ (by omega) (by omega)
theorem homes_any (A0 : Option Addr) (c0 : Nat) (l : List Int) (b : Bool) (w : World) (hr0 : Kd.C (Kd.int .i64) w A0 l.length l) (hc0 : l.length ≤ c0) (hn : l.length ≤ 140737488355328) (h : homesB 0 l = b) :
  Calls Try.prog 35 #[.slice A0 l.length c0] w fun e w' => e = .returned (.bool b) ∧ Drawn0 w w' := by
 refine charges_households.calls (l.length + 1) A0 c0 l b w hr0 hc0 ?_
 unfold charges_households.f
 have := homes_l0 l hn l.length 0 (l.length + 1) 0 (by omega) (by omega)
 rw [show ((0 : Nat) : Int) = 0 from rfl] at this
 rw [this, List.drop_zero, h]
def billOf (h : Int) (b : S38) : S43 := ⟨h, wrap64 (Int.tdiv (wrap64 (b.f0 + b.f1)) 2), ⟨b.f0, b.f1⟩, b.f0 == b.f1⟩
def billsN (homes : List Int) (bs : List S38) (n i : Nat) : List S43 := (List.range i).foldl (fun y (j : Nat) => y.set j (billOf (rd homes j) (rd_T38 bs j))) (List.replicate n z43)
def sumN (bs : List S38) (i : Nat) : Int := (List.range i).foldl (fun s (j : Nat) => wrap64 (s + wrap64 (Int.tdiv (wrap64 ((rd_T38 bs j).f0 + (rd_T38 bs j).f1)) 2))) 0
def leastN (l : List S38) (i : Nat) : Int := (List.range i).foldl (fun s (j : Nat) => wrap64 (s + (rd_T38 l j).f0)) 0
def lowStep (c : Int) (p : List S43 × Int) (j : Nat) : List S43 × Int :=
 (p.1.set j ⟨(rd_T43 p.1 j).f0, wrap64 ((rd_T43 p.1 j).f1 - lowBy (wrap64 (p.2 - c)) (rd_T43 p.1 j).f1 (rd_T43 p.1 j).f2.f0), (rd_T43 p.1 j).f2, (rd_T43 p.1 j).f3⟩, wrap64 (p.2 - lowBy (wrap64 (p.2 - c)) (rd_T43 p.1 j).f1 (rd_T43 p.1 j).f2.f0))
def lowAll (c : Int) (js : List Nat) (p : List S43 × Int) : List S43 × Int := js.foldl (lowStep c) p
theorem lowAll_len (c : Int) (js : List Nat) : ∀ p : List S43 × Int, (lowAll c js p).1.length = p.1.length := by
 induction js with
 | nil => intro p; rfl
 | cons j js ih =>
  intro p
  show (lowAll c js (lowStep c p j)).1.length = _
  rw [ih]
  simp [lowStep]
theorem billsN_len (homes : List Int) (bs : List S38) (n i : Nat) : (billsN homes bs n i).length = n := by unfold billsN; rw [fold_len, List.length_replicate]
def shareC (c t : Int) (homes : List Int) (l : List S38) : List S43 × Int × Int :=
 if (boundsC c t l).2 = 0 then
  if homes.length ≠ l.length ∨ homesB 0 homes = false then ([], 0, 1)
  else if t < leastN l l.length then ([], 0, 30)
  else ((lowAll c (downTo l.length l.length) (billsN homes (boundsC c t l).1 l.length l.length, sumN (boundsC c t l).1 l.length)).1, wrap64 (c - (lowAll c (downTo l.length l.length) (billsN homes (boundsC c t l).1 l.length l.length, sumN (boundsC c t l).1 l.length)).2), 0)
 else ([], 0, 1)
def charges_Share.f (a0 a1 : Int) (l2 : List Int) (l3 : List S38) : Option (List S43 × Int × Int) := some (shareC a0 a1 l2 l3)
theorem boundsC_two (c t : Int) (l : List S38) : boundsC c t l = ([], 1) ∨ (boundsC c t l = (l.map (chgR c t), 0) ∧ l.length ≤ 200) := by
 unfold boundsC
 split
 ·exact .inl rfl
 ·rename_i h
  exact .inr ⟨rfl, by omega⟩
theorem postM_ret {F : Fence} {n : Nat} {P : Program} {fn : Func} {R : Ending → World → Prop} {T : Array Value} {v : Value} {w : World} (h : (results fn T).run P w = .ok v w) (hR : R (.returned v) w) : bodyPostM F n P fn R .ret { tmps := T, defers := [] } w := ⟨v, h, hR⟩
theorem postM_done {F : Fence} {n : Nat} {P : Program} {fn : Func} {R : Ending → World → Prop} {T : Array Value} {v : Value} {D : Nat} {w : World} (hD : w.heap[D]? = some (.deferred (some []))) (h : (results fn T).run P (w.putObj D (.deferred none)) = .ok v (w.putObj D (.deferred none))) (hR : R (.returned v) (w.putObj D (.deferred none))) :
  bodyPostM F n P fn R .ret { tmps := T, defers := [{ target := .collected D, args := #[] }] } w := ⟨by simp, .inl ⟨_, _, rfl, run_takeDeferred hD, v, h, hR⟩⟩
def calmQ (Q : Exit → Act → World → Prop) : Exit → Act → World → Prop
 | .panic _, _, _ => False
 | .outgrown, _, _ => False
 | e, a, w => Q e a w
theorem wp_calm {P : Program} {c : Code} {Q : Exit → Act → World → Prop} {a : Act} {w : World} (h : c.wp P (calmQ Q) a w) : c.wp P Q a w := wp_mono h (by
 intro e a w h
 cases e with
 | panic _ => exact h.elim
 | outgrown => exact h.elim
 | _ => exact h)
theorem blk_over {w w1 : World} {g g' : Nat} {t t' : TypeId} {cs cs' : Array Value} (h : w.heap[g]? = some (.cells cs t (0, 0))) (h' : w.heap[g']? = some (.cells cs' t' (0, 0))) (ht : t ≠ t') (hg : w.grownBy w1 (some g')) : w1.heap[g]? = some (.cells cs t (0, 0)) :=
 blk_grown h hg (by have := blk_ne h h' ht; simpa using this)
theorem R_overB {α : Type} {d : Kd α} {e base g t : Nat} {w w1 : World} {cs : Array Value} {v : Value} {xs : List α} (h : d.R e w base (fun _ => True) v xs) (hb : w.heap[g]? = some (.cells cs t (0, 0))) (ht : ∀ q, q ∈ e :: d.E → q ≠ t) (hg : w.grownBy w1 (some g)) : d.R e w1 base (fun _ => True) v xs :=
 Kd.R_mono (Kd.R_grown (Kd.R_types h hb ht) hg (fun k hk ek => hk.2 (by cases ek; rfl))) (fun _ _ => trivial)
theorem rd_setC (xs : List S43) (i : Int) (y : S43) (h : i.toNat < xs.length) : rd_T43 (xs.set i.toNat y) i = y := by
 simp [rd_T43, List.getD_eq_getElem?_getD, h]
theorem at_frame {F : Fence} {n : Nat} {P : Program} {c : Code} {Q : Exit → Act → World → Prop} {T : Array Value} {d : List Deferred} {w : World} (h : ∀ T0, T0 = T → c.wpIn F n P Q { tmps := T0, defers := d } w) : c.wpIn F n P Q { tmps := T, defers := d } w := h T rfl
theorem share_bad (a0 a1 : Int) (A2 : Option Addr) (c2 : Nat) (l2 : List Int) (A3 : Option Addr) (c3 : Nat) (l3 : List (S38)) (w : World) (hr2 : Kd.C (Kd.int .i64) w A2 l2.length l2) (hc2 : l2.length ≤ c2) (hr3 : Kd.C k38 w A3 l3.length l3) (hc3 : l3.length ≤ c3)
  (h : boundsC a0 a1 l3 = ([], 1) ∨ (∃ bs, boundsC a0 a1 l3 = (bs, 0) ∧ l3.length ≤ 200 ∧ (l2.length ≠ l3.length ∨ homesB 0 l2 = false))) :
  Calls Try.prog 25 #[.int .i64 a0, .int .i64 a1, .slice A2 l2.length c2, .slice A3 l3.length c3] w fun e w' => e = .returned (.tuple #[.slice none 0 0, .int .i64 0, .int .i64 1]) ∧ Below w.heap.size w w' := by
 have HR2 := Aside0.mk hr2
 have HC2 := Aside0.mk hc2
 have HR3 := Aside0.mk hr3
 have HC3 := Aside0.mk hc3
 clear hr2 hc2 hr3 hc3
 have HB := Aside0.mk (Below.refl w.heap.size w)
 rcases h with h | ⟨bs, h, h200, h'⟩
 ·have HE := Aside0.mk (show charges_Bounds.f a0 a1 l3 = some _ from congrArg some h)
  clear h
  go_enter Try.func25, Try.ntmps25
  go_wp2_with (first | ((with_reducible refine gate_dst (N := 4) rfl ?_); refine box_event ?hg (N := 4) ?hd (cs := #[.int .i64 a0]) (t := 3) ?hr ?_; (case hd => rfl); (case hg => rfl); (case hr => first | (go_simp; done) | (go_simp; rfl)); intro gc hg_C wc hbox_ hb_; have n0_ := Aside0.mk (below_step HB.out hb_); have BC := Aside0.mk hbox_; have GC := Aside0.mk (show w.heap.size ≤ gc by rw [hg_C]; exact below_size HB.out); have EC := Aside0.mk hg_C; have hcc0 : wc.cell? ⟨gc, 0, none⟩ = some (.int .i64 a0) := (blk_cell hbox_ 0).trans rfl; have hfc0 := blk_frozen hbox_ 0; clear HB hg_C hbox_ hb_; have HB := n0_; clear n0_) | (go_at_call 22; (with_reducible refine (charges_Bounds.calls a0 a1 A3 c3 l3 _ _ _ (Kd.C_below HR3.out HB.out) HC3.out HE.out).mono ?_); rintro e w2 ⟨v2, rfl, hR_, hb_⟩; have n0_ := Aside0.mk (below_step HB.out hb_); obtain ⟨Ab, cb, rfl⟩ := Kd.R_slice hR_; clear HB hb_ hR_; have HB := n0_; clear n0_))
  go_ret3
  exact ⟨rfl, HB.out⟩
 ·have HE := Aside0.mk (show charges_Bounds.f a0 a1 l3 = some _ from congrArg some h)
  by_cases hl : l2.length = l3.length
  ·have e1 : ((l2.length : Int) == (l3.length : Int)) = true := beq_iff_eq.2 (by omega)
   have e2 : ((l2.length : Int) != (l3.length : Int)) = false := by rw [bne_eq_false_iff_eq]; omega
   have hh : homesB 0 l2 = false := by
    rcases h' with h' | h'
    ·exact absurd hl h'
    ·exact h'
   have HH := Aside0.mk hh
   have HN2 := Aside0.mk (show l2.length ≤ 140737488355328 by omega)
   clear h h' hl hh h200
   go_enter Try.func25, Try.ntmps25
   go_wp2_with (first | ((with_reducible refine gate_dst (N := 4) rfl ?_); refine box_event ?hg (N := 4) ?hd (cs := #[.int .i64 a0]) (t := 3) ?hr ?_; (case hd => rfl); (case hg => rfl); (case hr => first | (go_simp; done) | (go_simp; rfl)); intro gc hg_C wc hbox_ hb_; have n0_ := Aside0.mk (below_step HB.out hb_); have BC := Aside0.mk hbox_; have GC := Aside0.mk (show w.heap.size ≤ gc by rw [hg_C]; exact below_size HB.out); have EC := Aside0.mk hg_C; have hcc0 : wc.cell? ⟨gc, 0, none⟩ = some (.int .i64 a0) := (blk_cell hbox_ 0).trans rfl; have hfc0 := blk_frozen hbox_ 0; clear HB hg_C hbox_ hb_; have HB := n0_; clear n0_) | (go_at_call 22; (with_reducible refine (charges_Bounds.calls a0 a1 A3 c3 l3 _ _ _ (Kd.C_below HR3.out HB.out) HC3.out HE.out).mono ?_); rintro e w2 ⟨v2, rfl, hR_, hb_⟩; have n0_ := Aside0.mk (below_step HB.out hb_); obtain ⟨Ab, cb, rfl⟩ := Kd.R_slice hR_; have HRB := Aside0.mk (Kd.R_lower hR_ (below_size HB.out)); have BC := Aside0.mk (blk_below BC.out hb_); replace hcc0 := (hb_.cell (World.block_lt_of_cell? _ _ hcc0)).trans hcc0; clear HB hb_ hR_; have HB := n0_; clear n0_) | (go_at_call 35; (with_reducible refine (homes_any A2 c2 l2 _ _ (Kd.C_below HR2.out HB.out) HC2.out HN2.out HH.out).mono ?_); rintro e w3 ⟨rfl, hdr⟩; have hb_ := hdr.below; have n0_ := Aside0.mk (below_step HB.out hb_); have HRB := Aside0.mk (Kd.R_below HRB.out hb_); have BC := Aside0.mk (blk_below BC.out hb_); replace hcc0 := (hb_.cell (World.block_lt_of_cell? _ _ hcc0)).trans hcc0; clear HB hb_ hdr; have HB := n0_; clear n0_))
   go_ret3
   exact ⟨rfl, HB.out⟩
  ·have e1 : ((l2.length : Int) == (l3.length : Int)) = false := beq_eq_false_iff_ne.2 (by omega)
   have e2 : ((l2.length : Int) != (l3.length : Int)) = true := by rw [bne_iff_ne]; omega
   clear h h' hl h200
   go_enter Try.func25, Try.ntmps25
   go_wp2_with (first | ((with_reducible refine gate_dst (N := 4) rfl ?_); refine box_event ?hg (N := 4) ?hd (cs := #[.int .i64 a0]) (t := 3) ?hr ?_; (case hd => rfl); (case hg => rfl); (case hr => first | (go_simp; done) | (go_simp; rfl)); intro gc hg_C wc hbox_ hb_; have n0_ := Aside0.mk (below_step HB.out hb_); have BC := Aside0.mk hbox_; have GC := Aside0.mk (show w.heap.size ≤ gc by rw [hg_C]; exact below_size HB.out); have EC := Aside0.mk hg_C; have hcc0 : wc.cell? ⟨gc, 0, none⟩ = some (.int .i64 a0) := (blk_cell hbox_ 0).trans rfl; have hfc0 := blk_frozen hbox_ 0; clear HB hg_C hbox_ hb_; have HB := n0_; clear n0_) | (go_at_call 22; (with_reducible refine (charges_Bounds.calls a0 a1 A3 c3 l3 _ _ _ (Kd.C_below HR3.out HB.out) HC3.out HE.out).mono ?_); rintro e w2 ⟨v2, rfl, hR_, hb_⟩; have n0_ := Aside0.mk (below_step HB.out hb_); obtain ⟨Ab, cb, rfl⟩ := Kd.R_slice hR_; have HRB := Aside0.mk (Kd.R_lower hR_ (below_size HB.out)); have BC := Aside0.mk (blk_below BC.out hb_); replace hcc0 := (hb_.cell (World.block_lt_of_cell? _ _ hcc0)).trans hcc0; clear HB hb_ hR_; have HB := n0_; clear n0_))
   go_ret3
   exact ⟨rfl, HB.out⟩
attribute [local go_sem] Oper.semAt_some
set_option maxHeartbeats 16000000 in
theorem share_good (a0 a1 : Int) (A2 : Option Addr) (c2 : Nat) (l2 : List Int) (A3 : Option Addr) (c3 : Nat) (l3 : List (S38)) (bs : List (S38)) (w : World) (hr2 : Kd.C (Kd.int .i64) w A2 l2.length l2) (hc2 : l2.length ≤ c2) (hr3 : Kd.C k38 w A3 l3.length l3) (hc3 : l3.length ≤ c3)
  (h200 : l3.length ≤ 200) (hb : boundsC a0 a1 l3 = (bs, 0)) (hbl : bs.length = l3.length) (hl : l2.length = l3.length) (hh : homesB 0 l2 = true) :
  Calls Try.prog 25 #[.int .i64 a0, .int .i64 a1, .slice A2 l2.length c2, .slice A3 l3.length c3] w fun e w' => Below w.heap.size w w' ∧
   ((a1 < leastN l3 l3.length ∧ e = .returned (.tuple #[.slice none 0 0, .int .i64 0, .int .i64 30])) ∨
    (¬ a1 < leastN l3 l3.length ∧ ∃ v, e = .returned (.tuple #[v, .int .i64 (wrap64 (a0 - (lowAll a0 (downTo l3.length l3.length) (billsN l2 bs l3.length l3.length, sumN bs l3.length)).2)), .int .i64 0]) ∧
     Kd.R k43 43 w' w.heap.size (fun _ => True) v (lowAll a0 (downTo l3.length l3.length) (billsN l2 bs l3.length l3.length, sumN bs l3.length)).1)) := by
 refine (callsIn_wide (n := 5)).1 ?_
 refine callsIn_of_wp_marks Try.func25 rfl trivial ?_ rfl
 simp only [Try.ntmps25, List.size_toArray, List.length_cons, List.length_nil, Nat.reduceAdd, Nat.reduceSub, Array.replicate_succ, Array.replicate_zero, List.push_toArray, List.append_toArray, List.nil_append, List.cons_append]
 refine wpIn_wide.2 (wp_calm ?_)
 have hu38 := Try.underlying38
 have hu43 := Try.underlying43
 have hu94 := Try.underlying94
 have HR2 := Aside0.mk hr2
 have HC2 := Aside0.mk hc2
 have HR3 := Aside0.mk hr3
 have HC3 := Aside0.mk hc3
 have HN2 := Aside0.mk (show l2.length ≤ 140737488355328 by omega)
 have H200 := Aside0.mk h200
 have HE := Aside0.mk (show charges_Bounds.f a0 a1 l3 = some _ from congrArg some hb)
 have HBL := Aside0.mk hbl
 have HL := Aside0.mk hl
 have HH := Aside0.mk hh
 have e1 : ((l2.length : Int) == (l3.length : Int)) = true := beq_iff_eq.2 (by omega)
 have e2 : ((l2.length : Int) != (l3.length : Int)) = false := by rw [bne_eq_false_iff_eq]; omega
 clear hr2 hc2 hr3 hc3 h200 hb hbl hl hh
 have HB := Aside0.mk (Below.refl w.heap.size w)
 go_wp2_with (first | ((with_reducible refine gate_dst (N := 4) rfl ?_); refine box_event ?hg (N := 4) ?hd (cs := #[.int .i64 a0]) (t := 3) ?hr ?_; (case hd => rfl); (case hg => rfl); (case hr => first | (go_simp; done) | (go_simp; rfl)); intro gc hg_C wc hbox_ hb_; have n0_ := Aside0.mk (below_step HB.out hb_); have BC := Aside0.mk hbox_; have GC := Aside0.mk (show w.heap.size ≤ gc by rw [hg_C]; exact below_size HB.out); have EC := Aside0.mk hg_C; have hcc0 : wc.cell? ⟨gc, 0, none⟩ = some (.int .i64 a0) := (blk_cell hbox_ 0).trans rfl; have hfc0 := blk_frozen hbox_ 0; clear HB hg_C hbox_ hb_; have HB := n0_; clear n0_) | (go_at_call 22; (with_reducible refine (charges_Bounds.calls a0 a1 A3 c3 l3 _ _ _ (Kd.C_below HR3.out HB.out) HC3.out HE.out).mono ?_); rintro e w2 ⟨v2, rfl, hR_, hb_⟩; have n0_ := Aside0.mk (below_step HB.out hb_); obtain ⟨Ab, cb, rfl⟩ := Kd.R_slice hR_; rw [HBL.out] at hR_; rw [HBL.out]; have HRB := Aside0.mk (Kd.R_lower hR_ (below_size HB.out)); have BC := Aside0.mk (blk_below BC.out hb_); replace hcc0 := (hb_.cell (World.block_lt_of_cell? _ _ hcc0)).trans hcc0; clear HB hb_ hR_; have HB := n0_; clear n0_) | (go_at_call 35; (with_reducible refine (homes_any A2 c2 l2 _ _ (Kd.C_below HR2.out HB.out) HC2.out HN2.out HH.out).mono ?_); rintro e w3 ⟨rfl, hdr⟩; have hb_ := hdr.below; have n0_ := Aside0.mk (below_step HB.out hb_); have HRB := Aside0.mk (Kd.R_below HRB.out hb_); have BC := Aside0.mk (blk_below BC.out hb_); replace hcc0 := (hb_.cell (World.block_lt_of_cell? _ _ hcc0)).trans hcc0; clear HB hb_ hdr; have HB := n0_; clear n0_) | ((with_reducible refine gate_dst (N := 44) rfl ?_); refine Kd.R_make k43 _ 94 rfl (N := 44) rfl 92 _ _ rfl (l3.length : Int) rfl rfl Try.underlying92 (.agg #[.int .i64 0, .int .i64 0, .int .i64 0, .int .i64 0, .bool false]) 40 infoB rfl (by decide) (by omega) z43 (ok := fun _ => True) (okp := fun _ => True) (k43_mkM _ _ _ z43) (fun _ hk => hk) trivial (by omega) (by have := H200.out; omega) (Below.refl _ _) (Nat.le_refl _) ?_; intro v4 w4 ho_ hb_ hg_ hnew_; rw [Int.toNat_natCast] at ho_; obtain ⟨Al, cl, rfl⟩ := Kd.R_slice ho_; rw [List.length_replicate] at ho_; rw [List.length_replicate]; have n0_ := Aside0.mk (below_step HB.out hb_); have HRL := Aside0.mk (Kd.R_lower ho_ (below_size HB.out)); have HRB := Aside0.mk (Kd.R_below HRB.out hb_); have BC := Aside0.mk (blk_below BC.out hb_); replace hcc0 := (hb_.cell (World.block_lt_of_cell? _ _ hcc0)).trans hcc0; clear HB hb_ ho_ hg_ hnew_; have HB := n0_; clear n0_) | ((with_reducible refine gate_dst (N := 13) rfl ?_); refine box_event ?hg (N := 13) ?hd (cs := #[.slice none 0 0]) (t := 92) ?hr ?_; (case hd => rfl); (case hg => rfl); (case hr => first | (go_simp; done) | (go_simp; rfl)); intro gb hg_B w5 hbox_ hb_; have n0_ := Aside0.mk (below_step HB.out hb_); have BB := Aside0.mk hbox_; have GB := Aside0.mk (show w.heap.size ≤ gb by rw [hg_B]; exact below_size HB.out); have EB := Aside0.mk hg_B; have hcB0 : w5.cell? ⟨gb, 0, none⟩ = some (.slice none 0 0) := (blk_cell hbox_ 0).trans rfl; have hfB0 := blk_frozen hbox_ 0; have HRL := Aside0.mk (Kd.R_below HRL.out hb_); have HRB := Aside0.mk (Kd.R_below HRB.out hb_); have BC := Aside0.mk (blk_below BC.out hb_); replace hcc0 := (hb_.cell (World.block_lt_of_cell? _ _ hcc0)).trans hcc0; clear HB hg_B hbox_ hb_; have HB := n0_; clear n0_) | ((with_reducible refine gate_dst (N := 14) rfl ?_); refine box_event ?hg (N := 14) ?hd (cs := #[.int .i64 0]) (t := 3) ?hr ?_; (case hd => rfl); (case hg => rfl); (case hr => first | (go_simp; done) | (go_simp; rfl)); intro gs hg_S w6 hbox_ hb_; have n0_ := Aside0.mk (below_step HB.out hb_); have BS := Aside0.mk hbox_; have GS := Aside0.mk (show w.heap.size ≤ gs by rw [hg_S]; exact below_size HB.out); have ES := Aside0.mk hg_S; have hcS0 : w6.cell? ⟨gs, 0, none⟩ = some (.int .i64 0) := (blk_cell hbox_ 0).trans rfl; have hfS0 := blk_frozen hbox_ 0; have hne1_ : (gb = gs) = False := eq_false (by have := blk_lt BB.out; omega); have hne2_ : (gs = gb) = False := eq_false (by have := blk_lt BB.out; omega); have NCS := Aside0.mk (show gc ≠ gs by have := blk_lt BC.out; omega); have HRL := Aside0.mk (Kd.R_below HRL.out hb_); have HRB := Aside0.mk (Kd.R_below HRB.out hb_); have BC := Aside0.mk (blk_below BC.out hb_); replace hcc0 := (hb_.cell (World.block_lt_of_cell? _ _ hcc0)).trans hcc0; have BB := Aside0.mk (blk_below BB.out hb_); replace hcB0 := (hb_.cell (World.block_lt_of_cell? _ _ hcB0)).trans hcB0; have hfB0 := blk_frozen BB.out 0; clear HB hg_S hbox_ hb_; have HB := n0_; clear n0_))
 obtain ⟨w7, hw7⟩ : ∃ w7, w7 = (w6.setCell ⟨gb, 0, none⟩ (.slice Al l3.length cl)).setCell ⟨gs, 0, none⟩ (.int .i64 0) := ⟨_, rfl⟩
 rw [← hw7]
 have nbs : gb ≠ gs := blk_ne BB.out BS.out (by decide)
 have ncb : gc ≠ gb := blk_ne BC.out BB.out (by decide)
 have BB7 := Aside0.mk (show w7.heap[gb]? = some (.cells #[.slice Al l3.length cl] 92 (0, 0)) by rw [hw7]; exact blk_far (blk_put BB.out 0 _ rfl) nbs _)
 have BS7 := Aside0.mk (show w7.heap[gs]? = some (.cells #[.int .i64 0] 3 (0, 0)) by rw [hw7]; exact blk_put (blk_far BS.out nbs.symm _) 0 _ rfl)
 have BC7 := Aside0.mk (show w7.heap[gc]? = some (.cells #[.int .i64 a0] 3 (0, 0)) by rw [hw7]; exact blk_far (blk_far BC.out ncb _) NCS.out _)
 have HRL7 := Aside0.mk (show Kd.R k43 94 w7 w.heap.size (fun _ => True) (.slice Al l3.length cl) (List.replicate l3.length z43) by rw [hw7]; exact Kd.R_set (Kd.R_set HRL.out BB.out (by decide) _ _) (blk_far BS.out nbs.symm _) (by decide) _ _)
 have HRB7 := Aside0.mk (show Kd.R k38 38 w7 w.heap.size (fun _ => True) (.slice Ab l3.length cb) bs by rw [hw7]; exact Kd.R_set (Kd.R_set HRB.out BB.out (by decide) _ _) (blk_far BS.out nbs.symm _) (by decide) _ _)
 have HB7 := Aside0.mk (show Below w.heap.size w w7 by rw [hw7]; exact below_set (below_set HB.out GB.out) GS.out)
 clear hne1_ hne2_ hw7 nbs ncb BB BS BC HRL HRB HB hcc0 hfc0 hcB0 hfB0 hcS0 hfS0
 go_loopg [15, 47] l3.length (fun kq v15 v47 wr => ∃ (n : Nat) (y : List S43) (s q : Int), v15 = .int .i64 q ∧ v47 = .int .i64 n ∧ Aside0 (kq + n = l3.length) ∧ Aside0 (y = billsN l2 bs l3.length n) ∧ Aside0 (s = sumN bs n) ∧ Aside0 (q = leastN l3 n) ∧ Aside0 (Kd.R k43 94 wr w.heap.size (fun _ => True) (.slice Al l3.length cl) y)
  ∧ Aside0 (wr.heap[gb]? = some (.cells #[.slice Al l3.length cl] 92 (0, 0))) ∧ Aside0 (wr.heap[gs]? = some (.cells #[.int .i64 s] 3 (0, 0))) ∧ Aside0 (wr.heap[gc]? = some (.cells #[.int .i64 a0] 3 (0, 0))) ∧ Aside0 (Kd.R k38 38 wr w.heap.size (fun _ => True) (.slice Ab l3.length cb) bs) ∧ Aside0 (Below w.heap.size w wr))
 case atStart => exact ⟨0, _, _, _, rfl, rfl, ⟨by omega⟩, ⟨rfl⟩, ⟨rfl⟩, ⟨rfl⟩, HRL7, BB7, BS7, BC7, HRB7, HB7⟩
 case round =>
  clear HRL7 BB7 BS7 BC7 HRB7 HB7
  obtain ⟨n, y, s, q, rfl, rfl, HM, HY, HS, HQ, HRL, BB, BS, BC, HRB, HB⟩ := hrel
  have HYL := Aside0.mk (show y.length = l3.length by rw [HY.out, billsN_len])
  by_cases hlt : n < l3.length
  ·obtain ⟨i, hi⟩ : ∃ i : Int, i = (n : Int) := ⟨_, rfl⟩
   rw [← hi]
   have HI2 := Aside0.mk (show 0 ≤ i ∧ i < l3.length ∧ i = (n : Int) from ⟨by omega, by omega, hi⟩)
   have d7 : decide (i < (l3.length : Int)) = true := decide_eq_true HI2.out.2.1
   have ci2 : (0 ≤ i) = True := eq_true HI2.out.1
   have ci3 : (i < l3.length) = True := eq_true HI2.out.2.1
   have ci4 : (i < l2.length) = True := eq_true (by have := HI2.out; have := HL.out; omega)
   obtain ⟨adb, eb, hx0, hx1⟩ := at_T38 (Kd.R_reads' HRB.out).2.2 i HI2.out.1 (by have := HI2.out; have := HBL.out; omega)
   subst eb
   obtain ⟨adh, eh, hxh⟩ := Kd.at_int (Kd.C_below HR2.out HB.out) i HI2.out.1 (by have := HI2.out; have := HL.out; omega)
   subst eh
   obtain ⟨adl, el, hl0, hl1⟩ := at_T38 (Kd.C_below HR3.out HB.out) i HI2.out.1 HI2.out.2.1
   subst el
   obtain ⟨go, cgo, eo, gob, gol, ogl, hogl⟩ := Kd.R_form HRL.out (by have := HI2.out; have := HYL.out; omega)
   injection eo with ea en ec
   subst ea
   subst ec
   have HGC := Aside0.mk hogl
   have HGB := Aside0.mk gob
   clear hi hlt en gob gol hogl hl1
   have hz1 : i + 1 ≤ 9223372036854775807 := by have := HI2.out; have := H200.out; omega
   have hz2 : -9223372036854775808 ≤ i + 1 := by have := HI2.out; omega
   obtain ⟨x0, hx0'⟩ : ∃ x0, x0 = (rd_T38 bs i).f0 := ⟨_, rfl⟩
   obtain ⟨x1, hx1'⟩ : ∃ x1, x1 = (rd_T38 bs i).f1 := ⟨_, rfl⟩
   obtain ⟨xh, hxh'⟩ : ∃ xh, xh = rd l2 i := ⟨_, rfl⟩
   obtain ⟨xl, hxl'⟩ : ∃ xl, xl = (rd_T38 l3 i).f0 := ⟨_, rfl⟩
   rw [← hx0'] at hx0
   rw [← hx1'] at hx1
   rw [← hxh'] at hxh
   rw [← hxl'] at hl0
   have HX := Aside0.mk (show (x0 = (rd_T38 bs i).f0 ∧ x1 = (rd_T38 bs i).f1) ∧ xh = rd l2 i ∧ xl = (rd_T38 l3 i).f0 from ⟨⟨hx0', hx1'⟩, hxh', hxl'⟩)
   clear hx0' hx1' hxh' hxl'
   have HXH := Aside0.mk hxh
   have HL0 := Aside0.mk hl0
   have HB0 := Aside0.mk (Below.refl wr.heap.size wr)
   clear hxh hl0
   go_upto_region 10 with (first | ((with_reducible refine gate_dst (N := 17) rfl ?_); refine box_event ?hg (N := 17) ?hd (cs := #[.int .i64 0, .int .i64 0]) (t := 38) ?hr ?_; (case hd => rfl); (case hg => rfl); (case hr => first | (go_simp; done) | (go_simp; rfl)); intro gx hg_X w9 hbox_ hb_; have n0_ := Aside0.mk (below_step HB0.out hb_); have BX := Aside0.mk hbox_; have GX := Aside0.mk (show wr.heap.size ≤ gx by rw [hg_X]; exact below_size HB0.out); have EX := Aside0.mk hg_X; have hcx0 : w9.cell? ⟨gx, 0, none⟩ = some (.int .i64 0) := (blk_cell hbox_ 0).trans rfl; have hfx0 := blk_frozen hbox_ 0; have hcx1 : w9.cell? ⟨gx, 1, none⟩ = some (.int .i64 0) := (blk_cell hbox_ 1).trans rfl; have hfx1 := blk_frozen hbox_ 1; clear HB0 hg_X hbox_ hb_; have HB0 := n0_; clear n0_))
   obtain ⟨w10, hw10⟩ : ∃ w10, w10 = (w9.setCell ⟨gx, 0, none⟩ (.int .i64 x0)).setCell ⟨gx, 1, none⟩ (.int .i64 x1) := ⟨_, rfl⟩
   rw [← hw10]
   have BX10 := Aside0.mk (show w10.heap[gx]? = some (.cells #[.int .i64 x0, .int .i64 x1] 38 (0, 0)) by rw [hw10]; exact blk_put2 BX.out _ _)
   have HB10 := Aside0.mk (show Below wr.heap.size wr w10 by rw [hw10]; exact below_put2 HB0.out GX.out _ _)
   clear hw10 BX HB0 hcx0 hcx1 hfx0 hfx1 hx0 hx1
   have hcx0 : w10.cell? ⟨gx, 0, none⟩ = some (.int .i64 x0) := (blk_cell BX10.out 0).trans rfl
   have hcx1 : w10.cell? ⟨gx, 1, none⟩ = some (.int .i64 x1) := (blk_cell BX10.out 1).trans rfl
   have hcb0 : w10.cell? ⟨gb, 0, none⟩ = some (.slice (some ⟨go, 0, none⟩) l3.length cl) := (blk_cell (blk_below BB.out HB10.out) 0).trans rfl
   have hch0 : w10.cell? (adh.add i.toNat) = some (.int .i64 xh) := (HB10.out.cell (World.block_lt_of_cell? _ _ HXH.out)).trans HXH.out
   have HE := Aside0.mk (bill_elem (Kd.R_below HRL.out HB10.out) i HI2.out.1 HI2.out.2.1)
   have hz0_ := HE.out.1.1
   have hz1_ := HE.out.1.2.1
   have hz2_ := HE.out.1.2.2.1
   have hz3_ := HE.out.1.2.2.2.1
   have hz4_ := HE.out.1.2.2.2.2
   have hy0_ : w10.frozen? ⟨go, i.toNat * 5, none⟩ = false := HE.out.2.1 0
   have hy1_ := HE.out.2.1 1
   have hy2_ := HE.out.2.1 2
   have hy3_ := HE.out.2.1 3
   have hy4_ := HE.out.2.1 4
   refine start_ (n := 22) (S := fun w' => w'.cell? ⟨gb, 0, none⟩ = some (.slice (some ⟨go, 0, none⟩) l3.length cl) ∧ w'.cell? (adh.add i.toNat) = some (.int .i64 xh) ∧ w'.cell? ⟨gx, 0, none⟩ = some (.int .i64 x0) ∧ w'.cell? ⟨gx, 1, none⟩ = some (.int .i64 x1)) (ds := [21]) #[n_, n_, n_, n_, n_, n_, n_, n_, n_, n_, n_, n_, n_, n_, n_, n_, n_, n_, n_, n_, n_, n_] (by kernel_rfl) rfl rfl ⟨hcb0, hch0, hcx0, hcx1⟩ (fun hHeld => ?_)
   refine pv_ 1 53 (w_ 22 2) rfl ?_
   refine pv_ 2 54 (w_ 22 6) rfl ?_
   refine pv_ 3 55 (w_ 22 14) rfl ?_
   refine pv_ 4 56 (w_ 22 30) rfl ?_
   refine pv_ 6 58 (w_ 22 94) rfl ?_
   refine pv_ 8 60 (w_ 22 350) rfl ?_
   refine pv_ 13 65 (w_ 22 8542) rfl ?_
   refine pv_ 15 67 (w_ 22 41310) rfl ?_
   refine tb_ 0 52 (w_ 22 41311) rfl hHeld (by rintro w' ⟨s0, s1, s2, s3⟩; go_simp; with_reducible rfl) ?_
   refine tb_ 5 57 (w_ 22 41343) rfl hHeld (by rintro w' ⟨s0, s1, s2, s3⟩; go_simp; with_reducible rfl) ?_
   refine tb_ 7 59 (w_ 22 41471) rfl hHeld (by rintro w' ⟨s0, s1, s2, s3⟩; go_simp; with_reducible rfl) ?_
   refine tb_ 9 61 (w_ 22 41983) rfl hHeld (by rintro w' ⟨s0, s1, s2, s3⟩; go_simp; with_reducible rfl) ?_
   refine pv_ 10 62 (w_ 22 43007) rfl ?_
   refine pv_ 11 63 (w_ 22 45055) rfl ?_
   refine tb_ 12 64 (w_ 22 49151) rfl hHeld (by rintro w' ⟨s0, s1, s2, s3⟩; go_simp; with_reducible rfl) ?_
   refine tb_ 14 66 (w_ 22 65535) rfl hHeld (by rintro w' ⟨s0, s1, s2, s3⟩; go_simp; with_reducible rfl) ?_
   refine tb_ 16 68 (w_ 22 131071) rfl hHeld (by rintro w' ⟨s0, s1, s2, s3⟩; go_simp; with_reducible rfl) ?_
   refine pv_ 17 69 (w_ 22 262143) rfl ?_
   refine pv_ 18 70 (w_ 22 524287) rfl ?_
   refine pv_ 19 71 (w_ 22 1048575) rfl ?_
   refine pv_ 20 72 (w_ 22 2097151) rfl ?_
   refine last_ (i := 21) (N := none) (w_ 22 4194303) rfl rfl (by kernel_rfl) (by decide) (fun K hK => ?_)
   refine skip_ (w1 := ?_) (by rfl) rfl ?_ ?_
   rotate_left
   ·go_simp
    rfl
   refine hK.out _ _ ?_
   clear hK K
   refine done_ (by kernel_rfl) ?_
   go_wp2_with (fail)
   obtain ⟨xc, hxc⟩ : ∃ xc, xc = wrap64 (Int.tdiv (wrap64 (x0 + x1)) 2) := ⟨_, rfl⟩
   rw [← hxc]
   obtain ⟨w11, hw11⟩ : ∃ w11, w11 = (((((w10.setCell ⟨go, i.toNat * 5, none⟩ (.int .i64 xh)).setCell ⟨go, i.toNat * 5 + 1, none⟩ (.int .i64 xc)).setCell ⟨go, i.toNat * 5 + 2, none⟩ (.int .i64 x0)).setCell ⟨go, i.toNat * 5 + 3, none⟩ (.int .i64 x1)).setCell ⟨go, i.toNat * 5 + 4, none⟩ (.bool (x0 == x1))).drew := ⟨_, rfl⟩
   rw [← hw11]
   have hP : Kd.R k43 94 w11 w.heap.size (fun _ => True) (.slice (some ⟨go, 0, none⟩) l3.length cl) (y.set i.toNat (billOf xh ⟨x0, x1⟩)) ∧ w10.grownBy w11 (some go) := by
    have h1 := HE.out.2.2.1 (billOf xh ⟨x0, x1⟩)
    rw [hw11, hxc]
    exact ⟨Kd.R_drew h1.1, grown_drew h1.2⟩
   have HXC := Aside0.mk hxc
   have HP := Aside0.mk hP
   have hog10 := blk_below HGC.out HB10.out
   have BS11 := Aside0.mk (blk_over (blk_below BS.out HB10.out) hog10 (by decide) hP.2)
   have BB11 := Aside0.mk (blk_over (blk_below BB.out HB10.out) hog10 (by decide) hP.2)
   have BC11 := Aside0.mk (blk_over (blk_below BC.out HB10.out) hog10 (by decide) hP.2)
   have HRB11 := Aside0.mk (R_overB (Kd.R_below HRB.out HB10.out) hog10 (by decide) hP.2)
   have HB11 := Aside0.mk (grown_below (below_step HB.out HB10.out) hP.2 (fun k e => by cases e; exact HGB.out))
   have HYL1 := Aside0.mk (show i.toNat < y.length by have := HI2.out; have := HYL.out; omega)
   have hce : w11.cell? ⟨go, i.toNat * 5 + 1, none⟩ = some (.int .i64 xc) := by
    have h1 := (bill_elem hP.1 i HI2.out.1 HI2.out.2.1).1.2.1
    rw [rd_setC y i _ HYL1.out] at h1
    rw [h1, HXC.out]
    rfl
   have hcs0 : w11.cell? ⟨gs, 0, none⟩ = some (.int .i64 s) := (blk_cell BS11.out 0).trans rfl
   have hcb1 : w11.cell? ⟨gb, 0, none⟩ = some (.slice (some ⟨go, 0, none⟩) l3.length cl) := (blk_cell BB11.out 0).trans rfl
   have hfs0 := blk_frozen BS11.out 0
   clear hw11 hxc hP hog10 hcx0 hcx1 hcb0 hch0 hz0_ hz1_ hz2_ hz3_ hz4_ hy0_ hy1_ hy2_ hy3_ hy4_ HE
   refine start_ (n := 9) (S := fun w' => w'.cell? ⟨gs, 0, none⟩ = some (.int .i64 s) ∧ w'.cell? ⟨gb, 0, none⟩ = some (.slice (some ⟨go, 0, none⟩) l3.length cl) ∧ w'.cell? ⟨go, i.toNat * 5 + 1, none⟩ = some (.int .i64 xc)) (ds := [8]) #[n_, n_, n_, n_, n_, n_, n_, n_, n_] (by kernel_rfl) rfl rfl ⟨hcs0, hcb1, hce⟩ (fun hHeld => ?_)
   refine pv_ 2 75 (w_ 9 4) rfl ?_
   refine tb_ 0 73 (w_ 9 5) rfl hHeld (by rintro w' ⟨s0, s1, s2⟩; go_simp; with_reducible rfl) ?_
   refine tb_ 1 74 (w_ 9 7) rfl hHeld (by rintro w' ⟨s0, s1, s2⟩; go_simp; with_reducible rfl) ?_
   refine pv_ 3 76 (w_ 9 15) rfl ?_
   refine pv_ 4 77 (w_ 9 31) rfl ?_
   refine pv_ 5 78 (w_ 9 63) rfl ?_
   refine tb_ 6 79 (w_ 9 127) rfl hHeld (by rintro w' ⟨s0, s1, s2⟩; go_simp; with_reducible rfl) ?_
   refine pv_ 7 80 (w_ 9 255) rfl ?_
   refine last_ (i := 8) (N := none) (w_ 9 511) rfl rfl (by kernel_rfl) (by decide) (fun K hK => ?_)
   refine skip_ (w1 := ?_) (by rfl) rfl ?_ ?_
   rotate_left
   ·go_simp
    rfl
   refine hK.out _ _ ?_
   clear hK K
   refine done_ (by kernel_rfl) ?_
   obtain ⟨w12, hw12⟩ : ∃ w12, w12 = (w11.setCell ⟨gs, 0, none⟩ (.int .i64 (wrap64 (s + xc)))).drew := ⟨_, rfl⟩
   rw [← hw12]
   have BS12 := Aside0.mk (show w12.heap[gs]? = some (.cells #[.int .i64 (wrap64 (s + xc))] 3 (0, 0)) by rw [hw12]; exact blk_drew (blk_put BS11.out 0 _ rfl))
   have BB12 := Aside0.mk (show w12.heap[gb]? = some (.cells #[.slice (some ⟨go, 0, none⟩) l3.length cl] 92 (0, 0)) by rw [hw12]; exact blk_drew (blk_far BB11.out (blk_ne BB11.out BS11.out (by decide)) _))
   have BC12 := Aside0.mk (show w12.heap[gc]? = some (.cells #[.int .i64 a0] 3 (0, 0)) by rw [hw12]; exact blk_drew (blk_far BC11.out NCS.out _))
   have HRL12 := Aside0.mk (show Kd.R k43 94 w12 w.heap.size (fun _ => True) (.slice (some ⟨go, 0, none⟩) l3.length cl) (y.set i.toNat (billOf xh ⟨x0, x1⟩)) by rw [hw12]; exact Kd.R_drew (Kd.R_set HP.out.1 BS11.out (by decide) _ _))
   have HRB12 := Aside0.mk (show Kd.R k38 38 w12 w.heap.size (fun _ => True) (.slice (some adb) l3.length cb) bs by rw [hw12]; exact Kd.R_drew (Kd.R_set HRB11.out BS11.out (by decide) _ _))
   have HB12 := Aside0.mk (show Below w.heap.size w w12 by rw [hw12]; exact below_drew (below_set HB11.out GS.out))
   clear hw12 hce hcs0 hcb1 hfs0
   obtain ⟨adl', el', hl0, _⟩ := at_T38 (Kd.C_below HR3.out HB12.out) i HI2.out.1 HI2.out.2.1
   cases el'
   rw [← HX.out.2.2] at hl0
   go_wp2
   go_roundg (gk - 1)
   case measure => have := HM.out; have := HI2.out; omega
   case rel =>
    have ei : i.toNat = n := by have := HI2.out; omega
    have ec : ((n : Nat) : Int) = i := by have := HI2.out; omega
    refine ⟨n + 1, _, _, _, rfl, ?_, ⟨by have := HM.out; have := HI2.out; omega⟩, ⟨?_⟩, ⟨?_⟩, ⟨?_⟩, HRL12, BB12, BS12, BC12, HRB12, HB12⟩
    ·have := HI2.out
     first | (rw [show ((n + 1 : Nat) : Int) = i + 1 from by omega]; done) | (simp; omega)
    ·unfold billsN
     rw [foldl_range_succ]
     show _ = (billsN l2 bs l3.length n).set n _
     rw [← HY.out, ei, ec, HX.out.2.1]
     congr 1
     simp only [billOf, HX.out.1.1, HX.out.1.2]
    ·unfold sumN
     rw [foldl_range_succ]
     show _ = wrap64 (sumN bs n + _)
     rw [← HS.out, ec, HXC.out, HX.out.1.1, HX.out.1.2]
    ·unfold leastN
     rw [foldl_range_succ]
     show _ = wrap64 (leastN l3 n + _)
     rw [← HQ.out, ec, HX.out.2.2]
  ·have d7 : decide ((n : Int) < (l3.length : Int)) = false := decide_eq_false (by omega)
   have d7' : decide (n < l3.length) = false := decide_eq_false hlt
   have hnl : n = l3.length := by have := HM.out; omega
   have HY2 := Aside0.mk (show y = billsN l2 bs l3.length l3.length by rw [HY.out, hnl])
   have HS2 := Aside0.mk (show s = sumN bs l3.length by rw [HS.out, hnl])
   have HQ2 := Aside0.mk (show q = leastN l3 l3.length by rw [HQ.out, hnl])
   clear hlt hnl HY HS HQ
   by_cases hq : a1 < q
   ·have dq : decide (a1 < q) = true := decide_eq_true hq
    have HLT := Aside0.mk (show a1 < leastN l3 l3.length by rw [← HQ2.out]; exact hq)
    clear hq
    go_wp2
    show bodyPostM _ _ _ _ _ .ret _ _
    exact postM_ret (results_list (rs := [.tmp 8, .tmp 9, .tmp 10]) rfl (by simp) (.tmp (.tmp (.tmp .nil)))) ⟨HB.out, .inl ⟨HLT.out, rfl⟩⟩
   have dq : decide (a1 < q) = false := decide_eq_false hq
   have HLT := Aside0.mk (show ¬ a1 < leastN l3 l3.length by rw [← HQ2.out]; exact hq)
   clear hq
   have hcb0 : wr.cell? ⟨gb, 0, none⟩ = some (.slice Al l3.length cl) := (blk_cell BB.out 0).trans rfl
   go_wp2_with (go_at_call 48; refine (backB_calls _ _ _ _).mono ?_; rintro e w' ⟨rfl, rfl⟩)
   obtain ⟨gr, hgr⟩ : ∃ gr, gr = wr.heap.size := ⟨_, rfl⟩
   rw [← hgr]
   obtain ⟨W3, hW3⟩ : ∃ W3, W3 = wr.alloc (Obj.cells #[Value.slice Al l3.length cl] 92) := ⟨_, rfl⟩
   rw [← hW3]
   have hb3 : Below wr.heap.size wr W3 := by rw [hW3]; exact below_alloc (Below.refl _ _) _
   have hs3 : W3.heap.size = gr + 1 := by rw [hW3, hgr]; simp
   have bk3 : W3.heap[gr]? = some (.cells #[.slice Al l3.length cl] 92 (0, 0)) := by rw [hW3, hgr]; exact blk_new _ _
   have hk1 : w.heap.size ≤ W3.heap.size := by have := below_size HB.out; omega
   have hk2 : gr < W3.heap.size := by omega
   clear hs3 hgr hW3
   refine (wpIn_wide (n := 4)).1 ?_
   refine at_frame (fun T0 hT0 => ?_)
   refine wpIn_rangeFunc_ownG rfl (by omega) (gf := 69) (lb := #[.pointer (some ⟨gr, 0, none⟩)]) (by subst hT0; rfl) trivial (enters_fn Try.func69 (by kernel_rfl) rfl)
    (backB_stops 3 (by omega) gr w.heap.size Al cl l3.length (by have := H200.out; omega) W3 bk3 ⟨y, HYL.out, Kd.R_below HRL.out hb3⟩) keepB_t (keepB_b hk1 hk2) (Below.refl _ _) (fun _ => rfl)
    (fun pre W => (W.heap[gb]? = some (.cells #[.slice Al l3.length cl] 92 (0, 0)) ∧ W.heap[gs]? = some (.cells #[.int .i64 (lowAll a0 (pre.map (·.1.1)) (y, s)).2] 3 (0, 0)) ∧ W.heap[gc]? = some (.cells #[.int .i64 a0] 3 (0, 0)) ∧ W.heap[gr]? = some (.cells #[.slice Al l3.length cl] 92 (0, 0)))
     ∧ Kd.R k43 94 W w.heap.size (fun _ => True) (.slice Al l3.length cl) (lowAll a0 (pre.map (·.1.1)) (y, s)).1 ∧ Below w.heap.size w W)
    (fun _ _ _ => False)
    (fun st A B row hs hg hr => by
     have hr' : ∀ r, row = some r → ∃ o : Obj, A.heap[r]? = some o ∧ o.isCells = false := fun r e => (hr r e).2
     exact ⟨⟨blk_objs hs.1.1 hg hr', blk_objs hs.1.2.1 hg hr', blk_objs hs.1.2.2.1 hg hr', blk_objs hs.1.2.2.2 hg hr'⟩, R_objs hs.2.1 hg hr', grown_below hs.2.2 hg (fun r e => by have := (hr r e).1; omega)⟩)
    (fun _ _ _ _ _ hs _ _ => hs)
    ⟨⟨blk_below BB.out hb3, blk_below BS.out hb3, blk_below BC.out hb3, bk3⟩, Kd.R_below HRL.out hb3, below_step HB.out hb3⟩
    (fun x => { tmps := ((T0.setIfInBounds 94 (.int .i64 (x.1.1 : Int))).setIfInBounds 95 (.agg #[.int .i64 x.2.f0, .int .i64 x.2.f1, .int .i64 x.2.f2.f0, .int .i64 x.2.f2.f1, .bool x.2.f3])).setIfInBounds 18 (.int .i64 (x.1.1 : Int)), defers := [] }) ?assign ?body ?done ?stop
   case assign =>
    intro lr x W K hK
    subst hT0
    simp only [sI_, s0_, sS_] at hK
    simp only [encB]
    gi_wp2
    exact hK
   case stop =>
    rintro D c pre W _ _ h _
    exact h.elim
   case body =>
    rintro lr pre x W ⟨⟨hb1, hs1, hc1, hr1⟩, hRR, hBW⟩ hlen
    subst hT0
    simp only [sI_, s0_, sS_]
    obtain ⟨p, hp⟩ : ∃ p, p = lowAll a0 (pre.map (·.1.1)) (y, s) := ⟨_, rfl⟩
    rw [← hp] at hs1 hRR
    have HPL := Aside0.mk (show p.1.length = l3.length by rw [hp, lowAll_len]; exact HYL.out)
    have HPP := Aside0.mk hp
    obtain ⟨i, hi⟩ : ∃ i : Int, i = (x.1.1 : Int) := ⟨_, rfl⟩
    rw [← hi]
    have HI2 := Aside0.mk (show 0 ≤ i ∧ i < l3.length ∧ i = (x.1.1 : Int) from ⟨by omega, by have := x.1.2; omega, hi⟩)
    obtain ⟨go, cgo, eo, gob, gol, ogl, hogl⟩ := Kd.R_form hRR (by have := HI2.out; have := HPL.out; omega)
    injection eo with ea en ec
    subst ea
    subst ec
    have HGC := Aside0.mk hogl
    have HGB := Aside0.mk gob
    have ci2 : (0 ≤ i) = True := eq_true HI2.out.1
    have ci3 : (i < l3.length) = True := eq_true HI2.out.2.1
    have hcs0 : W.cell? ⟨gs, 0, none⟩ = some (.int .i64 p.2) := (blk_cell hs1 0).trans rfl
    have hcb0 : W.cell? ⟨gb, 0, none⟩ = some (.slice (some ⟨go, 0, none⟩) l3.length cl) := (blk_cell hb1 0).trans rfl
    have hcc0 : W.cell? ⟨gc, 0, none⟩ = some (.int .i64 a0) := (blk_cell hc1 0).trans rfl
    have HB1 := Aside0.mk hb1
    have HS1 := Aside0.mk hs1
    have HC1 := Aside0.mk hc1
    have HK1 := Aside0.mk hr1
    have HRR := Aside0.mk hRR
    have HBW := Aside0.mk hBW
    have HE := Aside0.mk (bill_elem hRR i HI2.out.1 HI2.out.2.1)
    obtain ⟨bc, hbc⟩ : ∃ bc, bc = (rd_T43 p.1 i).f1 := ⟨_, rfl⟩
    obtain ⟨bl, hbl⟩ : ∃ bl, bl = (rd_T43 p.1 i).f2.f0 := ⟨_, rfl⟩
    have HBC := Aside0.mk hbc
    have HBLO := Aside0.mk hbl
    have HD1 := Aside0.mk (show W.drew.cell? ⟨go, i.toNat * 5 + 1, none⟩ = some (.int .i64 bc) by rw [hbc]; exact HE.out.1.2.1)
    have HD2 := Aside0.mk (show W.drew.cell? ⟨go, i.toNat * 5 + 2, none⟩ = some (.int .i64 bl) by rw [hbl]; exact HE.out.1.2.2.1)
    have HD3 := Aside0.mk (show W.drew.frozen? ⟨go, i.toNat * 5 + 1, none⟩ = false from HE.out.2.1 1)
    clear hb1 hs1 hc1 hr1 hRR hBW hp hi en gob gol hogl hbc hbl
    gi_wp2_with (fail)
    refine start_R (m := 10) (S := fun w' => w'.cell? ⟨gs, 0, none⟩ = some (.int .i64 p.2) ∧ w'.cell? ⟨gb, 0, none⟩ = some (.slice (some ⟨go, 0, none⟩) l3.length cl) ∧ w'.cell? ⟨gc, 0, none⟩ = some (.int .i64 a0)) (ds := [9]) (by kernel_rfl) (by rintro ⟨_, _, h⟩; exact h) #[n_, n_, n_, n_, n_, n_, n_, n_, n_, n_] (by kernel_rfl) rfl rfl ⟨hcs0, hcb0, hcc0⟩ (fun hHeld => ?_)
    refine pv_ 2 98 (w_ 10 4) rfl ?_
    refine tb_ 0 96 (w_ 10 5) rfl hHeld (by rintro w' ⟨s0, s1, s2⟩; go_simp; with_reducible rfl) ?_
    refine tb_ 1 97 (w_ 10 7) rfl hHeld (by rintro w' ⟨s0, s1, s2⟩; go_simp; with_reducible rfl) ?_
    refine pv_ 3 99 (w_ 10 15) rfl ?_
    refine tb_ 4 100 (w_ 10 31) rfl hHeld (by rintro w' ⟨s0, s1, s2⟩; go_simp; with_reducible rfl) ?_
    refine tb_ 5 101 (w_ 10 63) rfl hHeld (by rintro w' ⟨s0, s1, s2⟩; go_simp; with_reducible rfl) ?_
    refine pv_ 6 102 (w_ 10 127) rfl ?_
    refine one_ (i := 7) (N := some 103) (w_ 10 255) rfl rfl (by kernel_rfl) (by decide) (fun K hK => ?_)
    refine goes_ Try.func49 (by kernel_rfl) rfl #[.pointer (some ⟨go, i.toNat * 5, none⟩), .int .i64 (wrap64 (p.2 - a0))] (by rfl) rfl rfl (by simp only [List.map_toArray, List.map_cons, List.map_nil]; rfl) ?_
    with_reducible refine (lower_at go (i.toNat * 5) bc bl (wrap64 (p.2 - a0)) _ HD1.out HD2.out HD3.out).mono ?_
    rintro e w3 ⟨rfl, nd, hw3⟩
    refine ⟨_, rfl, ?_⟩
    have hogw : (W.drew.drewN nd).heap[go]? = _ := HGC.out
    have hP3 := (bill_elem (Kd.R_drewN (Kd.R_drew HRR.out) nd) i HI2.out.1 HI2.out.2.1).2.2.2 (wrap64 (bc - lowBy (wrap64 (p.2 - a0)) bc bl))
    rw [← hw3] at hP3
    have HP3 := Aside0.mk hP3
    have HG3 := Aside0.mk hP3.2
    have HB3 := Aside0.mk (blk_over (show (W.drew.drewN nd).heap[gb]? = _ from HB1.out) hogw (by decide) hP3.2)
    have HS3 := Aside0.mk (blk_over (show (W.drew.drewN nd).heap[gs]? = _ from HS1.out) hogw (by decide) hP3.2)
    have HC3 := Aside0.mk (blk_over (show (W.drew.drewN nd).heap[gc]? = _ from HC1.out) hogw (by decide) hP3.2)
    have HK3 := Aside0.mk (blk_over (show (W.drew.drewN nd).heap[gr]? = _ from HK1.out) hogw (by decide) hP3.2)
    have hq0_ := (blk_cell HS3.out 0).trans rfl
    have hq1_ := blk_frozen HS3.out 0
    clear hw3 hogw hP3
    refine hK.out _ _ ⟨(blk_cell HS3.out 0).trans rfl, (blk_cell HB3.out 0).trans rfl, (blk_cell HC3.out 0).trans rfl⟩ (fun hHeld => ?_)
    clear hK K
    refine norm_ (a' := ?_) ?_ ?_
    rotate_left
    ·show Act.put _ (some 103) _ = _
     simp only [Act.put, sI_, s0_, sS_, i64_w, i32_w]
     rfl
    refine pv_ 8 104 (w_ 10 511) rfl ?_
    refine last_ (i := 9) (N := none) (w_ 10 1023) rfl rfl (by kernel_rfl) (by decide) (fun K hK => ?_)
    refine skip_ (w1 := ?_) (by rfl) rfl ?_ ?_
    rotate_left
    ·go_simp
     rfl
    refine hK.out _ _ ?_
    clear hK K
    refine done_ (by kernel_rfl) ?_
    obtain ⟨w4, hw4⟩ : ∃ w4, w4 = w3.setCell ⟨gs, 0, none⟩ (.int .i64 (wrap64 (p.2 - lowBy (wrap64 (p.2 - a0)) bc bl))) := ⟨_, rfl⟩
    have HB4 := blk_far HB3.out (blk_ne HB3.out HS3.out (by decide)) (p := ⟨gs, 0, none⟩) (.int .i64 (wrap64 (p.2 - lowBy (wrap64 (p.2 - a0)) bc bl)))
    have HK4 := blk_far HK3.out (blk_ne HK3.out HS3.out (by decide)) (p := ⟨gs, 0, none⟩) (.int .i64 (wrap64 (p.2 - lowBy (wrap64 (p.2 - a0)) bc bl)))
    have HC4 := blk_far HC3.out NCS.out (p := ⟨gs, 0, none⟩) (.int .i64 (wrap64 (p.2 - lowBy (wrap64 (p.2 - a0)) bc bl)))
    have HS4 := blk_put HS3.out 0 (.int .i64 (wrap64 (p.2 - lowBy (wrap64 (p.2 - a0)) bc bl))) rfl
    have HR4 := Kd.R_set HP3.out.1 HS3.out (by decide) 0 (.int .i64 (wrap64 (p.2 - lowBy (wrap64 (p.2 - a0)) bc bl)))
    rw [← hw4] at HB4 HK4 HC4 HS4 HR4 ⊢
    have hbel : Below w.heap.size W w4 := by
     rw [hw4]
     exact ((pw_below_drewN (below_drew1 (Below.refl w.heap.size W)) nd).grown HG3.out (show w.heap.size ≤ (W.drew.drewN nd).heap.size by have h_ := below_size HBW.out; exact h_) (fun k e => by cases e; exact HGB.out)).setCell (p := ⟨gs, 0, none⟩) GS.out _
    have hko : KeepsOthers W w4 := by
     rw [hw4]
     refine (KeepsOthers.of_grownBy (grown_of_below (pw_below_drewN (below_drew1 (Below.refl W.heap.size W)) nd) none) (by simp)).trans ((KeepsOthers.of_grownBy HG3.out (fun j o ej ho => ?_)).trans (KeepsOthers.setCell _ _ _))
     cases ej
     rw [show (W.drew.drewN nd).heap[go]? = _ from HGC.out] at ho
     cases ho
     rfl
    have hst : lowAll a0 ((pre ++ [x]).map (·.1.1)) (y, s) = (p.1.set i.toNat ⟨(rd_T43 p.1 i).f0, wrap64 (bc - lowBy (wrap64 (p.2 - a0)) bc bl), (rd_T43 p.1 i).f2, (rd_T43 p.1 i).f3⟩, wrap64 (p.2 - lowBy (wrap64 (p.2 - a0)) bc bl)) := by
     have e1 : lowAll a0 ((pre ++ [x]).map (·.1.1)) (y, s) = lowStep a0 p x.1.1 := by
      rw [HPP.out, List.map_append]
      unfold lowAll
      rw [List.foldl_append]
      rfl
     rw [e1]
     unfold lowStep
     rw [← HI2.out.2.2, ← HBC.out, ← HBLO.out, show x.1.1 = i.toNat by have := HI2.out.2.2; omega]
    refine ⟨hko.from _, ⟨hbel, HK4.trans HK1.out.symm, fun _ => ⟨_, by rw [List.length_set, HPL.out], HR4⟩⟩, ⟨HB4, ?_, HC4, HK4⟩, ?_, HBW.out.trans hbel⟩
    ·rw [hst]; exact HS4
    ·rw [hst]; exact HR4
   case done =>
    rintro D ys W hD hys ⟨⟨hb1, hs1, hc1, hr1⟩, hRR, hBW⟩ hDD
    subst hT0
    obtain ⟨p, hp⟩ : ∃ p, p = lowAll a0 (ys.map (·.1.1)) (y, s) := ⟨_, rfl⟩
    rw [← hp] at hs1 hRR
    have HPL := Aside0.mk (show p.1.length = l3.length by rw [hp, lowAll_len]; exact HYL.out)
    have HPP := Aside0.mk (show p = lowAll a0 (downTo l3.length l3.length) (billsN l2 bs l3.length l3.length, sumN bs l3.length) by rw [hp, hys, HY2.out, HS2.out])
    have hcb1 : W.cell? ⟨gb, 0, none⟩ = some (.slice Al l3.length cl) := (blk_cell hb1 0).trans rfl
    have BB := Aside0.mk hb1
    have BS := Aside0.mk hs1
    have BC := Aside0.mk hc1
    have HRL := Aside0.mk hRR
    have HB := Aside0.mk hBW
    have HDD := Aside0.mk hDD
    have HDL := Aside0.mk (show w.heap.size ≤ D from Nat.le_trans hk1 hD)
    clear hb1 hs1 hc1 hr1 hRR hBW hp hDD hD hys
    go_wp2_with (first | ((with_reducible refine gate_dst (N := 107) rfl ?_); refine Kd.R_make k43 _ 43 rfl (N := 107) rfl 30 _ _ rfl (l3.length : Int) rfl rfl Try.underlying30 (.agg #[.int .i64 0, .int .i64 0, .int .i64 0, .int .i64 0, .bool false]) 40 info43 rfl (by decide) (by omega) z43 (ok := fun _ => True) (okp := fun _ => True) (k43_mkM _ _ _ z43) (fun _ hk => hk) trivial (by omega) (by have := H200.out; omega) (Below.refl _ _) (Nat.le_refl _) ?_; intro v5 w5 ho_ hb_ hg_ hnew_; rw [Int.toNat_natCast] at ho_; obtain ⟨Ao, co, rfl⟩ := Kd.R_slice ho_; rw [List.length_replicate] at ho_; rw [List.length_replicate]; have n0_ := Aside0.mk (below_step HB.out hb_); have HRO := Aside0.mk (Kd.R_lower ho_ (below_size HB.out)); have HRL := Aside0.mk (Kd.R_below HRL.out hb_); have BC := Aside0.mk (blk_below BC.out hb_); have BS := Aside0.mk (blk_below BS.out hb_); have BB := Aside0.mk (blk_below BB.out hb_); have HDD := Aside0.mk (blk_below HDD.out hb_); replace hcb1 := (hb_.cell (World.block_lt_of_cell? _ _ hcb1)).trans hcb1; clear HB hb_ ho_ hg_ hnew_; have HB := n0_; clear n0_))
    go_loopg [110] l3.length (fun kq v110 wr => ∃ (n : Nat) (z : List S43), v110 = .int .i64 n ∧ Aside0 (kq + n = l3.length) ∧ Aside0 (z = (List.range n).foldl (fun y (j : Nat) => y.set j (p.1.getD j z43)) (List.replicate l3.length z43)) ∧ Aside0 (Kd.R k43 43 wr w.heap.size (fun _ => True) (.slice Ao l3.length co) z) ∧ Aside0 (Kd.R k43 94 wr w.heap.size (fun _ => True) (.slice Al l3.length cl) p.1)
     ∧ Aside0 (wr.heap[gs]? = some (.cells #[.int .i64 p.2] 3 (0, 0))) ∧ Aside0 (wr.heap[gc]? = some (.cells #[.int .i64 a0] 3 (0, 0))) ∧ Aside0 (wr.heap[D]? = some (.deferred (some []))) ∧ Aside0 (Below w.heap.size w wr))
    case atStart => exact ⟨0, _, rfl, ⟨by omega⟩, ⟨rfl⟩, HRO, HRL, BS, BC, HDD, HB⟩
    case round =>
     clear HRO HRL BS BC HDD HB BB hcb1
     obtain ⟨n, z, rfl, HM, HZ, HRO, HRL, BS, BC, HDD, HB⟩ := hrel
     have HZL := Aside0.mk (show z.length = l3.length by rw [HZ.out, fold_len, List.length_replicate])
     by_cases hlt : n < l3.length
     ·obtain ⟨i, hi⟩ : ∃ i : Int, i = (n : Int) := ⟨_, rfl⟩
      rw [← hi]
      have HI2 := Aside0.mk (show 0 ≤ i ∧ i < l3.length ∧ i = (n : Int) from ⟨by omega, by omega, hi⟩)
      have d7 : decide (i < (l3.length : Int)) = true := decide_eq_true HI2.out.2.1
      have ci2 : (0 ≤ i) = True := eq_true HI2.out.1
      have ci3 : (i < l3.length) = True := eq_true HI2.out.2.1
      obtain ⟨adb, eb, hx0, hx1, hx2, hx3, hx4⟩ := at_T43 (Kd.R_reads' HRL.out).2.2 i HI2.out.1 (by have := HI2.out; have := HPL.out; omega)
      subst eb
      obtain ⟨go, cgo, eo, gob, gol, ogl, hogl⟩ := Kd.R_form HRO.out (by have := HI2.out; have := HZL.out; omega)
      injection eo with ea en ec
      subst ea
      subst ec
      have HGC := Aside0.mk hogl
      have HGB := Aside0.mk gob
      clear hi hlt en gob gol hogl
      have hz1 : i + 1 ≤ 9223372036854775807 := by have := HI2.out; have := H200.out; omega
      have hz2 : -9223372036854775808 ≤ i + 1 := by have := HI2.out; omega
      obtain ⟨b, hb⟩ : ∃ b, b = rd_T43 p.1 i := ⟨_, rfl⟩
      rw [← hb] at hx0 hx1 hx2 hx3 hx4
      have HBI := Aside0.mk hb
      clear hb
      have HB0 := Aside0.mk (Below.refl wr.heap.size wr)
      go_upto_region 23 with (first | ((with_reducible refine gate_dst (N := 21) rfl ?_); refine box_event ?hg (N := 21) ?hd (cs := #[.int .i64 0, .int .i64 0, .int .i64 0, .int .i64 0, .bool false]) (t := 94) ?hr ?_; (case hd => rfl); (case hg => rfl); (case hr => first | (go_simp; done) | (go_simp; rfl)); intro gx hg_X w9 hbox_ hb_; have n0_ := Aside0.mk (below_step HB0.out hb_); have BX := Aside0.mk hbox_; have GX := Aside0.mk (show wr.heap.size ≤ gx by rw [hg_X]; exact below_size HB0.out); have EX := Aside0.mk hg_X; have hcx0 : w9.cell? ⟨gx, 0, none⟩ = some (.int .i64 0) := (blk_cell hbox_ 0).trans rfl; have hfx0 := blk_frozen hbox_ 0; have hcx1 : w9.cell? ⟨gx, 1, none⟩ = some (.int .i64 0) := (blk_cell hbox_ 1).trans rfl; have hfx1 := blk_frozen hbox_ 1; have hcx2 : w9.cell? ⟨gx, 2, none⟩ = some (.int .i64 0) := (blk_cell hbox_ 2).trans rfl; have hfx2 := blk_frozen hbox_ 2; have hcx3 : w9.cell? ⟨gx, 3, none⟩ = some (.int .i64 0) := (blk_cell hbox_ 3).trans rfl; have hfx3 := blk_frozen hbox_ 3; have hcx4 : w9.cell? ⟨gx, 4, none⟩ = some (.bool false) := (blk_cell hbox_ 4).trans rfl; have hfx4 := blk_frozen hbox_ 4; clear HB0 hg_X hbox_ hb_; have HB0 := n0_; clear n0_))
      obtain ⟨w10, hw10⟩ : ∃ w10, w10 = ((((w9.setCell ⟨gx, 0, none⟩ (.int .i64 b.f0)).setCell ⟨gx, 1, none⟩ (.int .i64 b.f1)).setCell ⟨gx, 2, none⟩ (.int .i64 b.f2.f0)).setCell ⟨gx, 3, none⟩ (.int .i64 b.f2.f1)).setCell ⟨gx, 4, none⟩ (.bool b.f3) := ⟨_, rfl⟩
      rw [← hw10]
      have BX10 := Aside0.mk (show w10.heap[gx]? = some (.cells #[.int .i64 b.f0, .int .i64 b.f1, .int .i64 b.f2.f0, .int .i64 b.f2.f1, .bool b.f3] 94 (0, 0)) by rw [hw10]; exact blk_put (blk_put (blk_put (blk_put (blk_put BX.out 0 _ rfl) 1 _ rfl) 2 _ rfl) 3 _ rfl) 4 _ rfl)
      have HB10 := Aside0.mk (show Below wr.heap.size wr w10 by rw [hw10]; exact below_set (below_set (below_set (below_set (below_set HB0.out GX.out) GX.out) GX.out) GX.out) GX.out)
      clear hw10 BX HB0 hcx0 hcx1 hcx2 hcx3 hcx4 hfx0 hfx1 hfx2 hfx3 hfx4 hx0 hx1 hx2 hx3 hx4
      have hcx0 : w10.cell? ⟨gx, 0, none⟩ = some (.int .i64 b.f0) := (blk_cell BX10.out 0).trans rfl
      have hcx1 : w10.cell? ⟨gx, 1, none⟩ = some (.int .i64 b.f1) := (blk_cell BX10.out 1).trans rfl
      have hcx2 : w10.cell? ⟨gx, 2, none⟩ = some (.int .i64 b.f2.f0) := (blk_cell BX10.out 2).trans rfl
      have hcx3 : w10.cell? ⟨gx, 3, none⟩ = some (.int .i64 b.f2.f1) := (blk_cell BX10.out 3).trans rfl
      have hcx4 : w10.cell? ⟨gx, 4, none⟩ = some (.bool b.f3) := (blk_cell BX10.out 4).trans rfl
      have HE := Aside0.mk (bill_elem (Kd.R_below HRO.out HB10.out) i HI2.out.1 HI2.out.2.1)
      have hz0_ := HE.out.1.1
      have hz1_ := HE.out.1.2.1
      have hz2_ := HE.out.1.2.2.1
      have hz3_ := HE.out.1.2.2.2.1
      have hz4_ := HE.out.1.2.2.2.2
      have hy0_ : w10.frozen? ⟨go, i.toNat * 5, none⟩ = false := HE.out.2.1 0
      have hy1_ := HE.out.2.1 1
      have hy2_ := HE.out.2.1 2
      have hy3_ := HE.out.2.1 3
      have hy4_ := HE.out.2.1 4
      go_wp2
      have hP := HE.out.2.2.1 b
      have hog10 := blk_below HGC.out HB10.out
      have e1 : b = p.1.getD n z43 := by rw [HBI.out]; show p.1.getD i.toNat z43 = _; rw [show i.toNat = n by have := HI2.out; omega]
      have e2 : i.toNat = n := by have := HI2.out; omega
      go_roundg (gk - 1)
      case measure => have := HM.out; have := HI2.out; omega
      case rel =>
       refine ⟨n + 1, _, ?_, ⟨by have := HM.out; have := HI2.out; omega⟩, ⟨?_⟩, ⟨hP.1⟩, ⟨R_overB (Kd.R_below HRL.out HB10.out) hog10 (by decide) hP.2⟩, ⟨blk_over (blk_below BS.out HB10.out) hog10 (by decide) hP.2⟩, ⟨blk_over (blk_below BC.out HB10.out) hog10 (by decide) hP.2⟩, ⟨?_⟩, ⟨grown_below (below_step HB.out HB10.out) hP.2 (fun k e => by cases e; exact HGB.out)⟩⟩
       ·have := HI2.out
        first | (rw [show ((n + 1 : Nat) : Int) = i + 1 from by omega]; done) | (simp; omega)
       ·rw [foldl_range_succ, ← HZ.out, e2, e1]
       ·refine (hP.2.block _ (blk_lt (blk_below HDD.out HB10.out)) (fun e => ?_)).trans (blk_below HDD.out HB10.out)
        injection e with e
        have h1 := blk_below HDD.out HB10.out
        rw [e, hog10] at h1
        cases h1
     ·have d7 : decide ((n : Int) < (l3.length : Int)) = false := decide_eq_false (by omega)
      have d7' : decide (n < l3.length) = false := decide_eq_false hlt
      have hnl : n = l3.length := by have := HM.out; omega
      have HZ2 := Aside0.mk (show z = p.1 by
       rw [HZ.out, hnl, fold_set _ _ _ (by simp), List.drop_of_length_le (by simp), List.append_nil, ← HPL.out]
       have := fold_map z43 id p.1
       rw [List.map_id] at this
       exact this)
      have hcs0 : wr.cell? ⟨gs, 0, none⟩ = some (.int .i64 p.2) := (blk_cell BS.out 0).trans rfl
      have hcc0 : wr.cell? ⟨gc, 0, none⟩ = some (.int .i64 a0) := (blk_cell BC.out 0).trans rfl
      clear hlt hnl
      go_wp2
      go_quiet (fail)
      go_wp2
      show bodyPostM _ _ _ _ _ .ret _ _
      refine postM_done (D := D) (show _ from HDD.out) (results_list (rs := [.tmp 8, .tmp 9, .tmp 10]) rfl (by simp) (.tmp (.tmp (.tmp .nil)))) ⟨?_, .inr ⟨HLT.out, .slice Ao l3.length co, ?_, ?_⟩⟩
      ·exact (pw_below_drewN HB.out _).trans (belowK_b (w := w) (Nat.le_refl _) _ D _ _ HDL.out (show _ from HDD.out) rfl rfl)
      ·rw [← HPP.out]
       rfl
      ·rw [← HPP.out, ← HZ2.out]
       exact R_objs (Kd.R_drewN HRO.out _) (grownBy_putObj' _ D _) (fun r e => by cases e; exact ⟨_, (show _ from HDD.out), rfl⟩)
theorem charges_Share.calls (a0 a1 : Int) (A2 : Option Addr) (c2 : Nat) (l2 : List Int) (A3 : Option Addr) (c3 : Nat) (l3 : List (S38)) (r1 : List (S43)) (r2 r3 : Int) (w : World) (hr2 : Kd.C (Kd.int .i64) w A2 l2.length l2) (hc2 : l2.length ≤ c2) (hr3 : Kd.C k38 w A3 l3.length l3) (hc3 : l3.length ≤ c3) (h : charges_Share.f a0 a1 l2 l3 = some (r1, r2, r3)) :
  Calls Try.prog 25 #[.int .i64 a0, .int .i64 a1, .slice A2 l2.length c2, .slice A3 l3.length c3] w fun e w' => ∃ v0_ : Value, e = .returned (.tuple #[v0_, .int .i64 r2, .int .i64 r3]) ∧ Kd.R k43 43 w' w.heap.size (fun _ => True) v0_ r1 ∧ Below w.heap.size w w' := by
 have hC : shareC a0 a1 l2 l3 = (r1, r2, r3) := Option.some.inj h
 clear h
 rcases boundsC_two a0 a1 l3 with hb | ⟨hb, h200⟩
 ·have e : shareC a0 a1 l2 l3 = ([], 0, 1) := by unfold shareC; rw [hb]; rfl
  rw [e] at hC
  cases hC
  refine (share_bad a0 a1 A2 c2 l2 A3 c3 l3 w hr2 hc2 hr3 hc3 (.inl hb)).mono ?_
  rintro e w' ⟨rfl, hB⟩
  exact ⟨_, rfl, Kd.R_nil _ _ _ _ _, hB⟩
 ·by_cases hbad : l2.length ≠ l3.length ∨ homesB 0 l2 = false
  ·have e : shareC a0 a1 l2 l3 = ([], 0, 1) := by unfold shareC; rw [hb, if_pos rfl, if_pos hbad]
   rw [e] at hC
   cases hC
   refine (share_bad a0 a1 A2 c2 l2 A3 c3 l3 w hr2 hc2 hr3 hc3 (.inr ⟨_, hb, h200, hbad⟩)).mono ?_
   rintro e w' ⟨rfl, hB⟩
   exact ⟨_, rfl, Kd.R_nil _ _ _ _ _, hB⟩
  ·have hl : l2.length = l3.length := Classical.byContradiction fun hn => hbad (.inl hn)
   have hh : homesB 0 l2 = true := by
    cases hx : homesB 0 l2 with
    | true => rfl
    | false => exact absurd (.inr hx) hbad
   refine (share_good a0 a1 A2 c2 l2 A3 c3 l3 _ w hr2 hc2 hr3 hc3 h200 hb (by rw [List.length_map]) hl hh).mono ?_
   rintro e w' ⟨hB, ⟨hlt, rfl⟩ | ⟨hlt, v, rfl, hR⟩⟩
   ·have e : shareC a0 a1 l2 l3 = ([], 0, 30) := by unfold shareC; rw [hb, if_pos rfl, if_neg hbad, if_pos hlt]
    rw [e] at hC
    cases hC
    exact ⟨_, rfl, Kd.R_nil _ _ _ _ _, hB⟩
   ·unfold shareC at hC
    rw [hb, if_pos rfl, if_neg hbad, if_neg hlt] at hC
    cases hC
    exact ⟨_, rfl, hR, hB⟩
end
section
open Go.Proofs.YtbgchacafglcpaaH
def mapVB (m : Int → Bool) : Int → Option Value := fun k => if m k then some (.bool true) else none
theorem mapVB_set (m : Int → Bool) (k : Int) : ∀ x, setM (mapVB m) k (.bool true) x = mapVB (fun k' => if k' = k then true else m k') x := by
 intro x
 unfold setM mapVB
 by_cases h : x = k <;> simp [h]
theorem mapVB_get (m : Int → Bool) (k : Int) : (mapVB m k).getD (.bool false) = .bool (m k) := by
 unfold mapVB
 cases m k <;> rfl
def abvB (l : List S63) (n : Nat) (k : Int) : Bool := (List.range n).any (fun j => decide (k = (rd_T63 l j).f1))
theorem abvB_succ (l : List S63) (n : Nat) : (fun k' => if k' = (rd_T63 l n).f1 then true else abvB l n k') = abvB l (n + 1) := by
 funext k
 unfold abvB
 rw [List.range_succ, List.any_append]
 by_cases h : k = (rd_T63 l n).f1 <;> simp [h]
def rootsN (l : List S63) (n : Nat) : Int := (List.range n).foldl (fun s (j : Nat) => if (rd_T63 l j).f1 = 0 then wrap64 (s + 1) else s) 0
def totN (l : List S63) (bs : List S38) (n : Nat) : S38 := (List.range n).foldl (fun t (j : Nat) => if (rd_T63 l j).f1 = 0 then ⟨(rd_T38 bs j).f0, (rd_T38 bs j).f1⟩ else t) ⟨0, 0⟩
def partsN (l : List S63) (bs : List S38) (n : Nat) : List S38 := (List.range n).foldl (fun ps (j : Nat) => if abvB l l.length (rd_T63 l j).f0 = true then ps else ps ++ [⟨(rd_T38 bs j).f0, (rd_T38 bs j).f1⟩]) []
theorem partsN_len (l : List S63) (bs : List S38) (n : Nat) : (partsN l bs n).length ≤ n := by
 unfold partsN
 induction n with
 | zero => simp
 | succ n ih =>
  rw [foldl_range_succ]
  split
  ·omega
  ·rw [List.length_append]; simp; omega
def networkC (c : Int) (l : List S63) (known : List S38) (homes : List Int) : List S43 × Int × Int :=
 if (boundsR l known).2 = 0 then
  if c < 0 ∨ 1000000000 < c ∨ rootsN l l.length ≠ 1 ∨ homes.length ≠ (partsN l (boundsR l known).1 l.length).length ∨ homesB 0 homes = false then ([], 0, 1)
  else if (totN l (boundsR l known).1 l.length).f0 ≠ (totN l (boundsR l known).1 l.length).f1 ∨ (totN l (boundsR l known).1 l.length).f0 = 0 then ([], 0, 3)
  else shareC c (totN l (boundsR l known).1 l.length).f0 homes (partsN l (boundsR l known).1 l.length)
 else ([], 0, (boundsR l known).2)
def charges_Network.f (a0 : Int) (l1 : List S63) (l2 : List S38) (l3 : List Int) : Option (List S43 × Int × Int) := if l1.length ≤ 5864062014805 ∧ l2.length ≤ 140737488355328 then some (networkC a0 l1 l2 l3) else none
theorem boundsR_two (l : List S63) (r : List S38) : (boundsR l r).2 ≠ 0 ∧ (boundsR l r).1 = [] ∨ (boundsR l r).2 = 0 ∧ l.length ≤ 200 ∧ (boundsR l r).1.length = l.length := by
 unfold boundsR
 cases hk : netOk l with
 | none => exact .inl ⟨by simp, rfl⟩
 | some kids =>
  have hl : l.length ≤ 200 := by
   unfold netOk at hk
   split at hk
   ·assumption
   ·cases hk
  simp only []
  split
  ·rename_i hb
   split
   ·refine .inr ⟨rfl, hl, ?_⟩
    rw [List.length_map, boundsF_len, List.length_map]
    simp [belongsB] at hb
    exact hb.1
   ·exact .inl ⟨by simp, rfl⟩
  ·exact .inl ⟨by simp, rfl⟩
theorem R_farT {e base g : Nat} {w : World} {A : Option Addr} {n c : Nat} {xs : List S38} (h : Kd.R k38 e w base (fun _ => True) (.slice A n c) xs) (hne : some g ≠ (Value.slice A n c).ownBlock) (j : Nat) (u : Value) : Kd.R k38 e (w.setCell ⟨g, j, none⟩ u) base (fun _ => True) (.slice A n c) xs :=
 Kd.R_mono (Kd.R_far (p := ⟨g, j, none⟩) (Kd.R_far1 h rfl hne) (fun _ hk => hk.2) u) (fun _ _ => trivial)
set_option maxHeartbeats 16000000 in
theorem charges_Network.calls (a0 : Int) (A1 : Option Addr) (c1 : Nat) (l1 : List (S63)) (A2 : Option Addr) (c2 : Nat) (l2 : List (S38)) (A3 : Option Addr) (c3 : Nat) (l3 : List Int) (r1 : List (S43)) (r2 r3 : Int) (w : World) (hr1 : Kd.C k63 w A1 l1.length l1) (hc1 : l1.length ≤ c1) (hr2 : Kd.C k38 w A2 l2.length l2) (hc2 : l2.length ≤ c2) (hr3 : Kd.C (Kd.int .i64) w A3 l3.length l3) (hc3 : l3.length ≤ c3) (h : charges_Network.f a0 l1 l2 l3 = some (r1, r2, r3)) :
  Calls Try.prog 14 #[.int .i64 a0, .slice A1 l1.length c1, .slice A2 l2.length c2, .slice A3 l3.length c3] w fun e w' => ∃ v0_ : Value, e = .returned (.tuple #[v0_, .int .i64 r2, .int .i64 r3]) ∧ Kd.R k43 43 w' w.heap.size (fun _ => True) v0_ r1 ∧ Below w.heap.size w w' := by
 have hu38 := Try.underlying38
 have hu63 := Try.underlying63
 unfold charges_Network.f at h
 by_cases hsz : l1.length ≤ 5864062014805 ∧ l2.length ≤ 140737488355328
 case neg =>
  rw [if_neg hsz] at h
  cases h
 rw [if_pos hsz] at h
 injection h with h
 have HR1 := Aside0.mk hr1
 have HC1 := Aside0.mk hc1
 have HR2 := Aside0.mk hr2
 have HC2 := Aside0.mk hc2
 have HR3 := Aside0.mk hr3
 have HC3 := Aside0.mk hc3
 have HB := Aside0.mk (Below.refl w.heap.size w)
 obtain ⟨bs, hbs⟩ : ∃ bs, bs = (boundsR l1 l2).1 := ⟨_, rfl⟩
 obtain ⟨be, hbe⟩ : ∃ be, be = (boundsR l1 l2).2 := ⟨_, rfl⟩
 have HE := Aside0.mk (show flow_Bounds.f l1 l2 = some (bs, be) by unfold flow_Bounds.f; rw [if_pos hsz, hbs, hbe])
 have hmm := @run_makeMap Try.prog
 clear hr1 hc1 hr2 hc2 hr3 hc3 hsz
 rcases boundsR_two l1 l2 with ⟨hne, hnil⟩ | ⟨h0, h200, hlen⟩
 ·have e : networkC a0 l1 l2 l3 = ([], 0, be) := by unfold networkC; rw [if_neg hne, hbe]
  rw [e] at h
  injection h with e1 e2
  injection e2 with e2 e3
  subst e1
  subst e2
  subst e3
  rw [← hbe] at hne
  have n1 : (be == 0) = false := beq_eq_false_iff_ne.2 hne
  have n2 : (be != 0) = true := bne_iff_ne.2 hne
  clear e hne hnil hbs hbe
  go_enter Try.func14, Try.ntmps14
  go_wp2_with (first | (go_at_call 13; (with_reducible refine (flow_Bounds.calls A1 c1 l1 A2 c2 l2 _ _ _ (Kd.C_below HR1.out HB.out) HC1.out (Kd.C_below HR2.out HB.out) HC2.out HE.out).mono ?_); rintro e w2 ⟨v2, rfl, hR_, hb_⟩; have n0_ := Aside0.mk (below_step HB.out hb_); obtain ⟨Ab, cb, rfl⟩ := Kd.R_slice hR_; have HRB := Aside0.mk (Kd.R_lower hR_ (below_size HB.out)); clear HB hb_ hR_; have HB := n0_; clear n0_))
  go_ret3
  exact ⟨_, rfl, Kd.R_nil _ _ _ _ _, HB.out⟩
 ·rw [← hbe] at h0
  rw [← hbs] at hlen
  subst h0
  have HNET := Aside0.mk (show networkC a0 l1 l2 l3 = (if a0 < 0 ∨ 1000000000 < a0 ∨ rootsN l1 l1.length ≠ 1 ∨ l3.length ≠ (partsN l1 bs l1.length).length ∨ homesB 0 l3 = false then ([], 0, 1) else if (totN l1 bs l1.length).f0 ≠ (totN l1 bs l1.length).f1 ∨ (totN l1 bs l1.length).f0 = 0 then ([], 0, 3) else shareC a0 (totN l1 bs l1.length).f0 l3 (partsN l1 bs l1.length)) by unfold networkC; rw [if_pos hbe.symm, ← hbs])
  rw [HNET.out] at h
  have HH := Aside0.mk h
  have HBL := Aside0.mk hlen
  have H200 := Aside0.mk h200
  clear h hlen h200 HNET hbs hbe
  go_enter Try.func14, Try.ntmps14
  go_wp2_with (first | (go_at_call 13; (with_reducible refine (flow_Bounds.calls A1 c1 l1 A2 c2 l2 _ _ _ (Kd.C_below HR1.out HB.out) HC1.out (Kd.C_below HR2.out HB.out) HC2.out HE.out).mono ?_); rintro e w2 ⟨v2, rfl, hR_, hb_⟩; have n0_ := Aside0.mk (below_step HB.out hb_); obtain ⟨Ab, cb, rfl⟩ := Kd.R_slice hR_; rw [HBL.out] at hR_; rw [HBL.out]; have HRB := Aside0.mk (Kd.R_lower hR_ (below_size HB.out)); clear HB hb_ hR_; have HB := n0_; clear n0_))
  obtain ⟨gm, hgm⟩ : ∃ gm, gm = w2.heap.size := ⟨_, rfl⟩
  obtain ⟨gt, hgt⟩ : ∃ gt, gt = w2.heap.size + 1 := ⟨_, rfl⟩
  obtain ⟨w4, hw4⟩ : ∃ w4, w4 = (w2.alloc (Obj.map #[] 0)).alloc (Obj.cells #[Value.int .i64 0, Value.int .i64 0] 38) := ⟨_, rfl⟩
  rw [← hw4, ← hgt, ← hgm]
  have hb4 : Below w2.heap.size w2 w4 := by rw [hw4]; exact below_alloc (below_alloc (Below.refl _ _) _) _
  have BT4 := Aside0.mk (show w4.heap[gt]? = some (.cells #[.int .i64 0, .int .i64 0] 38 (0, 0)) by rw [hw4, hgt]; have := blk_new (w2.alloc (Obj.map #[] 0)) (.cells #[Value.int .i64 0, Value.int .i64 0] 38); rwa [World.size_alloc] at this)
  have HM4 := Aside0.mk (show MapI w4 gm (mapVB (abvB l1 0)) by rw [hw4, hgm]; exact ((MapI.made w2).alloc _).eq (fun k => rfl))
  have HRB4 := Aside0.mk (Kd.R_below HRB.out hb4)
  have HB4 := Aside0.mk (below_step HB.out hb4)
  have GT := Aside0.mk (show w.heap.size ≤ gt by have := below_size HB.out; omega)
  have GM := Aside0.mk (show w.heap.size ≤ gm by have := below_size HB.out; omega)
  have NTB := Aside0.mk (show some gt ≠ (Value.slice Ab l1.length cb).ownBlock from fun e => by have := Kd.R_lt HRB.out _ e.symm; omega)
  clear hw4 hb4 hgm hgt HRB HB
  go_loopg [14, 33] l1.length (fun kq v14 v33 wr => ∃ (n : Nat) (q : Int) (t : S38), v14 = .int .i64 q ∧ v33 = .int .i64 n ∧ Aside0 (kq + n = l1.length) ∧ Aside0 (q = rootsN l1 n) ∧ Aside0 (t = totN l1 bs n) ∧ Aside0 (MapI wr gm (mapVB (abvB l1 n))) ∧ Aside0 (wr.heap[gt]? = some (.cells #[.int .i64 t.f0, .int .i64 t.f1] 38 (0, 0)))
   ∧ Aside0 (Kd.R k38 38 wr w.heap.size (fun _ => True) (.slice Ab l1.length cb) bs) ∧ Aside0 (Below w.heap.size w wr))
  case atStart => exact ⟨0, _, ⟨0, 0⟩, rfl, rfl, ⟨by omega⟩, ⟨rfl⟩, ⟨rfl⟩, HM4, BT4, HRB4, HB4⟩
  case round =>
   clear HM4 BT4 HRB4 HB4
   obtain ⟨n, q, t, rfl, rfl, HK, HQ, HT, HM, BT, HRB, HB⟩ := hrel
   by_cases hlt : n < l1.length
   ·obtain ⟨i, hi⟩ : ∃ i : Int, i = (n : Int) := ⟨_, rfl⟩
    rw [← hi]
    have HI2 := Aside0.mk (show 0 ≤ i ∧ i < l1.length ∧ i = (n : Int) from ⟨by omega, by omega, hi⟩)
    have d7 : decide (i < (l1.length : Int)) = true := decide_eq_true HI2.out.2.1
    have ci2 : (0 ≤ i) = True := eq_true HI2.out.1
    have ci3 : (i < l1.length) = True := eq_true HI2.out.2.1
    obtain ⟨adp, ep, hx0, hx1, hx2⟩ := at_T63 (Kd.C_below HR1.out HB.out) i HI2.out.1 HI2.out.2.1
    subst ep
    obtain ⟨p, hp⟩ : ∃ p, p = rd_T63 l1 i := ⟨_, rfl⟩
    rw [← hp] at hx0 hx1 hx2
    have HP := Aside0.mk hp
    have hz1 : i + 1 ≤ 9223372036854775807 := by have := HI2.out; have := H200.out; omega
    have hz2 : -9223372036854775808 ≤ i + 1 := by have := HI2.out; omega
    clear hi hlt hp
    have HB0 := Aside0.mk (Below.refl wr.heap.size wr)
    go_upto_region 10 with (first | ((with_reducible refine gate_dst (N := 17) rfl ?_); refine box_event ?hg (N := 17) ?hd (cs := #[.int .i64 0, .int .i64 0, .int .i64 0]) (t := 63) ?hr ?_; (case hd => rfl); (case hg => rfl); (case hr => first | (go_simp; done) | (go_simp; rfl)); intro gp hg_P w9 hbox_ hb_; have n0_ := Aside0.mk (below_step HB0.out hb_); have BP := Aside0.mk hbox_; have GP := Aside0.mk (show wr.heap.size ≤ gp by rw [hg_P]; exact below_size HB0.out); have EP := Aside0.mk hg_P; have hcp0 : w9.cell? ⟨gp, 0, none⟩ = some (.int .i64 0) := (blk_cell hbox_ 0).trans rfl; have hfp0 := blk_frozen hbox_ 0; have hcp1 : w9.cell? ⟨gp, 1, none⟩ = some (.int .i64 0) := (blk_cell hbox_ 1).trans rfl; have hfp1 := blk_frozen hbox_ 1; have hcp2 : w9.cell? ⟨gp, 2, none⟩ = some (.int .i64 0) := (blk_cell hbox_ 2).trans rfl; have hfp2 := blk_frozen hbox_ 2; clear HB0 hg_P hbox_ hb_; have HB0 := n0_; clear n0_))
    obtain ⟨w10, hw10⟩ : ∃ w10, w10 = ((w9.setCell ⟨gp, 0, none⟩ (.int .i64 p.f0)).setCell ⟨gp, 1, none⟩ (.int .i64 p.f1)).setCell ⟨gp, 2, none⟩ (.int .i64 p.f2) := ⟨_, rfl⟩
    rw [← hw10]
    have BP10 := Aside0.mk (show w10.heap[gp]? = some (.cells #[.int .i64 p.f0, .int .i64 p.f1, .int .i64 p.f2] 63 (0, 0)) by rw [hw10]; exact blk_put3 BP.out _ _ _)
    have HB10 := Aside0.mk (show Below wr.heap.size wr w10 by rw [hw10]; exact below_put3 HB0.out GP.out _ _ _)
    clear hw10 BP HB0 hcp0 hcp1 hcp2 hfp0 hfp1 hfp2 hx0 hx1 hx2
    have hcp1 : w10.cell? ⟨gp, 1, none⟩ = some (.int .i64 p.f1) := (blk_cell BP10.out 1).trans rfl
    have HM10 := Aside0.mk (HM.out.below HB10.out)
    go_upto_region 11 with (first | ((with_reducible refine gate_ (op := .mapUpdate 75 (.tmp 38) (.tmp 40) (.const (.bool true))) rfl ?_); refine wpList_storeI _ rfl (.tmp 38) (.tmp 40) (.const (.bool true)) 75 rfl 3 4 Try.underlying75 Try.underlying3 gm (mapVB (abvB l1 n)) rfl HM10.out p.f1 rfl (.bool true) rfl ?_; intro w11 hm9 hg9; have HM11 := Aside0.mk (hm9.eq (mapVB_set _ _)); have HG11 := Aside0.mk hg9; clear hm9 hg9))
    have hnt : some gt ≠ some gm := HM10.out.ne_blk (blk_below BT.out HB10.out)
    have BT11 := Aside0.mk (blk_grown (blk_below BT.out HB10.out) HG11.out hnt)
    have BP11 := Aside0.mk (blk_grown BP10.out HG11.out (HM10.out.ne_blk BP10.out))
    have HRB11 := Aside0.mk (R_map (Kd.R_below HRB.out HB10.out) HM10.out HG11.out)
    have HB11 := Aside0.mk (grown_below (below_step HB.out HB10.out) HG11.out (fun k e => by cases e; exact GM.out))
    have ei : i.toNat = n := by have := HI2.out; omega
    have ec : ((n : Nat) : Int) = i := by have := HI2.out; omega
    have HN1 := Aside0.mk (show (fun k' => if k' = p.f1 then true else abvB l1 n k') = abvB l1 (n + 1) by rw [HP.out, ← ec]; exact abvB_succ l1 n)
    have HPF := Aside0.mk (show (rd_T63 l1 n).f1 = p.f1 by rw [HP.out, ec])
    have HE2 := Aside0.mk (And.intro ei ec)
    clear hnt ei ec hcp1
    have hcp1 : w11.cell? ⟨gp, 1, none⟩ = some (.int .i64 p.f1) := (blk_cell BP11.out 1).trans rfl
    by_cases hz : p.f1 = 0
    ·have z1 : (p.f1 == 0) = true := beq_iff_eq.2 hz
     have HZ := Aside0.mk hz
     obtain ⟨adb, eb, hy0, hy1⟩ := at_T38 (Kd.R_reads' HRB11.out).2.2 i HI2.out.1 (by have := HI2.out; have := HBL.out; omega)
     subst eb
     obtain ⟨y0, hy0'⟩ : ∃ y0, y0 = (rd_T38 bs i).f0 := ⟨_, rfl⟩
     obtain ⟨y1, hy1'⟩ : ∃ y1, y1 = (rd_T38 bs i).f1 := ⟨_, rfl⟩
     rw [← hy0'] at hy0
     rw [← hy1'] at hy1
     have HY := Aside0.mk (And.intro hy0' hy1')
     have hct0 : w11.cell? ⟨gt, 0, none⟩ = some (.int .i64 t.f0) := (blk_cell BT11.out 0).trans rfl
     have hct1 : w11.cell? ⟨gt, 1, none⟩ = some (.int .i64 t.f1) := (blk_cell BT11.out 1).trans rfl
     have hft0 := blk_frozen BT11.out 0
     have hft1 := blk_frozen BT11.out 1
     clear hz hy0' hy1'
     go_wp2
     go_roundg (gk - 1)
     case measure => have := HK.out; have := HI2.out; omega
     case rel =>
      refine ⟨n + 1, _, ⟨y0, y1⟩, rfl, ?_, ⟨by have := HK.out; have := HI2.out; omega⟩, ⟨?_⟩, ⟨?_⟩, ⟨?_⟩, ⟨blk_put2 BT11.out _ _⟩, ⟨R_farT (R_farT HRB11.out NTB.out 0 _) NTB.out 1 _⟩, ⟨below_put2 HB11.out GT.out _ _⟩⟩
      ·have := HI2.out
       first | (rw [show ((n + 1 : Nat) : Int) = i + 1 from by omega]; done) | (simp; omega)
      ·unfold rootsN
       rw [foldl_range_succ, HPF.out, if_pos HZ.out]
       show _ = wrap64 (rootsN l1 n + 1)
       rw [← HQ.out]
      ·unfold totN
       rw [foldl_range_succ, HPF.out, if_pos HZ.out, HE2.out.2, HY.out.1, HY.out.2]
      ·rw [← HN1.out]
       exact (HM11.out.move (Below.heap_setCell _ _ _ _ (fun e => HM11.out.ne_blk BT11.out (by rw [e])))).move (Below.heap_setCell _ _ _ _ (fun e => HM11.out.ne_blk BT11.out (by rw [e])))
    ·have z1 : (p.f1 == 0) = false := beq_eq_false_iff_ne.2 hz
     have HZ := Aside0.mk hz
     clear hz
     go_wp2
     go_roundg (gk - 1)
     case measure => have := HK.out; have := HI2.out; omega
     case rel =>
      refine ⟨n + 1, _, t, rfl, ?_, ⟨by have := HK.out; have := HI2.out; omega⟩, ⟨?_⟩, ⟨?_⟩, ⟨?_⟩, BT11, HRB11, HB11⟩
      ·have := HI2.out
       first | (rw [show ((n + 1 : Nat) : Int) = i + 1 from by omega]; done) | (simp; omega)
      ·unfold rootsN
       rw [foldl_range_succ, HPF.out, if_neg HZ.out]
       exact HQ.out
      ·unfold totN
       rw [foldl_range_succ, HPF.out, if_neg HZ.out]
       exact HT.out
      ·rw [← HN1.out]
       exact HM11.out
   ·have d7 : decide ((n : Int) < (l1.length : Int)) = false := decide_eq_false (by omega)
    have d7' : decide (n < l1.length) = false := decide_eq_false hlt
    have hnl : n = l1.length := by have := HK.out; omega
    rw [hnl] at HQ HT HM
    clear hlt hnl
    go_wp2
    have HPT0 := Aside0.mk (show Kd.R k38 38 wr w.heap.size (fun k_ => some k_ ≠ (Value.slice Ab l1.length cb).ownBlock ∧ k_ ≠ gt) (.slice none 0 0) ([] : List S38) from Kd.R_nil _ _ _ _ _)
    go_loopg [18, 53] l1.length (fun kq v18 v53 wr => ∃ (n : Nat) (ps : List S38), v53 = .int .i64 n ∧ Aside0 (kq + n = l1.length) ∧ Aside0 (ps = partsN l1 bs n) ∧ Aside0 (Kd.R k38 38 wr w.heap.size (fun k_ => some k_ ≠ (Value.slice Ab l1.length cb).ownBlock ∧ k_ ≠ gt) v18 ps) ∧ Aside0 (MapI wr gm (mapVB (abvB l1 l1.length))) ∧ Aside0 (wr.heap[gt]? = some (.cells #[.int .i64 t.f0, .int .i64 t.f1] 38 (0, 0)))
     ∧ Aside0 (Kd.R k38 38 wr w.heap.size (fun _ => True) (.slice Ab l1.length cb) bs) ∧ Aside0 (Below w.heap.size w wr))
    case atStart => exact ⟨0, _, rfl, ⟨by omega⟩, ⟨rfl⟩, HPT0, HM, BT, HRB, HB⟩
    case round =>
     clear HPT0 HM BT HRB HB
     obtain ⟨n, ps, rfl, HK, HPS, HRP, HM, BT, HRB, HB⟩ := hrel
     by_cases hlt : n < l1.length
     ·obtain ⟨i, hi⟩ : ∃ i : Int, i = (n : Int) := ⟨_, rfl⟩
      rw [← hi]
      have HI2 := Aside0.mk (show 0 ≤ i ∧ i < l1.length ∧ i = (n : Int) from ⟨by omega, by omega, hi⟩)
      have d7 : decide (i < (l1.length : Int)) = true := decide_eq_true HI2.out.2.1
      have ci2 : (0 ≤ i) = True := eq_true HI2.out.1
      have ci3 : (i < l1.length) = True := eq_true HI2.out.2.1
      obtain ⟨adp, ep, hx0, hx1, hx2⟩ := at_T63 (Kd.C_below HR1.out HB.out) i HI2.out.1 HI2.out.2.1
      subst ep
      obtain ⟨p, hp⟩ : ∃ p, p = rd_T63 l1 i := ⟨_, rfl⟩
      rw [← hp] at hx0 hx1 hx2
      have HP := Aside0.mk hp
      have hz1 : i + 1 ≤ 9223372036854775807 := by have := HI2.out; have := H200.out; omega
      have hz2 : -9223372036854775808 ≤ i + 1 := by have := HI2.out; omega
      clear hi hlt hp
      have HB0 := Aside0.mk (Below.refl wr.heap.size wr)
      go_upto_region 19 with (first | ((with_reducible refine gate_dst (N := 20) rfl ?_); refine box_event ?hg (N := 20) ?hd (cs := #[.int .i64 0, .int .i64 0, .int .i64 0]) (t := 63) ?hr ?_; (case hd => rfl); (case hg => rfl); (case hr => first | (go_simp; done) | (go_simp; rfl)); intro gp hg_P w9 hbox_ hb_; have n0_ := Aside0.mk (below_step HB0.out hb_); have BP := Aside0.mk hbox_; have GP := Aside0.mk (show wr.heap.size ≤ gp by rw [hg_P]; exact below_size HB0.out); have EP := Aside0.mk hg_P; have hcp0 : w9.cell? ⟨gp, 0, none⟩ = some (.int .i64 0) := (blk_cell hbox_ 0).trans rfl; have hfp0 := blk_frozen hbox_ 0; have hcp1 : w9.cell? ⟨gp, 1, none⟩ = some (.int .i64 0) := (blk_cell hbox_ 1).trans rfl; have hfp1 := blk_frozen hbox_ 1; have hcp2 : w9.cell? ⟨gp, 2, none⟩ = some (.int .i64 0) := (blk_cell hbox_ 2).trans rfl; have hfp2 := blk_frozen hbox_ 2; clear HB0 hg_P hbox_ hb_; have HB0 := n0_; clear n0_))
      obtain ⟨w10, hw10⟩ : ∃ w10, w10 = ((w9.setCell ⟨gp, 0, none⟩ (.int .i64 p.f0)).setCell ⟨gp, 1, none⟩ (.int .i64 p.f1)).setCell ⟨gp, 2, none⟩ (.int .i64 p.f2) := ⟨_, rfl⟩
      rw [← hw10]
      have BP10 := Aside0.mk (show w10.heap[gp]? = some (.cells #[.int .i64 p.f0, .int .i64 p.f1, .int .i64 p.f2] 63 (0, 0)) by rw [hw10]; exact blk_put3 BP.out _ _ _)
      have HB10 := Aside0.mk (show Below wr.heap.size wr w10 by rw [hw10]; exact below_put3 HB0.out GP.out _ _ _)
      clear hw10 BP HB0 hcp0 hcp1 hcp2 hfp0 hfp1 hfp2 hx0 hx1 hx2
      have hcp0 : w10.cell? ⟨gp, 0, none⟩ = some (.int .i64 p.f0) := (blk_cell BP10.out 0).trans rfl
      have HM10 := Aside0.mk (HM.out.below HB10.out)
      have BT10 := Aside0.mk (blk_below BT.out HB10.out)
      have HRB10 := Aside0.mk (Kd.R_below HRB.out HB10.out)
      have HRP10 := Aside0.mk (Kd.R_below HRP.out HB10.out)
      have HBB10 := Aside0.mk (below_step HB.out HB10.out)
      have ei : i.toNat = n := by have := HI2.out; omega
      have ec : ((n : Nat) : Int) = i := by have := HI2.out; omega
      have HPF := Aside0.mk (show (rd_T63 l1 n).f0 = p.f0 by rw [HP.out, ec])
      have HE2 := Aside0.mk (And.intro ei ec)
      clear ei ec
      cases hab : abvB l1 l1.length p.f0 with
      | true =>
       have HAB := Aside0.mk hab
       clear hab
       go_wp2_with (first | ((with_reducible refine gate_ (op := .lookup 75 (.tmp 58) (.tmp 60) false) rfl ?_); refine wpList_lookI _ rfl (.tmp 58) (.tmp 60) 75 false rfl 3 4 Try.underlying75 Try.underlying3 (Try.zeroValue4 _) gm (mapVB (abvB l1 l1.length)) rfl HM10.out p.f0 rfl ?_; rw [if_neg (by decide), mapVB_get, HAB.out]))
       go_roundg (gk - 1)
       case measure => have := HK.out; have := HI2.out; omega
       case rel =>
        refine ⟨n + 1, ps, ?_, ⟨by have := HK.out; have := HI2.out; omega⟩, ⟨?_⟩, HRP10, HM10, BT10, HRB10, HBB10⟩
        ·have := HI2.out
         first | (rw [show ((n + 1 : Nat) : Int) = i + 1 from by omega]; done) | (simp; omega)
        ·unfold partsN
         rw [foldl_range_succ, HPF.out, if_pos HAB.out]
         exact HPS.out
      | false =>
       have HAB := Aside0.mk hab
       clear hab
       obtain ⟨adb, eb, hy0, hy1⟩ := at_T38 (Kd.R_reads' HRB10.out).2.2 i HI2.out.1 (by have := HI2.out; have := HBL.out; omega)
       subst eb
       obtain ⟨y0, hy0'⟩ : ∃ y0, y0 = (rd_T38 bs i).f0 := ⟨_, rfl⟩
       obtain ⟨y1, hy1'⟩ : ∃ y1, y1 = (rd_T38 bs i).f1 := ⟨_, rfl⟩
       rw [← hy0'] at hy0
       rw [← hy1'] at hy1
       have HY := Aside0.mk (And.intro hy0' hy1')
       have HPL := Aside0.mk (show ps.length ≤ 200 by have h1 := partsN_len l1 bs n; rw [HPS.out]; have := HI2.out; have := H200.out; omega)
       clear hy0' hy1'
       go_wp2_with (first | ((with_reducible refine gate_ (op := .lookup 75 (.tmp 58) (.tmp 60) false) rfl ?_); refine wpList_lookI _ rfl (.tmp 58) (.tmp 60) 75 false rfl 3 4 Try.underlying75 Try.underlying3 (Try.zeroValue4 _) gm (mapVB (abvB l1 l1.length)) rfl HM10.out p.f0 rfl ?_; rw [if_neg (by decide), mapVB_get, HAB.out]) | ((with_reducible refine gate_builtin (b := .append) (xs := #[.tmp 63, .tmp 68]) rfl ?_); at_builtin; refine Kd.R_append k38 (w0 := w) w.heap.size rfl (.tmp 63) (.tmp 68) 23 38 (.agg #[(.int .i64 0), (.int .i64 0)]) 16 rfl Try.underlying23 info38 rfl (by decide) (by omega) _ ps (⟨y0, y1⟩ : S38) [.int .i64 y0, .int .i64 y1] (fun k_ => some k_ ≠ (Value.slice (some adb) l1.length cb).ownBlock ∧ k_ ≠ gt) (fun _ => False) rfl rfl (k38_mkM _ _ _ (⟨y0, y1⟩ : S38)) (fun _ hk => hk.elim) (fun k_ hk_ => ⟨fun e_ => by have := Kd.R_lt HRB10.out k_ e_.symm; omega, fun e_ => by have := blk_lt BT10.out; omega⟩) HRP10.out HBB10.out (below_size HBB10.out) (by have := HPL.out; omega) ?_; intro v9 w12 ho_ hb_ hg_ hat_; have HRP12 := Aside0.mk ho_; have HRB12 := Aside0.mk (Kd.R_grown2 HRB10.out rfl hg_ (fun k_ hk_ => (HRP10.out.1 k_ hk_).1)); have BT12 := Aside0.mk (blk_grown BT10.out hg_ (fun e_ => (HRP10.out.1 gt e_.symm).2 rfl)); have HM12 := Aside0.mk (HM10.out.kept hg_ (HM10.out.ne_row HRP10.out)); have HBB12 := Aside0.mk hb_; clear ho_ hb_ hg_ hat_))
       go_roundg (gk - 1)
       case measure => have := HK.out; have := HI2.out; omega
       case rel =>
        refine ⟨n + 1, _, ?_, ⟨by have := HK.out; have := HI2.out; omega⟩, ⟨?_⟩, HRP12, HM12, BT12, HRB12, HBB12⟩
        ·have := HI2.out
         first | (rw [show ((n + 1 : Nat) : Int) = i + 1 from by omega]; done) | (simp; omega)
        ·unfold partsN
         rw [foldl_range_succ, HPF.out, if_neg (by rw [HAB.out]; decide), HE2.out.2, HY.out.1, HY.out.2]
         show _ = partsN l1 bs n ++ _
         rw [← HPS.out]
     ·have d7 : decide ((n : Int) < (l1.length : Int)) = false := decide_eq_false (by omega)
      have d7' : decide (n < l1.length) = false := decide_eq_false hlt
      have hnl : n = l1.length := by have := HK.out; omega
      rw [hnl] at HPS
      clear hlt hnl
      obtain ⟨Ap, cp, ep⟩ := Kd.R_slice HRP.out
      subst ep
      have hct0 : wr.cell? ⟨gt, 0, none⟩ = some (.int .i64 t.f0) := (blk_cell BT.out 0).trans rfl
      have hct1 : wr.cell? ⟨gt, 1, none⟩ = some (.int .i64 t.f1) := (blk_cell BT.out 1).trans rfl
      have HH2 := HH.out
      rw [← HQ.out, ← HT.out, ← HPS.out] at HH2
      by_cases b1 : a0 < 0
      ·rw [if_pos (.inl b1)] at HH2
       cases HH2
       have e1 : decide (a0 < 0) = true := decide_eq_true b1
       clear b1
       go_wp2
       go_ret3
       exact ⟨_, rfl, Kd.R_nil _ _ _ _ _, HB.out⟩
      have e1 : decide (a0 < 0) = false := decide_eq_false b1
      by_cases b2 : 1000000000 < a0
      ·rw [if_pos (.inr (.inl b2))] at HH2
       cases HH2
       have e2 : decide (1000000000 < a0) = true := decide_eq_true b2
       clear b1 b2
       go_wp2
       go_ret3
       exact ⟨_, rfl, Kd.R_nil _ _ _ _ _, HB.out⟩
      have e2 : decide (1000000000 < a0) = false := decide_eq_false b2
      by_cases b3 : q = 1
      case neg =>
       rw [if_pos (.inr (.inr (.inl b3)))] at HH2
       cases HH2
       have e3 : (q == 1) = false := beq_eq_false_iff_ne.2 b3
       have e3' : (q != 1) = true := bne_iff_ne.2 b3
       clear b1 b2 b3
       go_wp2
       go_ret3
       exact ⟨_, rfl, Kd.R_nil _ _ _ _ _, HB.out⟩
      have e3 : (q == 1) = true := beq_iff_eq.2 b3
      have e3' : (q != 1) = false := by rw [bne_eq_false_iff_eq]; exact b3
      by_cases b4 : l3.length = ps.length
      case neg =>
       rw [if_pos (.inr (.inr (.inr (.inl b4))))] at HH2
       cases HH2
       have e4 : ((l3.length : Int) == (ps.length : Int)) = false := beq_eq_false_iff_ne.2 (by omega)
       have e4' : ((l3.length : Int) != (ps.length : Int)) = true := by rw [bne_iff_ne]; omega
       clear b1 b2 b3 b4
       go_wp2
       go_ret3
       exact ⟨_, rfl, Kd.R_nil _ _ _ _ _, HB.out⟩
      have e4 : ((l3.length : Int) == (ps.length : Int)) = true := beq_iff_eq.2 (by omega)
      have e4' : ((l3.length : Int) != (ps.length : Int)) = false := by rw [bne_eq_false_iff_eq]; omega
      have HN3 := Aside0.mk (show l3.length ≤ 140737488355328 by have h1 := partsN_len l1 bs l1.length; rw [← HPS.out] at h1; have := H200.out; omega)
      cases hh : homesB 0 l3 with
      | false =>
       rw [if_pos (.inr (.inr (.inr (.inr hh))))] at HH2
       cases HH2
       have HHO := Aside0.mk hh
       clear b1 b2 b3 b4 hh
       go_wp2_with (first | (go_at_call 35; (with_reducible refine (homes_any A3 c3 l3 _ _ (Kd.C_below HR3.out HB.out) HC3.out HN3.out HHO.out).mono ?_); rintro e w13 ⟨rfl, hdr⟩; have hb_ := hdr.below; have n0_ := Aside0.mk (below_step HB.out hb_); have HRP := Aside0.mk (Kd.R_below HRP.out hb_); replace hct0 := (hb_.cell (World.block_lt_of_cell? _ _ hct0)).trans hct0; replace hct1 := (hb_.cell (World.block_lt_of_cell? _ _ hct1)).trans hct1; clear HB hb_ hdr; have HB := n0_; clear n0_))
       go_ret3
       exact ⟨_, rfl, Kd.R_nil _ _ _ _ _, HB.out⟩
      | true =>
      rw [if_neg (by rw [hh]; rintro (h_ | h_ | h_ | h_ | h_) <;> first | exact absurd h_ (by assumption) | exact h_ b3 | exact h_ b4 | cases h_)] at HH2
      have HHO := Aside0.mk hh
      clear b1 b2 b3 b4 hh
      by_cases b5 : t.f0 = t.f1
      case neg =>
       rw [if_pos (.inl b5)] at HH2
       cases HH2
       have e5 : (t.f0 == t.f1) = false := beq_eq_false_iff_ne.2 b5
       have e5' : (t.f0 != t.f1) = true := bne_iff_ne.2 b5
       clear b5
       go_wp2_with (first | (go_at_call 35; (with_reducible refine (homes_any A3 c3 l3 _ _ (Kd.C_below HR3.out HB.out) HC3.out HN3.out HHO.out).mono ?_); rintro e w13 ⟨rfl, hdr⟩; have hb_ := hdr.below; have n0_ := Aside0.mk (below_step HB.out hb_); have HRP := Aside0.mk (Kd.R_below HRP.out hb_); replace hct0 := (hb_.cell (World.block_lt_of_cell? _ _ hct0)).trans hct0; replace hct1 := (hb_.cell (World.block_lt_of_cell? _ _ hct1)).trans hct1; clear HB hb_ hdr; have HB := n0_; clear n0_))
       go_ret3
       exact ⟨_, rfl, Kd.R_nil _ _ _ _ _, HB.out⟩
      have e5 : (t.f0 == t.f1) = true := beq_iff_eq.2 b5
      have e5' : (t.f0 != t.f1) = false := by rw [bne_eq_false_iff_eq]; exact b5
      by_cases b6 : t.f0 = 0
      ·rw [if_pos (.inr b6)] at HH2
       cases HH2
       have e6 : (t.f0 == 0) = true := beq_iff_eq.2 b6
       clear b5 b6
       go_wp2_with (first | (go_at_call 35; (with_reducible refine (homes_any A3 c3 l3 _ _ (Kd.C_below HR3.out HB.out) HC3.out HN3.out HHO.out).mono ?_); rintro e w13 ⟨rfl, hdr⟩; have hb_ := hdr.below; have n0_ := Aside0.mk (below_step HB.out hb_); have HRP := Aside0.mk (Kd.R_below HRP.out hb_); replace hct0 := (hb_.cell (World.block_lt_of_cell? _ _ hct0)).trans hct0; replace hct1 := (hb_.cell (World.block_lt_of_cell? _ _ hct1)).trans hct1; clear HB hb_ hdr; have HB := n0_; clear n0_))
       go_ret3
       exact ⟨_, rfl, Kd.R_nil _ _ _ _ _, HB.out⟩
      have e6 : (t.f0 == 0) = false := beq_eq_false_iff_ne.2 b6
      rw [if_neg (fun h_ => h_.elim (fun x_ => x_ b5) b6)] at HH2
      have HSH := Aside0.mk (show charges_Share.f a0 t.f0 l3 ps = some (r1, r2, r3) from congrArg some HH2)
      clear b5 b6 HH2
      go_wp2_with (first | (go_at_call 35; (with_reducible refine (homes_any A3 c3 l3 _ _ (Kd.C_below HR3.out HB.out) HC3.out HN3.out HHO.out).mono ?_); rintro e w13 ⟨rfl, hdr⟩; have hb_ := hdr.below; have n0_ := Aside0.mk (below_step HB.out hb_); have HRP := Aside0.mk (Kd.R_below HRP.out hb_); replace hct0 := (hb_.cell (World.block_lt_of_cell? _ _ hct0)).trans hct0; replace hct1 := (hb_.cell (World.block_lt_of_cell? _ _ hct1)).trans hct1; clear HB hb_ hdr; have HB := n0_; clear n0_) | (go_at_call 25; (with_reducible refine (charges_Share.calls a0 t.f0 A3 c3 l3 Ap cp ps _ _ _ _ (Kd.C_below HR3.out HB.out) HC3.out (Kd.R_reads' HRP.out).2.2 (Kd.R_reads' HRP.out).2.1 HSH.out).mono ?_); rintro e w14 ⟨v14, rfl, hR_, hb_⟩; have n0_ := Aside0.mk (below_step HB.out hb_); have HRS := Aside0.mk (Kd.R_lower hR_ (below_size HB.out)); clear HB hb_ hR_; have HB := n0_; clear n0_))
      go_ret3
      exact ⟨_, rfl, HRS.out, HB.out⟩
end
section
theorem eqA38 (d : Nat) (w : World) (x0 y0 : Int) (x1 y1 : Int) :
  (Op.equalIn (d + 2) 38 (.agg #[.int .i64 x0, .int .i64 x1]) (.agg #[.int .i64 y0, .int .i64 y1])).run Try.prog w = .ok (x0 == y0 && (x1 == y1)) w := by
 refine eqA_of Try.underlying38 (by kernel_rfl) ?_
 refine eqf_cons (by rfl) (by go_simp; rfl) (by go_simp; rfl) (by go_simp) ?_
 exact eqf_last (by rfl) (by go_simp; rfl) (by go_simp; rfl) (by go_simp)
end
section
theorem eqA43 (d : Nat) (w : World) (x0 y0 : Int) (x1 y1 : Int) (x2 y2 : Int) (x3 y3 : Int) (x4 y4 : Bool) :
  (Op.equalIn (d + 3) 43 (.agg #[.int .i64 x0, .int .i64 x1, .int .i64 x2, .int .i64 x3, .bool x4]) (.agg #[.int .i64 y0, .int .i64 y1, .int .i64 y2, .int .i64 y3, .bool y4])).run Try.prog w = .ok (x0 == y0 && (x1 == y1 && ((x2 == y2 && (x3 == y3)) && (x4 == y4)))) w := by
 refine eqA_of Try.underlying43 (by kernel_rfl) ?_
 refine eqf_cons (by rfl) (by go_simp; rfl) (by go_simp; rfl) (by go_simp) ?_
 refine eqf_cons (by rfl) (by go_simp; rfl) (by go_simp; rfl) (by go_simp) ?_
 refine eqf_cons (by rfl) (by go_simp) (by go_simp) (eqA38 (d + 0) w _ _ _ _) ?_
 exact eqf_last (by rfl) (by go_simp; rfl) (by go_simp; rfl) (by go_simp)
end
section
attribute [local go_sem high] eqA43
def cohousingref29_Same.l0 : Nat → List (S43) → List (S43) → Int → Option (Bool)
 | 0, _, _, _ => none
 | k + 1, x0, x1, x5 => if x5 < (x0.length : Int) then (if 0 ≤ x5 then (if x5 < (x1.length : Int) then (if (!(((rd_T43 x0 x5).f0) == ((rd_T43 x1 x5).f0)) || (!(((rd_T43 x0 x5).f1) == ((rd_T43 x1 x5).f1)) || ((!(((rd_T43 x0 x5).f2.f0) == ((rd_T43 x1 x5).f2.f0)) || (!(((rd_T43 x0 x5).f2.f1) == ((rd_T43 x1 x5).f2.f1)))) || (!(((rd_T43 x0 x5).f3) == ((rd_T43 x1 x5).f3)))))) = true then (some false) else (cohousingref29_Same.l0 k x0 x1 (wrap64 (x5 + 1)))) else (none)) else (none)) else (some true)
def cohousingref29_Same.f (k : Nat) (l0 : List (S43)) (l1 : List (S43)) : Option (Bool) := if (l0.length : Int) = (l1.length : Int) then (cohousingref29_Same.l0 k l0 l1 0) else (some false)
theorem cohousingref29_Same.mono_l : ∀ k, (∀ y0 y1 y2, LeO (cohousingref29_Same.l0 k y0 y1 y2) (cohousingref29_Same.l0 (k + 1) y0 y1 y2))
 | 0 => fun _ _ _ r h => by simp [cohousingref29_Same.l0] at h
 | k + 1 => by
  have ih0 := cohousingref29_Same.mono_l k
  ·intro y0 y1 y2
   unfold cohousingref29_Same.l0
   repeat' first
   | (with_reducible exact ih0 _ _ _)
   | (with_reducible exact LeO.refl _)
   | (with_reducible exact LeO.none _)
   | (with_reducible refine LeO.ite ?_ ?_)
   | (with_reducible refine LeO.bind ?_ (fun _ => ?_))
   | exact ih0 _ _ _
   | exact LeO.none _
   | refine LeO.ite ?_ ?_
   | refine LeO.bind ?_ (fun _ => ?_)
theorem cohousingref29_Same.mono : ∀ a0 a1 k, LeO (cohousingref29_Same.f k a0 a1) (cohousingref29_Same.f (k + 1) a0 a1) := by
 intro a0 a1 k
 have ih0 := cohousingref29_Same.mono_l k
 unfold cohousingref29_Same.f
 repeat' first
   | (with_reducible exact ih0 _ _ _)
   | (with_reducible exact LeO.refl _)
   | (with_reducible exact LeO.none _)
   | (with_reducible refine LeO.ite ?_ ?_)
   | (with_reducible refine LeO.bind ?_ (fun _ => ?_))
   | exact ih0 _ _ _
   | exact LeO.none _
   | refine LeO.ite ?_ ?_
   | refine LeO.bind ?_ (fun _ => ?_)
theorem cohousingref29_Same.calls (k : Nat) (A0 : Option Addr) (c0 : Nat) (l0 : List (S43)) (A1 : Option Addr) (c1 : Nat) (l1 : List (S43)) (r : Bool) (w : World) (hr0 : Kd.C k43 w A0 l0.length l0) (hc0 : l0.length ≤ c0) (hr1 : Kd.C k43 w A1 l1.length l1) (hc1 : l1.length ≤ c1) (h : cohousingref29_Same.f k l0 l1 = some r) :
  Calls Try.prog 27 #[.slice A0 l0.length c0, .slice A1 l1.length c1] w fun e w' => e = .returned (.bool r) ∧ Drawn0 w w' := by
 have hu43 := Try.underlying43
 have HR0 := Aside0.mk hr0
 have HC0 := Aside0.mk hc0
 clear hr0 hc0
 have HR1 := Aside0.mk hr1
 have HC1 := Aside0.mk hc1
 clear hr1 hc1
 have H : (if (l0.length : Int) = (l1.length : Int) then (cohousingref29_Same.l0 k l0 l1 0) else (some false)) = some r := h
 clear h
 by_cases c3 : (l0.length : Int) = (l1.length : Int)
 ·rw [if_pos c3] at H
  have c3b0 : ((l0.length : Int) == (l1.length : Int)) = true := beq_iff_eq.mpr c3
  have c3b1 : ((l0.length : Int) != (l1.length : Int)) = false := bne_eq_false_iff_eq.mpr c3
  have c3b2 : (l0.length == l1.length) = true := by first | simpa using c3 | (simp at c3 ⊢; omega)
  clear c3
  have H' := Aside0.mk H
  clear H
  go_enter Try.func27, Try.ntmps27
  go_wp2
  repeat (go_quiet (fail); try go_wp2)
  go_loopg [5] k (fun kq v5 w' => ∃ (x5_1 : Int), v5 = .int .i64 x5_1 ∧ Aside0 (cohousingref29_Same.l0 kq l0 l1 x5_1 = some r) ∧ Aside0 (kq ≤ k) ∧ Drawn0 w w')
  case atStart => exact ⟨(0), sd_, H', ⟨Nat.le_refl _⟩, by repeat (first | exact Drawn0.refl _ | apply Drawn0.step)⟩
  case round =>
   clear H'
   try clear c1
   try clear c2
   try clear p2
   try clear c3
   try clear c3b0
   try clear c3b1
   try clear c3b2
   obtain ⟨x5_1, rfl, HA, HK1, ⟨m1, rfl⟩⟩ := hrel
   cases gk with
   | zero => exact absurd HA.out (by simp [cohousingref29_Same.l0])
   | succ k1 =>
    have H := HA.out
    clear HA
    simp only [cohousingref29_Same.l0] at H
    by_cases c4 : x5_1 < (l0.length : Int)
    ·rw [if_pos c4] at H
     have c4b0 : decide (x5_1 < (l0.length : Int)) = true := decide_eq_true c4
     clear c4
     by_cases c5 : 0 ≤ x5_1
     ·rw [if_pos c5] at H
      have c5b0 : decide (0 ≤ x5_1) = true := decide_eq_true c5
      clear c5
      by_cases c6 : x5_1 < (l1.length : Int)
      ·rw [if_pos c6] at H
       have c6b0 : decide (x5_1 < (l1.length : Int)) = true := decide_eq_true c6
       clear c6
       by_cases c7 : (!(((rd_T43 l0 x5_1).f0) == ((rd_T43 l1 x5_1).f0)) || (!(((rd_T43 l0 x5_1).f1) == ((rd_T43 l1 x5_1).f1)) || ((!(((rd_T43 l0 x5_1).f2.f0) == ((rd_T43 l1 x5_1).f2.f0)) || (!(((rd_T43 l0 x5_1).f2.f1) == ((rd_T43 l1 x5_1).f2.f1)))) || (!(((rd_T43 l0 x5_1).f3) == ((rd_T43 l1 x5_1).f3)))))) = true
       ·rw [if_pos c7] at H
        have c7b0 : (!(((rd_T43 l0 x5_1).f0) == ((rd_T43 l1 x5_1).f0)) || (!(((rd_T43 l0 x5_1).f1) == ((rd_T43 l1 x5_1).f1)) || ((!(((rd_T43 l0 x5_1).f2.f0) == ((rd_T43 l1 x5_1).f2.f0)) || (!(((rd_T43 l0 x5_1).f2.f1) == ((rd_T43 l1 x5_1).f2.f1)))) || (!(((rd_T43 l0 x5_1).f3) == ((rd_T43 l1 x5_1).f3)))))) = true := c7
        clear c7
        obtain rfl := Option.some.inj H
        have p133 : 0 ≤ (x5_1 : Int) := od_
        have q133 : x5_1 < (l0.length : Int) := od_
        obtain ⟨ad133, e133, hx133_0, hx133_1, hx133_2, hx133_3, hx133_4⟩ := at_T43 HR0.out x5_1 p133 q133
        cases e133
        replace p133 := eq_true p133
        replace q133 := eq_true q133
        have p134 : 0 ≤ (x5_1 : Int) := od_
        have q134 : x5_1 < (l1.length : Int) := od_
        obtain ⟨ad134, e134, hx134_0, hx134_1, hx134_2, hx134_3, hx134_4⟩ := at_T43 HR1.out x5_1 p134 q134
        cases e134
        replace p134 := eq_true p134
        replace q134 := eq_true q134
        go_wp2
        repeat (go_quiet (fail); try go_wp2)
        go_ret
        exact ⟨by first | rfl | (simp; done) | (simp [*]; done), by repeat (first | exact Drawn0.refl _ | apply Drawn0.step)⟩
       ·rw [if_neg c7] at H
        have c7b0 : (!(((rd_T43 l0 x5_1).f0) == ((rd_T43 l1 x5_1).f0)) || (!(((rd_T43 l0 x5_1).f1) == ((rd_T43 l1 x5_1).f1)) || ((!(((rd_T43 l0 x5_1).f2.f0) == ((rd_T43 l1 x5_1).f2.f0)) || (!(((rd_T43 l0 x5_1).f2.f1) == ((rd_T43 l1 x5_1).f2.f1)))) || (!(((rd_T43 l0 x5_1).f3) == ((rd_T43 l1 x5_1).f3)))))) = false := by simpa using c7
        clear c7
        have H' := Aside0.mk H
        clear H
        have p133 : 0 ≤ (x5_1 : Int) := od_
        have q133 : x5_1 < (l0.length : Int) := od_
        obtain ⟨ad133, e133, hx133_0, hx133_1, hx133_2, hx133_3, hx133_4⟩ := at_T43 HR0.out x5_1 p133 q133
        cases e133
        replace p133 := eq_true p133
        replace q133 := eq_true q133
        have p134 : 0 ≤ (x5_1 : Int) := od_
        have q134 : x5_1 < (l1.length : Int) := od_
        obtain ⟨ad134, e134, hx134_0, hx134_1, hx134_2, hx134_3, hx134_4⟩ := at_T43 HR1.out x5_1 p134 q134
        cases e134
        replace p134 := eq_true p134
        replace q134 := eq_true q134
        go_wp2
        repeat (go_quiet (fail); try go_wp2)
        go_roundg k1
        case measure => have := HK1.out; omega
        case rel => exact ⟨(wrap64 (x5_1 + 1)), sd_, H', ⟨by have := HK1.out; omega⟩, by repeat (first | exact Drawn0.refl _ | apply Drawn0.step)⟩
      ·rw [if_neg c6] at H
       exact absurd H (by simp)
     ·rw [if_neg c5] at H
      exact absurd H (by simp)
    ·rw [if_neg c4] at H
     have c4b0 : decide (x5_1 < (l0.length : Int)) = false := decide_eq_false c4
     clear c4
     obtain rfl := Option.some.inj H
     go_wp2
     repeat (go_quiet (fail); try go_wp2)
     go_ret
     exact ⟨by first | rfl | (simp; done) | (simp [*]; done), by repeat (first | exact Drawn0.refl _ | apply Drawn0.step)⟩
 ·rw [if_neg c3] at H
  have c3b0 : ((l0.length : Int) == (l1.length : Int)) = false := beq_eq_false_iff_ne.mpr c3
  have c3b1 : ((l0.length : Int) != (l1.length : Int)) = true := bne_iff_ne.mpr c3
  have c3b2 : (l0.length == l1.length) = false := by first | simpa using c3 | (simp at c3 ⊢; omega)
  obtain rfl := Option.some.inj H
  go_enter Try.func27, Try.ntmps27
  go_wp2
  repeat (go_quiet (fail); try go_wp2)
  go_ret
  exact ⟨by first | rfl | (simp; done) | (simp [*]; done), by repeat (first | exact Drawn0.refl _ | apply Drawn0.step)⟩
end
section
def cohousinglaw29_head.f (k : Nat)  : Option (Bool) := (charges_Share.f 100 10 (([1, 2] : List Int)) (([(⟨3, 3⟩ : S38), (⟨2, 4⟩ : S38)] : List (S38)))).bind fun bt141 => ((charges_Share.f 100 10 (([1, 2] : List Int)) (([(⟨3, 3⟩ : S38), (⟨6, 10⟩ : S38)] : List (S38)))).bind fun bt152 => ((some (([(⟨1, 0, 2⟩ : S63), (⟨2, 1, 0⟩ : S63), (⟨3, 1, 0⟩ : S63)] : List (S63)) : List (S63))).bind fun y157 => ((charges_Network.f 100 y157 (([(⟨10, 10⟩ : S38), (⟨3, 5⟩ : S38), (⟨0, 100⟩ : S38)] : List (S38))) (([4, 7] : List Int))).bind fun bt166 => ((charges_Network.f 100 y157 (([(⟨9, 10⟩ : S38), (⟨3, 5⟩ : S38), (⟨0, 100⟩ : S38)] : List (S38))) (([4, 7] : List Int))).bind fun bt177 => (if bt141.2.2 = 0 then (if bt152.2.2 = 0 then (if bt166.2.2 = 0 then (if bt177.2.2 = 3 then (if bt141.2.1 = 40 then (if bt152.2.1 = 0 then (if bt166.2.1 = 10 then ((cohousingref29_Same.f k bt141.1 (([(⟨1, 30, (⟨30, 30⟩ : S38), true⟩ : S43), (⟨2, 30, (⟨20, 40⟩ : S38), false⟩ : S43)] : List (S43)))).bind fun t185 => (if t185 = true then ((cohousingref29_Same.f k bt152.1 (([(⟨1, 30, (⟨30, 30⟩ : S38), true⟩ : S43), (⟨2, 70, (⟨60, 100⟩ : S38), false⟩ : S43)] : List (S43)))).bind fun t189 => (if t189 = true then ((cohousingref29_Same.f k bt166.1 (([(⟨4, 40, (⟨30, 50⟩ : S38), false⟩ : S43), (⟨7, 50, (⟨30, 70⟩ : S38), false⟩ : S43)] : List (S43)))).bind fun t193 => (some t193)) else (some false))) else (some false))) else (some false)) else (some false)) else (some false)) else (some false)) else (some false)) else (some false)) else (some false))))))
def Held_ (p : Prop) : Prop := p
theorem held_ {p : Prop} (h : Held_ p) : p := h
theorem unheld_ {p : Prop} (h : p) : Held_ p := h
theorem cohousinglaw29_head.mono : ∀ k, LeO (cohousinglaw29_head.f k ) (cohousinglaw29_head.f (k + 1) ) := by
 intro  k
 unfold cohousinglaw29_head.f
 repeat' first
   | (with_reducible exact cohousingref29_Same.mono _ _ _)
   | (with_reducible exact LeO.refl _)
   | (with_reducible exact LeO.none _)
   | (with_reducible refine LeO.ite ?_ ?_)
   | (with_reducible refine LeO.bind ?_ (fun _ => ?_))
   | exact cohousingref29_Same.mono _ _ _
   | exact LeO.none _
   | refine LeO.ite ?_ ?_
   | refine LeO.bind ?_ (fun _ => ?_)
theorem cohousinglaw29_head.calls (k : Nat)  (r : Bool) (w : World) (h : cohousinglaw29_head.f k  = some r) :
  Calls Try.prog 20 #[] w fun e w' => e = .returned (.bool r) ∧ Below w.heap.size w w' := by
 have hu38 := Try.underlying38
 have hu63 := Try.underlying63
 have hu43 := Try.underlying43
 have HB := Aside0.mk (Below.refl w.heap.size w)
 have H : ((charges_Share.f 100 10 (([1, 2] : List Int)) (([(⟨3, 3⟩ : S38), (⟨2, 4⟩ : S38)] : List (S38)))).bind fun bt141 => ((charges_Share.f 100 10 (([1, 2] : List Int)) (([(⟨3, 3⟩ : S38), (⟨6, 10⟩ : S38)] : List (S38)))).bind fun bt152 => ((some (([(⟨1, 0, 2⟩ : S63), (⟨2, 1, 0⟩ : S63), (⟨3, 1, 0⟩ : S63)] : List (S63)) : List (S63))).bind fun y157 => ((charges_Network.f 100 y157 (([(⟨10, 10⟩ : S38), (⟨3, 5⟩ : S38), (⟨0, 100⟩ : S38)] : List (S38))) (([4, 7] : List Int))).bind fun bt166 => ((charges_Network.f 100 y157 (([(⟨9, 10⟩ : S38), (⟨3, 5⟩ : S38), (⟨0, 100⟩ : S38)] : List (S38))) (([4, 7] : List Int))).bind fun bt177 => (if bt141.2.2 = 0 then (if bt152.2.2 = 0 then (if bt166.2.2 = 0 then (if bt177.2.2 = 3 then (if bt141.2.1 = 40 then (if bt152.2.1 = 0 then (if bt166.2.1 = 10 then ((cohousingref29_Same.f k bt141.1 (([(⟨1, 30, (⟨30, 30⟩ : S38), true⟩ : S43), (⟨2, 30, (⟨20, 40⟩ : S38), false⟩ : S43)] : List (S43)))).bind fun t185 => (if t185 = true then ((cohousingref29_Same.f k bt152.1 (([(⟨1, 30, (⟨30, 30⟩ : S38), true⟩ : S43), (⟨2, 70, (⟨60, 100⟩ : S38), false⟩ : S43)] : List (S43)))).bind fun t189 => (if t189 = true then ((cohousingref29_Same.f k bt166.1 (([(⟨4, 40, (⟨30, 50⟩ : S38), false⟩ : S43), (⟨7, 50, (⟨30, 70⟩ : S38), false⟩ : S43)] : List (S43)))).bind fun t193 => (some t193)) else (some false))) else (some false))) else (some false)) else (some false)) else (some false)) else (some false)) else (some false)) else (some false)) else (some false))))))) = some r := h
 clear h
 obtain ⟨y135, hy135⟩ : ∃ y_ : List Int, y_ = (([1, 2] : List Int)) := ⟨_, rfl⟩
 replace H : ((charges_Share.f 100 10 y135 (([(⟨3, 3⟩ : S38), (⟨2, 4⟩ : S38)] : List (S38)))).bind fun bt141 => ((charges_Share.f 100 10 (([1, 2] : List Int)) (([(⟨3, 3⟩ : S38), (⟨6, 10⟩ : S38)] : List (S38)))).bind fun bt152 => ((some (([(⟨1, 0, 2⟩ : S63), (⟨2, 1, 0⟩ : S63), (⟨3, 1, 0⟩ : S63)] : List (S63)) : List (S63))).bind fun y157 => ((charges_Network.f 100 y157 (([(⟨10, 10⟩ : S38), (⟨3, 5⟩ : S38), (⟨0, 100⟩ : S38)] : List (S38))) (([4, 7] : List Int))).bind fun bt166 => ((charges_Network.f 100 y157 (([(⟨9, 10⟩ : S38), (⟨3, 5⟩ : S38), (⟨0, 100⟩ : S38)] : List (S38))) (([4, 7] : List Int))).bind fun bt177 => (if bt141.2.2 = 0 then (if bt152.2.2 = 0 then (if bt166.2.2 = 0 then (if bt177.2.2 = 3 then (if bt141.2.1 = 40 then (if bt152.2.1 = 0 then (if bt166.2.1 = 10 then ((cohousingref29_Same.f k bt141.1 (([(⟨1, 30, (⟨30, 30⟩ : S38), true⟩ : S43), (⟨2, 30, (⟨20, 40⟩ : S38), false⟩ : S43)] : List (S43)))).bind fun t185 => (if t185 = true then ((cohousingref29_Same.f k bt152.1 (([(⟨1, 30, (⟨30, 30⟩ : S38), true⟩ : S43), (⟨2, 70, (⟨60, 100⟩ : S38), false⟩ : S43)] : List (S43)))).bind fun t189 => (if t189 = true then ((cohousingref29_Same.f k bt166.1 (([(⟨4, 40, (⟨30, 50⟩ : S38), false⟩ : S43), (⟨7, 50, (⟨30, 70⟩ : S38), false⟩ : S43)] : List (S43)))).bind fun t193 => (some t193)) else (some false))) else (some false))) else (some false)) else (some false)) else (some false)) else (some false)) else (some false)) else (some false)) else (some false))))))) = some r := by first | (rw [hy135]; with_reducible exact H) | (have H2_ := (Option.bind_some _ _).symm.trans H; rw [hy135]; with_reducible exact H2_) | (have H2_ := (Option.bind_some _ _).symm.trans H; with_reducible exact H2_) | with_reducible exact H | (rw [hy135]; exact H) | exact H
 have Ny135 := Aside0.mk hy135
 clear hy135
 obtain ⟨y138, hy138⟩ : ∃ y_ : List (S38), y_ = (([(⟨3, 3⟩ : S38), (⟨2, 4⟩ : S38)] : List (S38))) := ⟨_, rfl⟩
 replace H : ((charges_Share.f 100 10 y135 y138).bind fun bt141 => ((charges_Share.f 100 10 (([1, 2] : List Int)) (([(⟨3, 3⟩ : S38), (⟨6, 10⟩ : S38)] : List (S38)))).bind fun bt152 => ((some (([(⟨1, 0, 2⟩ : S63), (⟨2, 1, 0⟩ : S63), (⟨3, 1, 0⟩ : S63)] : List (S63)) : List (S63))).bind fun y157 => ((charges_Network.f 100 y157 (([(⟨10, 10⟩ : S38), (⟨3, 5⟩ : S38), (⟨0, 100⟩ : S38)] : List (S38))) (([4, 7] : List Int))).bind fun bt166 => ((charges_Network.f 100 y157 (([(⟨9, 10⟩ : S38), (⟨3, 5⟩ : S38), (⟨0, 100⟩ : S38)] : List (S38))) (([4, 7] : List Int))).bind fun bt177 => (if bt141.2.2 = 0 then (if bt152.2.2 = 0 then (if bt166.2.2 = 0 then (if bt177.2.2 = 3 then (if bt141.2.1 = 40 then (if bt152.2.1 = 0 then (if bt166.2.1 = 10 then ((cohousingref29_Same.f k bt141.1 (([(⟨1, 30, (⟨30, 30⟩ : S38), true⟩ : S43), (⟨2, 30, (⟨20, 40⟩ : S38), false⟩ : S43)] : List (S43)))).bind fun t185 => (if t185 = true then ((cohousingref29_Same.f k bt152.1 (([(⟨1, 30, (⟨30, 30⟩ : S38), true⟩ : S43), (⟨2, 70, (⟨60, 100⟩ : S38), false⟩ : S43)] : List (S43)))).bind fun t189 => (if t189 = true then ((cohousingref29_Same.f k bt166.1 (([(⟨4, 40, (⟨30, 50⟩ : S38), false⟩ : S43), (⟨7, 50, (⟨30, 70⟩ : S38), false⟩ : S43)] : List (S43)))).bind fun t193 => (some t193)) else (some false))) else (some false))) else (some false)) else (some false)) else (some false)) else (some false)) else (some false)) else (some false)) else (some false))))))) = some r := by first | (rw [hy138]; with_reducible exact H) | (have H2_ := (Option.bind_some _ _).symm.trans H; rw [hy138]; with_reducible exact H2_) | (have H2_ := (Option.bind_some _ _).symm.trans H; with_reducible exact H2_) | with_reducible exact H | (rw [hy138]; exact H) | exact H
 have Ny138 := Aside0.mk hy138
 clear hy138
 replace H := Option.bind_eq_some_iff.mp H
 obtain ⟨⟨t141, t142, t143⟩, A10, H⟩ := H
 replace H : ((charges_Share.f 100 10 (([1, 2] : List Int)) (([(⟨3, 3⟩ : S38), (⟨6, 10⟩ : S38)] : List (S38)))).bind fun bt152 => ((some (([(⟨1, 0, 2⟩ : S63), (⟨2, 1, 0⟩ : S63), (⟨3, 1, 0⟩ : S63)] : List (S63)) : List (S63))).bind fun y157 => ((charges_Network.f 100 y157 (([(⟨10, 10⟩ : S38), (⟨3, 5⟩ : S38), (⟨0, 100⟩ : S38)] : List (S38))) (([4, 7] : List Int))).bind fun bt166 => ((charges_Network.f 100 y157 (([(⟨9, 10⟩ : S38), (⟨3, 5⟩ : S38), (⟨0, 100⟩ : S38)] : List (S38))) (([4, 7] : List Int))).bind fun bt177 => (if t143 = 0 then (if bt152.2.2 = 0 then (if bt166.2.2 = 0 then (if bt177.2.2 = 3 then (if t142 = 40 then (if bt152.2.1 = 0 then (if bt166.2.1 = 10 then ((cohousingref29_Same.f k t141 (([(⟨1, 30, (⟨30, 30⟩ : S38), true⟩ : S43), (⟨2, 30, (⟨20, 40⟩ : S38), false⟩ : S43)] : List (S43)))).bind fun t185 => (if t185 = true then ((cohousingref29_Same.f k bt152.1 (([(⟨1, 30, (⟨30, 30⟩ : S38), true⟩ : S43), (⟨2, 70, (⟨60, 100⟩ : S38), false⟩ : S43)] : List (S43)))).bind fun t189 => (if t189 = true then ((cohousingref29_Same.f k bt166.1 (([(⟨4, 40, (⟨30, 50⟩ : S38), false⟩ : S43), (⟨7, 50, (⟨30, 70⟩ : S38), false⟩ : S43)] : List (S43)))).bind fun t193 => (some t193)) else (some false))) else (some false))) else (some false)) else (some false)) else (some false)) else (some false)) else (some false)) else (some false)) else (some false)))))) = some r := H
 have A1 := Aside0.mk A10
 clear A10
 obtain ⟨y146, hy146⟩ : ∃ y_ : List Int, y_ = (([1, 2] : List Int)) := ⟨_, rfl⟩
 replace H : ((charges_Share.f 100 10 y146 (([(⟨3, 3⟩ : S38), (⟨6, 10⟩ : S38)] : List (S38)))).bind fun bt152 => ((some (([(⟨1, 0, 2⟩ : S63), (⟨2, 1, 0⟩ : S63), (⟨3, 1, 0⟩ : S63)] : List (S63)) : List (S63))).bind fun y157 => ((charges_Network.f 100 y157 (([(⟨10, 10⟩ : S38), (⟨3, 5⟩ : S38), (⟨0, 100⟩ : S38)] : List (S38))) (([4, 7] : List Int))).bind fun bt166 => ((charges_Network.f 100 y157 (([(⟨9, 10⟩ : S38), (⟨3, 5⟩ : S38), (⟨0, 100⟩ : S38)] : List (S38))) (([4, 7] : List Int))).bind fun bt177 => (if t143 = 0 then (if bt152.2.2 = 0 then (if bt166.2.2 = 0 then (if bt177.2.2 = 3 then (if t142 = 40 then (if bt152.2.1 = 0 then (if bt166.2.1 = 10 then ((cohousingref29_Same.f k t141 (([(⟨1, 30, (⟨30, 30⟩ : S38), true⟩ : S43), (⟨2, 30, (⟨20, 40⟩ : S38), false⟩ : S43)] : List (S43)))).bind fun t185 => (if t185 = true then ((cohousingref29_Same.f k bt152.1 (([(⟨1, 30, (⟨30, 30⟩ : S38), true⟩ : S43), (⟨2, 70, (⟨60, 100⟩ : S38), false⟩ : S43)] : List (S43)))).bind fun t189 => (if t189 = true then ((cohousingref29_Same.f k bt166.1 (([(⟨4, 40, (⟨30, 50⟩ : S38), false⟩ : S43), (⟨7, 50, (⟨30, 70⟩ : S38), false⟩ : S43)] : List (S43)))).bind fun t193 => (some t193)) else (some false))) else (some false))) else (some false)) else (some false)) else (some false)) else (some false)) else (some false)) else (some false)) else (some false)))))) = some r := by first | (rw [hy146]; with_reducible exact H) | (have H2_ := (Option.bind_some _ _).symm.trans H; rw [hy146]; with_reducible exact H2_) | (have H2_ := (Option.bind_some _ _).symm.trans H; with_reducible exact H2_) | with_reducible exact H | (rw [hy146]; exact H) | exact H
 have Ny146 := Aside0.mk hy146
 clear hy146
 obtain ⟨y149, hy149⟩ : ∃ y_ : List (S38), y_ = (([(⟨3, 3⟩ : S38), (⟨6, 10⟩ : S38)] : List (S38))) := ⟨_, rfl⟩
 replace H : ((charges_Share.f 100 10 y146 y149).bind fun bt152 => ((some (([(⟨1, 0, 2⟩ : S63), (⟨2, 1, 0⟩ : S63), (⟨3, 1, 0⟩ : S63)] : List (S63)) : List (S63))).bind fun y157 => ((charges_Network.f 100 y157 (([(⟨10, 10⟩ : S38), (⟨3, 5⟩ : S38), (⟨0, 100⟩ : S38)] : List (S38))) (([4, 7] : List Int))).bind fun bt166 => ((charges_Network.f 100 y157 (([(⟨9, 10⟩ : S38), (⟨3, 5⟩ : S38), (⟨0, 100⟩ : S38)] : List (S38))) (([4, 7] : List Int))).bind fun bt177 => (if t143 = 0 then (if bt152.2.2 = 0 then (if bt166.2.2 = 0 then (if bt177.2.2 = 3 then (if t142 = 40 then (if bt152.2.1 = 0 then (if bt166.2.1 = 10 then ((cohousingref29_Same.f k t141 (([(⟨1, 30, (⟨30, 30⟩ : S38), true⟩ : S43), (⟨2, 30, (⟨20, 40⟩ : S38), false⟩ : S43)] : List (S43)))).bind fun t185 => (if t185 = true then ((cohousingref29_Same.f k bt152.1 (([(⟨1, 30, (⟨30, 30⟩ : S38), true⟩ : S43), (⟨2, 70, (⟨60, 100⟩ : S38), false⟩ : S43)] : List (S43)))).bind fun t189 => (if t189 = true then ((cohousingref29_Same.f k bt166.1 (([(⟨4, 40, (⟨30, 50⟩ : S38), false⟩ : S43), (⟨7, 50, (⟨30, 70⟩ : S38), false⟩ : S43)] : List (S43)))).bind fun t193 => (some t193)) else (some false))) else (some false))) else (some false)) else (some false)) else (some false)) else (some false)) else (some false)) else (some false)) else (some false)))))) = some r := by first | (rw [hy149]; with_reducible exact H) | (have H2_ := (Option.bind_some _ _).symm.trans H; rw [hy149]; with_reducible exact H2_) | (have H2_ := (Option.bind_some _ _).symm.trans H; with_reducible exact H2_) | with_reducible exact H | (rw [hy149]; exact H) | exact H
 have Ny149 := Aside0.mk hy149
 clear hy149
 replace H := Option.bind_eq_some_iff.mp H
 obtain ⟨⟨t152, t153, t154⟩, A20, H⟩ := H
 replace H : ((some (([(⟨1, 0, 2⟩ : S63), (⟨2, 1, 0⟩ : S63), (⟨3, 1, 0⟩ : S63)] : List (S63)) : List (S63))).bind fun y157 => ((charges_Network.f 100 y157 (([(⟨10, 10⟩ : S38), (⟨3, 5⟩ : S38), (⟨0, 100⟩ : S38)] : List (S38))) (([4, 7] : List Int))).bind fun bt166 => ((charges_Network.f 100 y157 (([(⟨9, 10⟩ : S38), (⟨3, 5⟩ : S38), (⟨0, 100⟩ : S38)] : List (S38))) (([4, 7] : List Int))).bind fun bt177 => (if t143 = 0 then (if t154 = 0 then (if bt166.2.2 = 0 then (if bt177.2.2 = 3 then (if t142 = 40 then (if t153 = 0 then (if bt166.2.1 = 10 then ((cohousingref29_Same.f k t141 (([(⟨1, 30, (⟨30, 30⟩ : S38), true⟩ : S43), (⟨2, 30, (⟨20, 40⟩ : S38), false⟩ : S43)] : List (S43)))).bind fun t185 => (if t185 = true then ((cohousingref29_Same.f k t152 (([(⟨1, 30, (⟨30, 30⟩ : S38), true⟩ : S43), (⟨2, 70, (⟨60, 100⟩ : S38), false⟩ : S43)] : List (S43)))).bind fun t189 => (if t189 = true then ((cohousingref29_Same.f k bt166.1 (([(⟨4, 40, (⟨30, 50⟩ : S38), false⟩ : S43), (⟨7, 50, (⟨30, 70⟩ : S38), false⟩ : S43)] : List (S43)))).bind fun t193 => (some t193)) else (some false))) else (some false))) else (some false)) else (some false)) else (some false)) else (some false)) else (some false)) else (some false)) else (some false))))) = some r := H
 have A2 := Aside0.mk A20
 clear A20
 obtain ⟨y157, hy157⟩ : ∃ y_ : List (S63), y_ = (([(⟨1, 0, 2⟩ : S63), (⟨2, 1, 0⟩ : S63), (⟨3, 1, 0⟩ : S63)] : List (S63))) := ⟨_, rfl⟩
 replace H : ((charges_Network.f 100 y157 (([(⟨10, 10⟩ : S38), (⟨3, 5⟩ : S38), (⟨0, 100⟩ : S38)] : List (S38))) (([4, 7] : List Int))).bind fun bt166 => ((charges_Network.f 100 y157 (([(⟨9, 10⟩ : S38), (⟨3, 5⟩ : S38), (⟨0, 100⟩ : S38)] : List (S38))) (([4, 7] : List Int))).bind fun bt177 => (if t143 = 0 then (if t154 = 0 then (if bt166.2.2 = 0 then (if bt177.2.2 = 3 then (if t142 = 40 then (if t153 = 0 then (if bt166.2.1 = 10 then ((cohousingref29_Same.f k t141 (([(⟨1, 30, (⟨30, 30⟩ : S38), true⟩ : S43), (⟨2, 30, (⟨20, 40⟩ : S38), false⟩ : S43)] : List (S43)))).bind fun t185 => (if t185 = true then ((cohousingref29_Same.f k t152 (([(⟨1, 30, (⟨30, 30⟩ : S38), true⟩ : S43), (⟨2, 70, (⟨60, 100⟩ : S38), false⟩ : S43)] : List (S43)))).bind fun t189 => (if t189 = true then ((cohousingref29_Same.f k bt166.1 (([(⟨4, 40, (⟨30, 50⟩ : S38), false⟩ : S43), (⟨7, 50, (⟨30, 70⟩ : S38), false⟩ : S43)] : List (S43)))).bind fun t193 => (some t193)) else (some false))) else (some false))) else (some false)) else (some false)) else (some false)) else (some false)) else (some false)) else (some false)) else (some false)))) = some r := by first | (rw [hy157]; with_reducible exact H) | (have H2_ := (Option.bind_some _ _).symm.trans H; rw [hy157]; with_reducible exact H2_) | (have H2_ := (Option.bind_some _ _).symm.trans H; with_reducible exact H2_) | with_reducible exact H | (rw [hy157]; exact H) | exact H
 have Ny157 := Aside0.mk hy157
 clear hy157
 obtain ⟨y160, hy160⟩ : ∃ y_ : List (S38), y_ = (([(⟨10, 10⟩ : S38), (⟨3, 5⟩ : S38), (⟨0, 100⟩ : S38)] : List (S38))) := ⟨_, rfl⟩
 replace H : ((charges_Network.f 100 y157 y160 (([4, 7] : List Int))).bind fun bt166 => ((charges_Network.f 100 y157 (([(⟨9, 10⟩ : S38), (⟨3, 5⟩ : S38), (⟨0, 100⟩ : S38)] : List (S38))) (([4, 7] : List Int))).bind fun bt177 => (if t143 = 0 then (if t154 = 0 then (if bt166.2.2 = 0 then (if bt177.2.2 = 3 then (if t142 = 40 then (if t153 = 0 then (if bt166.2.1 = 10 then ((cohousingref29_Same.f k t141 (([(⟨1, 30, (⟨30, 30⟩ : S38), true⟩ : S43), (⟨2, 30, (⟨20, 40⟩ : S38), false⟩ : S43)] : List (S43)))).bind fun t185 => (if t185 = true then ((cohousingref29_Same.f k t152 (([(⟨1, 30, (⟨30, 30⟩ : S38), true⟩ : S43), (⟨2, 70, (⟨60, 100⟩ : S38), false⟩ : S43)] : List (S43)))).bind fun t189 => (if t189 = true then ((cohousingref29_Same.f k bt166.1 (([(⟨4, 40, (⟨30, 50⟩ : S38), false⟩ : S43), (⟨7, 50, (⟨30, 70⟩ : S38), false⟩ : S43)] : List (S43)))).bind fun t193 => (some t193)) else (some false))) else (some false))) else (some false)) else (some false)) else (some false)) else (some false)) else (some false)) else (some false)) else (some false)))) = some r := by first | (rw [hy160]; with_reducible exact H) | (have H2_ := (Option.bind_some _ _).symm.trans H; rw [hy160]; with_reducible exact H2_) | (have H2_ := (Option.bind_some _ _).symm.trans H; with_reducible exact H2_) | with_reducible exact H | (rw [hy160]; exact H) | exact H
 have Ny160 := Aside0.mk hy160
 clear hy160
 obtain ⟨y163, hy163⟩ : ∃ y_ : List Int, y_ = (([4, 7] : List Int)) := ⟨_, rfl⟩
 replace H : ((charges_Network.f 100 y157 y160 y163).bind fun bt166 => ((charges_Network.f 100 y157 (([(⟨9, 10⟩ : S38), (⟨3, 5⟩ : S38), (⟨0, 100⟩ : S38)] : List (S38))) (([4, 7] : List Int))).bind fun bt177 => (if t143 = 0 then (if t154 = 0 then (if bt166.2.2 = 0 then (if bt177.2.2 = 3 then (if t142 = 40 then (if t153 = 0 then (if bt166.2.1 = 10 then ((cohousingref29_Same.f k t141 (([(⟨1, 30, (⟨30, 30⟩ : S38), true⟩ : S43), (⟨2, 30, (⟨20, 40⟩ : S38), false⟩ : S43)] : List (S43)))).bind fun t185 => (if t185 = true then ((cohousingref29_Same.f k t152 (([(⟨1, 30, (⟨30, 30⟩ : S38), true⟩ : S43), (⟨2, 70, (⟨60, 100⟩ : S38), false⟩ : S43)] : List (S43)))).bind fun t189 => (if t189 = true then ((cohousingref29_Same.f k bt166.1 (([(⟨4, 40, (⟨30, 50⟩ : S38), false⟩ : S43), (⟨7, 50, (⟨30, 70⟩ : S38), false⟩ : S43)] : List (S43)))).bind fun t193 => (some t193)) else (some false))) else (some false))) else (some false)) else (some false)) else (some false)) else (some false)) else (some false)) else (some false)) else (some false)))) = some r := by first | (rw [hy163]; with_reducible exact H) | (have H2_ := (Option.bind_some _ _).symm.trans H; rw [hy163]; with_reducible exact H2_) | (have H2_ := (Option.bind_some _ _).symm.trans H; with_reducible exact H2_) | with_reducible exact H | (rw [hy163]; exact H) | exact H
 have Ny163 := Aside0.mk hy163
 clear hy163
 replace H := Option.bind_eq_some_iff.mp H
 obtain ⟨⟨t166, t167, t168⟩, A30, H⟩ := H
 replace H : ((charges_Network.f 100 y157 (([(⟨9, 10⟩ : S38), (⟨3, 5⟩ : S38), (⟨0, 100⟩ : S38)] : List (S38))) (([4, 7] : List Int))).bind fun bt177 => (if t143 = 0 then (if t154 = 0 then (if t168 = 0 then (if bt177.2.2 = 3 then (if t142 = 40 then (if t153 = 0 then (if t167 = 10 then ((cohousingref29_Same.f k t141 (([(⟨1, 30, (⟨30, 30⟩ : S38), true⟩ : S43), (⟨2, 30, (⟨20, 40⟩ : S38), false⟩ : S43)] : List (S43)))).bind fun t185 => (if t185 = true then ((cohousingref29_Same.f k t152 (([(⟨1, 30, (⟨30, 30⟩ : S38), true⟩ : S43), (⟨2, 70, (⟨60, 100⟩ : S38), false⟩ : S43)] : List (S43)))).bind fun t189 => (if t189 = true then ((cohousingref29_Same.f k t166 (([(⟨4, 40, (⟨30, 50⟩ : S38), false⟩ : S43), (⟨7, 50, (⟨30, 70⟩ : S38), false⟩ : S43)] : List (S43)))).bind fun t193 => (some t193)) else (some false))) else (some false))) else (some false)) else (some false)) else (some false)) else (some false)) else (some false)) else (some false)) else (some false))) = some r := H
 have A3 := Aside0.mk A30
 clear A30
 obtain ⟨y171, hy171⟩ : ∃ y_ : List (S38), y_ = (([(⟨9, 10⟩ : S38), (⟨3, 5⟩ : S38), (⟨0, 100⟩ : S38)] : List (S38))) := ⟨_, rfl⟩
 replace H : ((charges_Network.f 100 y157 y171 (([4, 7] : List Int))).bind fun bt177 => (if t143 = 0 then (if t154 = 0 then (if t168 = 0 then (if bt177.2.2 = 3 then (if t142 = 40 then (if t153 = 0 then (if t167 = 10 then ((cohousingref29_Same.f k t141 (([(⟨1, 30, (⟨30, 30⟩ : S38), true⟩ : S43), (⟨2, 30, (⟨20, 40⟩ : S38), false⟩ : S43)] : List (S43)))).bind fun t185 => (if t185 = true then ((cohousingref29_Same.f k t152 (([(⟨1, 30, (⟨30, 30⟩ : S38), true⟩ : S43), (⟨2, 70, (⟨60, 100⟩ : S38), false⟩ : S43)] : List (S43)))).bind fun t189 => (if t189 = true then ((cohousingref29_Same.f k t166 (([(⟨4, 40, (⟨30, 50⟩ : S38), false⟩ : S43), (⟨7, 50, (⟨30, 70⟩ : S38), false⟩ : S43)] : List (S43)))).bind fun t193 => (some t193)) else (some false))) else (some false))) else (some false)) else (some false)) else (some false)) else (some false)) else (some false)) else (some false)) else (some false))) = some r := by first | (rw [hy171]; with_reducible exact H) | (have H2_ := (Option.bind_some _ _).symm.trans H; rw [hy171]; with_reducible exact H2_) | (have H2_ := (Option.bind_some _ _).symm.trans H; with_reducible exact H2_) | with_reducible exact H | (rw [hy171]; exact H) | exact H
 have Ny171 := Aside0.mk hy171
 clear hy171
 obtain ⟨y174, hy174⟩ : ∃ y_ : List Int, y_ = (([4, 7] : List Int)) := ⟨_, rfl⟩
 replace H : ((charges_Network.f 100 y157 y171 y174).bind fun bt177 => (if t143 = 0 then (if t154 = 0 then (if t168 = 0 then (if bt177.2.2 = 3 then (if t142 = 40 then (if t153 = 0 then (if t167 = 10 then ((cohousingref29_Same.f k t141 (([(⟨1, 30, (⟨30, 30⟩ : S38), true⟩ : S43), (⟨2, 30, (⟨20, 40⟩ : S38), false⟩ : S43)] : List (S43)))).bind fun t185 => (if t185 = true then ((cohousingref29_Same.f k t152 (([(⟨1, 30, (⟨30, 30⟩ : S38), true⟩ : S43), (⟨2, 70, (⟨60, 100⟩ : S38), false⟩ : S43)] : List (S43)))).bind fun t189 => (if t189 = true then ((cohousingref29_Same.f k t166 (([(⟨4, 40, (⟨30, 50⟩ : S38), false⟩ : S43), (⟨7, 50, (⟨30, 70⟩ : S38), false⟩ : S43)] : List (S43)))).bind fun t193 => (some t193)) else (some false))) else (some false))) else (some false)) else (some false)) else (some false)) else (some false)) else (some false)) else (some false)) else (some false))) = some r := by first | (rw [hy174]; with_reducible exact H) | (have H2_ := (Option.bind_some _ _).symm.trans H; rw [hy174]; with_reducible exact H2_) | (have H2_ := (Option.bind_some _ _).symm.trans H; with_reducible exact H2_) | with_reducible exact H | (rw [hy174]; exact H) | exact H
 have Ny174 := Aside0.mk hy174
 clear hy174
 replace H := Option.bind_eq_some_iff.mp H
 obtain ⟨⟨t177, t178, t179⟩, A40, H⟩ := H
 replace H : (if t143 = 0 then (if t154 = 0 then (if t168 = 0 then (if t179 = 3 then (if t142 = 40 then (if t153 = 0 then (if t167 = 10 then ((cohousingref29_Same.f k t141 (([(⟨1, 30, (⟨30, 30⟩ : S38), true⟩ : S43), (⟨2, 30, (⟨20, 40⟩ : S38), false⟩ : S43)] : List (S43)))).bind fun t185 => (if t185 = true then ((cohousingref29_Same.f k t152 (([(⟨1, 30, (⟨30, 30⟩ : S38), true⟩ : S43), (⟨2, 70, (⟨60, 100⟩ : S38), false⟩ : S43)] : List (S43)))).bind fun t189 => (if t189 = true then ((cohousingref29_Same.f k t166 (([(⟨4, 40, (⟨30, 50⟩ : S38), false⟩ : S43), (⟨7, 50, (⟨30, 70⟩ : S38), false⟩ : S43)] : List (S43)))).bind fun t193 => (some t193)) else (some false))) else (some false))) else (some false)) else (some false)) else (some false)) else (some false)) else (some false)) else (some false)) else (some false)) = some r := H
 have A4 := Aside0.mk A40
 clear A40
 go_enter Try.func20, Try.ntmps20
 go_wp2_with (first | ((with_reducible refine gate_dst (N := 16) rfl ?_); (try (refine gate_guard (by rfl) ?_; dsimp only)); refine Kd.R_lit (Kd.int .i64) _ 3 ?hg (N := 16) ?hd (xs := ([1, 2] : List Int)) (inner := [.int .i64 1, .int .i64 2]) (ok := fun _ => True) (okp := fun _ => True) ?hr ?hp (fun _ hk => hk) trivial (Below.refl _ _) (Nat.le_refl _) (by simp) ?_; (case hd => rfl); (case hg => rfl); (case hr => first | (go_simp; done) | (go_simp; rfl)); (case hp => exact (Reps.one (show Kd.M (Kd.int .i64) _ _ _ 1 [.int .i64 1] from rfl) (Reps.one (show Kd.M (Kd.int .i64) _ _ _ 2 [.int .i64 2] from rfl) (Reps.none _ _)))); intro v136 w17 ho18 hb hg_ hnew_; clear hg_ hnew_; (first | rw [← Ny135.out] at ho18 | (simp only [Int.reduceToNat] at ho18; rw [← Ny135.out] at ho18)); have n0_ := Aside0.mk (Kd.R_lower ho18 (below_size (bb_ HB))); have n1_ := Aside0.mk (below_step (bb_ HB) hb); clear HB; have HO137 := n0_; have HB := n1_; clear n0_ n1_; clear hb ho18) | ((with_reducible refine gate_dst (N := 19) rfl ?_); (try (refine gate_guard (by rfl) ?_; dsimp only)); refine Kd.R_lit k38 _ 38 ?hg (N := 19) ?hd (xs := ([(⟨3, 3⟩ : S38), (⟨2, 4⟩ : S38)] : List (S38))) (inner := [.int .i64 3, .int .i64 3, .int .i64 2, .int .i64 4]) (ok := fun _ => True) (okp := fun _ => True) ?hr ?hp (fun _ hk => hk) trivial (Below.refl _ _) (Nat.le_refl _) (by simp) ?_; (case hd => rfl); (case hg => rfl); (case hr => first | (go_simp; done) | (go_simp; rfl)); (case hp => exact (Reps.c2 (show Kd.M k38 _ _ _ (⟨3, 3⟩ : S38) [.int .i64 3, .int .i64 3] from (k38_mkM _ _ _ (⟨3, 3⟩ : S38) )) (Reps.c2 (show Kd.M k38 _ _ _ (⟨2, 4⟩ : S38) [.int .i64 2, .int .i64 4] from (k38_mkM _ _ _ (⟨2, 4⟩ : S38) )) (Reps.none _ _)))); intro v139 w19 ho20 hb hg_ hnew_; clear hg_ hnew_; (first | rw [← Ny138.out] at ho20 | (simp only [Int.reduceToNat] at ho20; rw [← Ny138.out] at ho20)); have n0_ := Aside0.mk (Kd.R_below (rr_ HO137) hb); have n1_ := Aside0.mk (Kd.R_lower ho20 (below_size (bb_ HB))); have n2_ := Aside0.mk (below_step (bb_ HB) hb); clear HO137; clear HB; have HO137 := n0_; have HO140 := n1_; have HB := n2_; clear n0_ n1_ n2_; clear hb ho20; obtain ⟨Ao21, co21, eo21⟩ := Kd.R_slice HO137.out; subst eo21; obtain ⟨Ao22, co22, eo22⟩ := Kd.R_slice HO140.out; subst eo22) | ((with_reducible refine gate_callee (f := 25) rfl ?_); refine gl_ (some 20) Try.func25 #[.int .i64 100, .int .i64 10, .slice Ao21 y135.length co21, .slice Ao22 y138.length co22] ?_; (with_reducible refine (charges_Share.calls 100 10 _ _ y135 _ _ y138 t141 t142 t143 _ ?side1 ?side2 ?side3 ?side4 A1.out).mono ?_); (case side1 => exact cc_ ((Kd.R_reads' HO137.out).2.2)); (case side2 => exact (Kd.R_reads' HO137.out).2.1); (case side3 => exact cc_ ((Kd.R_reads' HO140.out).2.2)); (case side4 => exact (Kd.R_reads' HO140.out).2.1); rintro e w23 ⟨v144, rfl, ho0, hb⟩; refine ⟨_, rfl, ?_⟩; have n0_ := Aside0.mk (Kd.R_below (rr_ HO137) hb); have n1_ := Aside0.mk (Kd.R_below (rr_ HO140) hb); have n2_ := Aside0.mk (Kd.R_lower ho0 (below_size (bb_ HB))); have n3_ := Aside0.mk (below_step (bb_ HB) hb); clear HO137; clear HO140; clear HB; have HO137 := n0_; have HO140 := n1_; have HO145 := n2_; have HB := n3_; clear n0_ n1_ n2_ n3_; (try clear hb); (try clear hb2); (try clear hk); (try clear hi); (try clear ho0)) | ((with_reducible refine gate_dst (N := 25) rfl ?_); (try (refine gate_guard (by rfl) ?_; dsimp only)); refine Kd.R_lit (Kd.int .i64) _ 3 ?hg (N := 25) ?hd (xs := ([1, 2] : List Int)) (inner := [.int .i64 1, .int .i64 2]) (ok := fun _ => True) (okp := fun _ => True) ?hr ?hp (fun _ hk => hk) trivial (Below.refl _ _) (Nat.le_refl _) (by simp) ?_; (case hd => rfl); (case hg => rfl); (case hr => first | (go_simp; done) | (go_simp; rfl)); (case hp => exact (Reps.one (show Kd.M (Kd.int .i64) _ _ _ 1 [.int .i64 1] from rfl) (Reps.one (show Kd.M (Kd.int .i64) _ _ _ 2 [.int .i64 2] from rfl) (Reps.none _ _)))); intro v147 w24 ho25 hb hg_ hnew_; clear hg_ hnew_; (first | rw [← Ny146.out] at ho25 | (simp only [Int.reduceToNat] at ho25; rw [← Ny146.out] at ho25)); have n0_ := Aside0.mk (Kd.R_elder' (rr_ HO137) (Kd.R_base ho25) hb); have n1_ := Aside0.mk (Kd.R_below (rr_ HO140) hb); have n2_ := Aside0.mk (Kd.R_below (rr_ HO145) hb); have n3_ := Aside0.mk (Kd.R_lower (Kd.R_new' ho25 (Kd.R_lt (rr_ HO137))) (below_size (bb_ HB))); have n4_ := Aside0.mk (below_step (bb_ HB) hb); clear HO137; clear HO140; clear HO145; clear HB; have HO137 := n0_; have HO140 := n1_; have HO145 := n2_; have HO148 := n3_; have HB := n4_; clear n0_ n1_ n2_ n3_ n4_; clear hb ho25) | ((with_reducible refine gate_dst (N := 28) rfl ?_); (try (refine gate_guard (by rfl) ?_; dsimp only)); refine Kd.R_lit k38 _ 38 ?hg (N := 28) ?hd (xs := ([(⟨3, 3⟩ : S38), (⟨6, 10⟩ : S38)] : List (S38))) (inner := [.int .i64 3, .int .i64 3, .int .i64 6, .int .i64 10]) (ok := fun _ => True) (okp := fun _ => True) ?hr ?hp (fun _ hk => hk) trivial (Below.refl _ _) (Nat.le_refl _) (by simp) ?_; (case hd => rfl); (case hg => rfl); (case hr => first | (go_simp; done) | (go_simp; rfl)); (case hp => exact (Reps.c2 (show Kd.M k38 _ _ _ (⟨3, 3⟩ : S38) [.int .i64 3, .int .i64 3] from (k38_mkM _ _ _ (⟨3, 3⟩ : S38) )) (Reps.c2 (show Kd.M k38 _ _ _ (⟨6, 10⟩ : S38) [.int .i64 6, .int .i64 10] from (k38_mkM _ _ _ (⟨6, 10⟩ : S38) )) (Reps.none _ _)))); intro v150 w26 ho27 hb hg_ hnew_; clear hg_ hnew_; (first | rw [← Ny149.out] at ho27 | (simp only [Int.reduceToNat] at ho27; rw [← Ny149.out] at ho27)); have n0_ := Aside0.mk (Kd.R_below (rr_ HO137) hb); have n1_ := Aside0.mk (Kd.R_elder' (rr_ HO140) (Kd.R_base ho27) hb); have n2_ := Aside0.mk (Kd.R_below (rr_ HO145) hb); have n3_ := Aside0.mk (Kd.R_below (rr_ HO148) hb); have n4_ := Aside0.mk (Kd.R_lower (Kd.R_new' ho27 (Kd.R_lt (rr_ HO140))) (below_size (bb_ HB))); have n5_ := Aside0.mk (below_step (bb_ HB) hb); clear HO137; clear HO140; clear HO145; clear HO148; clear HB; have HO137 := n0_; have HO140 := n1_; have HO145 := n2_; have HO148 := n3_; have HO151 := n4_; have HB := n5_; clear n0_ n1_ n2_ n3_ n4_ n5_; clear hb ho27; obtain ⟨Ao28, co28, eo28⟩ := Kd.R_slice HO148.out; subst eo28; obtain ⟨Ao29, co29, eo29⟩ := Kd.R_slice HO151.out; subst eo29) | ((with_reducible refine gate_callee (f := 25) rfl ?_); refine gl_ (some 29) Try.func25 #[.int .i64 100, .int .i64 10, .slice Ao28 y146.length co28, .slice Ao29 y149.length co29] ?_; (with_reducible refine (charges_Share.calls 100 10 _ _ y146 _ _ y149 t152 t153 t154 _ ?side1 ?side2 ?side3 ?side4 A2.out).mono ?_); (case side1 => exact cc_ ((Kd.R_reads' HO148.out).2.2)); (case side2 => exact (Kd.R_reads' HO148.out).2.1); (case side3 => exact cc_ ((Kd.R_reads' HO151.out).2.2)); (case side4 => exact (Kd.R_reads' HO151.out).2.1); rintro e w30 ⟨v155, rfl, ho0, hb⟩; refine ⟨_, rfl, ?_⟩; have n0_ := Aside0.mk (Kd.R_below (rr_ HO137) hb); have n1_ := Aside0.mk (Kd.R_below (rr_ HO140) hb); have n2_ := Aside0.mk (Kd.R_elder' (rr_ HO145) (Kd.R_base ho0) hb); have n3_ := Aside0.mk (Kd.R_below (rr_ HO148) hb); have n4_ := Aside0.mk (Kd.R_below (rr_ HO151) hb); have n5_ := Aside0.mk (Kd.R_lower (Kd.R_new' ho0 (Kd.R_lt (rr_ HO145))) (below_size (bb_ HB))); have n6_ := Aside0.mk (below_step (bb_ HB) hb); clear HO137; clear HO140; clear HO145; clear HO148; clear HO151; clear HB; have HO137 := n0_; have HO140 := n1_; have HO145 := n2_; have HO148 := n3_; have HO151 := n4_; have HO156 := n5_; have HB := n6_; clear n0_ n1_ n2_ n3_ n4_ n5_ n6_; (try clear hb); (try clear hb2); (try clear hk); (try clear hi); (try clear ho0)) | ((with_reducible refine gate_dst (N := 36) rfl ?_); (try (refine gate_guard (by rfl) ?_; dsimp only)); refine Kd.R_lit k63 _ 63 ?hg (N := 36) ?hd (xs := ([(⟨1, 0, 2⟩ : S63), (⟨2, 1, 0⟩ : S63), (⟨3, 1, 0⟩ : S63)] : List (S63))) (inner := [.int .i64 1, .int .i64 0, .int .i64 2, .int .i64 2, .int .i64 1, .int .i64 0, .int .i64 3, .int .i64 1, .int .i64 0]) (ok := fun _ => True) (okp := fun _ => True) ?hr ?hp (fun _ hk => hk) trivial (Below.refl _ _) (Nat.le_refl _) (by simp) ?_; (case hd => rfl); (case hg => rfl); (case hr => first | (go_simp; done) | (go_simp; rfl)); (case hp => exact (Reps.c3 (show Kd.M k63 _ _ _ (⟨1, 0, 2⟩ : S63) [.int .i64 1, .int .i64 0, .int .i64 2] from (k63_mkM _ _ _ (⟨1, 0, 2⟩ : S63) )) (Reps.c3 (show Kd.M k63 _ _ _ (⟨2, 1, 0⟩ : S63) [.int .i64 2, .int .i64 1, .int .i64 0] from (k63_mkM _ _ _ (⟨2, 1, 0⟩ : S63) )) (Reps.c3 (show Kd.M k63 _ _ _ (⟨3, 1, 0⟩ : S63) [.int .i64 3, .int .i64 1, .int .i64 0] from (k63_mkM _ _ _ (⟨3, 1, 0⟩ : S63) )) (Reps.none _ _))))); intro v158 w31 ho32 hb hg_ hnew_; clear hg_ hnew_; (first | rw [← Ny157.out] at ho32 | (simp only [Int.reduceToNat] at ho32; rw [← Ny157.out] at ho32)); have n0_ := Aside0.mk (Kd.R_below (rr_ HO137) hb); have n1_ := Aside0.mk (Kd.R_below (rr_ HO140) hb); have n2_ := Aside0.mk (Kd.R_below (rr_ HO145) hb); have n3_ := Aside0.mk (Kd.R_below (rr_ HO148) hb); have n4_ := Aside0.mk (Kd.R_below (rr_ HO151) hb); have n5_ := Aside0.mk (Kd.R_below (rr_ HO156) hb); have n6_ := Aside0.mk (Kd.R_lower ho32 (below_size (bb_ HB))); have n7_ := Aside0.mk (below_step (bb_ HB) hb); clear HO137; clear HO140; clear HO145; clear HO148; clear HO151; clear HO156; clear HB; have HO137 := n0_; have HO140 := n1_; have HO145 := n2_; have HO148 := n3_; have HO151 := n4_; have HO156 := n5_; have HO159 := n6_; have HB := n7_; clear n0_ n1_ n2_ n3_ n4_ n5_ n6_ n7_; clear hb ho32) | ((with_reducible refine gate_dst (N := 42) rfl ?_); (try (refine gate_guard (by rfl) ?_; dsimp only)); refine Kd.R_lit k38 _ 38 ?hg (N := 42) ?hd (xs := ([(⟨10, 10⟩ : S38), (⟨3, 5⟩ : S38), (⟨0, 100⟩ : S38)] : List (S38))) (inner := [.int .i64 10, .int .i64 10, .int .i64 3, .int .i64 5, .int .i64 0, .int .i64 100]) (ok := fun _ => True) (okp := fun _ => True) ?hr ?hp (fun _ hk => hk) trivial (Below.refl _ _) (Nat.le_refl _) (by simp) ?_; (case hd => rfl); (case hg => rfl); (case hr => first | (go_simp; done) | (go_simp; rfl)); (case hp => exact (Reps.c2 (show Kd.M k38 _ _ _ (⟨10, 10⟩ : S38) [.int .i64 10, .int .i64 10] from (k38_mkM _ _ _ (⟨10, 10⟩ : S38) )) (Reps.c2 (show Kd.M k38 _ _ _ (⟨3, 5⟩ : S38) [.int .i64 3, .int .i64 5] from (k38_mkM _ _ _ (⟨3, 5⟩ : S38) )) (Reps.c2 (show Kd.M k38 _ _ _ (⟨0, 100⟩ : S38) [.int .i64 0, .int .i64 100] from (k38_mkM _ _ _ (⟨0, 100⟩ : S38) )) (Reps.none _ _))))); intro v161 w33 ho34 hb hg_ hnew_; clear hg_ hnew_; (first | rw [← Ny160.out] at ho34 | (simp only [Int.reduceToNat] at ho34; rw [← Ny160.out] at ho34)); have n0_ := Aside0.mk (Kd.R_below (rr_ HO137) hb); have n1_ := Aside0.mk (Kd.R_elder' (rr_ HO140) (Kd.R_base ho34) hb); have n2_ := Aside0.mk (Kd.R_below (rr_ HO145) hb); have n3_ := Aside0.mk (Kd.R_below (rr_ HO148) hb); have n4_ := Aside0.mk (Kd.R_elder' (rr_ HO151) (Kd.R_base ho34) hb); have n5_ := Aside0.mk (Kd.R_below (rr_ HO156) hb); have n6_ := Aside0.mk (Kd.R_below (rr_ HO159) hb); have n7_ := Aside0.mk (Kd.R_lower (Kd.R_new' (Kd.R_new' ho34 (Kd.R_lt (rr_ HO140))) (Kd.R_lt (rr_ HO151))) (below_size (bb_ HB))); have n8_ := Aside0.mk (below_step (bb_ HB) hb); clear HO137; clear HO140; clear HO145; clear HO148; clear HO151; clear HO156; clear HO159; clear HB; have HO137 := n0_; have HO140 := n1_; have HO145 := n2_; have HO148 := n3_; have HO151 := n4_; have HO156 := n5_; have HO159 := n6_; have HO162 := n7_; have HB := n8_; clear n0_ n1_ n2_ n3_ n4_ n5_ n6_ n7_ n8_; clear hb ho34) | ((with_reducible refine gate_dst (N := 43) rfl ?_); (try (refine gate_guard (by rfl) ?_; dsimp only)); refine Kd.R_lit (Kd.int .i64) _ 3 ?hg (N := 43) ?hd (xs := ([4, 7] : List Int)) (inner := [.int .i64 4, .int .i64 7]) (ok := fun _ => True) (okp := fun _ => True) ?hr ?hp (fun _ hk => hk) trivial (Below.refl _ _) (Nat.le_refl _) (by simp) ?_; (case hd => rfl); (case hg => rfl); (case hr => first | (go_simp; done) | (go_simp; rfl)); (case hp => exact (Reps.one (show Kd.M (Kd.int .i64) _ _ _ 4 [.int .i64 4] from rfl) (Reps.one (show Kd.M (Kd.int .i64) _ _ _ 7 [.int .i64 7] from rfl) (Reps.none _ _)))); intro v164 w35 ho36 hb hg_ hnew_; clear hg_ hnew_; (first | rw [← Ny163.out] at ho36 | (simp only [Int.reduceToNat] at ho36; rw [← Ny163.out] at ho36)); have n0_ := Aside0.mk (Kd.R_elder' (rr_ HO137) (Kd.R_base ho36) hb); have n1_ := Aside0.mk (Kd.R_below (rr_ HO140) hb); have n2_ := Aside0.mk (Kd.R_below (rr_ HO145) hb); have n3_ := Aside0.mk (Kd.R_elder' (rr_ HO148) (Kd.R_base ho36) hb); have n4_ := Aside0.mk (Kd.R_below (rr_ HO151) hb); have n5_ := Aside0.mk (Kd.R_below (rr_ HO156) hb); have n6_ := Aside0.mk (Kd.R_below (rr_ HO159) hb); have n7_ := Aside0.mk (Kd.R_below (rr_ HO162) hb); have n8_ := Aside0.mk (Kd.R_lower (Kd.R_new' (Kd.R_new' ho36 (Kd.R_lt (rr_ HO137))) (Kd.R_lt (rr_ HO148))) (below_size (bb_ HB))); have n9_ := Aside0.mk (below_step (bb_ HB) hb); clear HO137; clear HO140; clear HO145; clear HO148; clear HO151; clear HO156; clear HO159; clear HO162; clear HB; have HO137 := n0_; have HO140 := n1_; have HO145 := n2_; have HO148 := n3_; have HO151 := n4_; have HO156 := n5_; have HO159 := n6_; have HO162 := n7_; have HO165 := n8_; have HB := n9_; clear n0_ n1_ n2_ n3_ n4_ n5_ n6_ n7_ n8_ n9_; clear hb ho36; obtain ⟨Ao37, co37, eo37⟩ := Kd.R_slice HO159.out; subst eo37; obtain ⟨Ao38, co38, eo38⟩ := Kd.R_slice HO162.out; subst eo38; obtain ⟨Ao39, co39, eo39⟩ := Kd.R_slice HO165.out; subst eo39) | ((with_reducible refine gate_callee (f := 14) rfl ?_); refine gl_ (some 44) Try.func14 #[.int .i64 100, .slice Ao37 y157.length co37, .slice Ao38 y160.length co38, .slice Ao39 y163.length co39] ?_; (with_reducible refine (charges_Network.calls 100 _ _ y157 _ _ y160 _ _ y163 t166 t167 t168 _ ?side1 ?side2 ?side3 ?side4 ?side5 ?side6 A3.out).mono ?_); (case side1 => exact cc_ ((Kd.R_reads' HO159.out).2.2)); (case side2 => exact (Kd.R_reads' HO159.out).2.1); (case side3 => exact cc_ ((Kd.R_reads' HO162.out).2.2)); (case side4 => exact (Kd.R_reads' HO162.out).2.1); (case side5 => exact cc_ ((Kd.R_reads' HO165.out).2.2)); (case side6 => exact (Kd.R_reads' HO165.out).2.1); rintro e w40 ⟨v169, rfl, ho0, hb⟩; refine ⟨_, rfl, ?_⟩; have n0_ := Aside0.mk (Kd.R_below (rr_ HO137) hb); have n1_ := Aside0.mk (Kd.R_below (rr_ HO140) hb); have n2_ := Aside0.mk (Kd.R_elder' (rr_ HO145) (Kd.R_base ho0) hb); have n3_ := Aside0.mk (Kd.R_below (rr_ HO148) hb); have n4_ := Aside0.mk (Kd.R_below (rr_ HO151) hb); have n5_ := Aside0.mk (Kd.R_elder' (rr_ HO156) (Kd.R_base ho0) hb); have n6_ := Aside0.mk (Kd.R_below (rr_ HO159) hb); have n7_ := Aside0.mk (Kd.R_below (rr_ HO162) hb); have n8_ := Aside0.mk (Kd.R_below (rr_ HO165) hb); have n9_ := Aside0.mk (Kd.R_lower (Kd.R_new' (Kd.R_new' ho0 (Kd.R_lt (rr_ HO145))) (Kd.R_lt (rr_ HO156))) (below_size (bb_ HB))); have n10_ := Aside0.mk (below_step (bb_ HB) hb); clear HO137; clear HO140; clear HO145; clear HO148; clear HO151; clear HO156; clear HO159; clear HO162; clear HO165; clear HB; have HO137 := n0_; have HO140 := n1_; have HO145 := n2_; have HO148 := n3_; have HO151 := n4_; have HO156 := n5_; have HO159 := n6_; have HO162 := n7_; have HO165 := n8_; have HO170 := n9_; have HB := n10_; clear n0_ n1_ n2_ n3_ n4_ n5_ n6_ n7_ n8_ n9_ n10_; (try clear hb); (try clear hb2); (try clear hk); (try clear hi); (try clear ho0)) | ((with_reducible refine gate_dst (N := 53) rfl ?_); (try (refine gate_guard (by rfl) ?_; dsimp only)); refine Kd.R_lit k38 _ 38 ?hg (N := 53) ?hd (xs := ([(⟨9, 10⟩ : S38), (⟨3, 5⟩ : S38), (⟨0, 100⟩ : S38)] : List (S38))) (inner := [.int .i64 9, .int .i64 10, .int .i64 3, .int .i64 5, .int .i64 0, .int .i64 100]) (ok := fun _ => True) (okp := fun _ => True) ?hr ?hp (fun _ hk => hk) trivial (Below.refl _ _) (Nat.le_refl _) (by simp) ?_; (case hd => rfl); (case hg => rfl); (case hr => first | (go_simp; done) | (go_simp; rfl)); (case hp => exact (Reps.c2 (show Kd.M k38 _ _ _ (⟨9, 10⟩ : S38) [.int .i64 9, .int .i64 10] from (k38_mkM _ _ _ (⟨9, 10⟩ : S38) )) (Reps.c2 (show Kd.M k38 _ _ _ (⟨3, 5⟩ : S38) [.int .i64 3, .int .i64 5] from (k38_mkM _ _ _ (⟨3, 5⟩ : S38) )) (Reps.c2 (show Kd.M k38 _ _ _ (⟨0, 100⟩ : S38) [.int .i64 0, .int .i64 100] from (k38_mkM _ _ _ (⟨0, 100⟩ : S38) )) (Reps.none _ _))))); intro v172 w41 ho42 hb hg_ hnew_; clear hg_ hnew_; (first | rw [← Ny171.out] at ho42 | (simp only [Int.reduceToNat] at ho42; rw [← Ny171.out] at ho42)); have n0_ := Aside0.mk (Kd.R_below (rr_ HO137) hb); have n1_ := Aside0.mk (Kd.R_elder' (rr_ HO140) (Kd.R_base ho42) hb); have n2_ := Aside0.mk (Kd.R_below (rr_ HO145) hb); have n3_ := Aside0.mk (Kd.R_below (rr_ HO148) hb); have n4_ := Aside0.mk (Kd.R_elder' (rr_ HO151) (Kd.R_base ho42) hb); have n5_ := Aside0.mk (Kd.R_below (rr_ HO156) hb); have n6_ := Aside0.mk (Kd.R_below (rr_ HO159) hb); have n7_ := Aside0.mk (Kd.R_elder' (rr_ HO162) (Kd.R_base ho42) hb); have n8_ := Aside0.mk (Kd.R_below (rr_ HO165) hb); have n9_ := Aside0.mk (Kd.R_below (rr_ HO170) hb); have n10_ := Aside0.mk (Kd.R_lower (Kd.R_new' (Kd.R_new' (Kd.R_new' ho42 (Kd.R_lt (rr_ HO140))) (Kd.R_lt (rr_ HO151))) (Kd.R_lt (rr_ HO162))) (below_size (bb_ HB))); have n11_ := Aside0.mk (below_step (bb_ HB) hb); clear HO137; clear HO140; clear HO145; clear HO148; clear HO151; clear HO156; clear HO159; clear HO162; clear HO165; clear HO170; clear HB; have HO137 := n0_; have HO140 := n1_; have HO145 := n2_; have HO148 := n3_; have HO151 := n4_; have HO156 := n5_; have HO159 := n6_; have HO162 := n7_; have HO165 := n8_; have HO170 := n9_; have HO173 := n10_; have HB := n11_; clear n0_ n1_ n2_ n3_ n4_ n5_ n6_ n7_ n8_ n9_ n10_ n11_; clear hb ho42) | ((with_reducible refine gate_dst (N := 54) rfl ?_); (try (refine gate_guard (by rfl) ?_; dsimp only)); refine Kd.R_lit (Kd.int .i64) _ 3 ?hg (N := 54) ?hd (xs := ([4, 7] : List Int)) (inner := [.int .i64 4, .int .i64 7]) (ok := fun _ => True) (okp := fun _ => True) ?hr ?hp (fun _ hk => hk) trivial (Below.refl _ _) (Nat.le_refl _) (by simp) ?_; (case hd => rfl); (case hg => rfl); (case hr => first | (go_simp; done) | (go_simp; rfl)); (case hp => exact (Reps.one (show Kd.M (Kd.int .i64) _ _ _ 4 [.int .i64 4] from rfl) (Reps.one (show Kd.M (Kd.int .i64) _ _ _ 7 [.int .i64 7] from rfl) (Reps.none _ _)))); intro v175 w43 ho44 hb hg_ hnew_; clear hg_ hnew_; (first | rw [← Ny174.out] at ho44 | (simp only [Int.reduceToNat] at ho44; rw [← Ny174.out] at ho44)); have n0_ := Aside0.mk (Kd.R_elder' (rr_ HO137) (Kd.R_base ho44) hb); have n1_ := Aside0.mk (Kd.R_below (rr_ HO140) hb); have n2_ := Aside0.mk (Kd.R_below (rr_ HO145) hb); have n3_ := Aside0.mk (Kd.R_elder' (rr_ HO148) (Kd.R_base ho44) hb); have n4_ := Aside0.mk (Kd.R_below (rr_ HO151) hb); have n5_ := Aside0.mk (Kd.R_below (rr_ HO156) hb); have n6_ := Aside0.mk (Kd.R_below (rr_ HO159) hb); have n7_ := Aside0.mk (Kd.R_below (rr_ HO162) hb); have n8_ := Aside0.mk (Kd.R_elder' (rr_ HO165) (Kd.R_base ho44) hb); have n9_ := Aside0.mk (Kd.R_below (rr_ HO170) hb); have n10_ := Aside0.mk (Kd.R_below (rr_ HO173) hb); have n11_ := Aside0.mk (Kd.R_lower (Kd.R_new' (Kd.R_new' (Kd.R_new' ho44 (Kd.R_lt (rr_ HO137))) (Kd.R_lt (rr_ HO148))) (Kd.R_lt (rr_ HO165))) (below_size (bb_ HB))); have n12_ := Aside0.mk (below_step (bb_ HB) hb); clear HO137; clear HO140; clear HO145; clear HO148; clear HO151; clear HO156; clear HO159; clear HO162; clear HO165; clear HO170; clear HO173; clear HB; have HO137 := n0_; have HO140 := n1_; have HO145 := n2_; have HO148 := n3_; have HO151 := n4_; have HO156 := n5_; have HO159 := n6_; have HO162 := n7_; have HO165 := n8_; have HO170 := n9_; have HO173 := n10_; have HO176 := n11_; have HB := n12_; clear n0_ n1_ n2_ n3_ n4_ n5_ n6_ n7_ n8_ n9_ n10_ n11_ n12_; clear hb ho44; obtain ⟨Ao45, co45, eo45⟩ := Kd.R_slice HO173.out; subst eo45; obtain ⟨Ao46, co46, eo46⟩ := Kd.R_slice HO176.out; subst eo46) | ((with_reducible refine gate_callee (f := 14) rfl ?_); refine gl_ (some 55) Try.func14 #[.int .i64 100, .slice Ao37 y157.length co37, .slice Ao45 y171.length co45, .slice Ao46 y174.length co46] ?_; (with_reducible refine (charges_Network.calls 100 _ _ y157 _ _ y171 _ _ y174 t177 t178 t179 _ ?side1 ?side2 ?side3 ?side4 ?side5 ?side6 A4.out).mono ?_); (case side1 => exact cc_ ((Kd.R_reads' HO159.out).2.2)); (case side2 => exact (Kd.R_reads' HO159.out).2.1); (case side3 => exact cc_ ((Kd.R_reads' HO173.out).2.2)); (case side4 => exact (Kd.R_reads' HO173.out).2.1); (case side5 => exact cc_ ((Kd.R_reads' HO176.out).2.2)); (case side6 => exact (Kd.R_reads' HO176.out).2.1); rintro e w47 ⟨v180, rfl, ho0, hb⟩; refine ⟨_, rfl, ?_⟩; have n0_ := Aside0.mk (Kd.R_below (rr_ HO137) hb); have n1_ := Aside0.mk (Kd.R_below (rr_ HO140) hb); have n2_ := Aside0.mk (Kd.R_elder' (rr_ HO145) (Kd.R_base ho0) hb); have n3_ := Aside0.mk (Kd.R_below (rr_ HO148) hb); have n4_ := Aside0.mk (Kd.R_below (rr_ HO151) hb); have n5_ := Aside0.mk (Kd.R_elder' (rr_ HO156) (Kd.R_base ho0) hb); have n6_ := Aside0.mk (Kd.R_below (rr_ HO159) hb); have n7_ := Aside0.mk (Kd.R_below (rr_ HO162) hb); have n8_ := Aside0.mk (Kd.R_below (rr_ HO165) hb); have n9_ := Aside0.mk (Kd.R_elder' (rr_ HO170) (Kd.R_base ho0) hb); have n10_ := Aside0.mk (Kd.R_below (rr_ HO173) hb); have n11_ := Aside0.mk (Kd.R_below (rr_ HO176) hb); have n12_ := Aside0.mk (Kd.R_lower (Kd.R_new' (Kd.R_new' (Kd.R_new' ho0 (Kd.R_lt (rr_ HO145))) (Kd.R_lt (rr_ HO156))) (Kd.R_lt (rr_ HO170))) (below_size (bb_ HB))); have n13_ := Aside0.mk (below_step (bb_ HB) hb); clear HO137; clear HO140; clear HO145; clear HO148; clear HO151; clear HO156; clear HO159; clear HO162; clear HO165; clear HO170; clear HO173; clear HO176; clear HB; have HO137 := n0_; have HO140 := n1_; have HO145 := n2_; have HO148 := n3_; have HO151 := n4_; have HO156 := n5_; have HO159 := n6_; have HO162 := n7_; have HO165 := n8_; have HO170 := n9_; have HO173 := n10_; have HO176 := n11_; have HO181 := n12_; have HB := n13_; clear n0_ n1_ n2_ n3_ n4_ n5_ n6_ n7_ n8_ n9_ n10_ n11_ n12_ n13_; (try clear hb); (try clear hb2); (try clear hk); (try clear hi); (try clear ho0); refine held_ ?_))
 by_cases c5 : t143 = 0
 ·rw [if_pos c5] at H
  have c5b0 : (t143 == 0) = true := beq_iff_eq.mpr c5
  have c5b1 : (t143 != 0) = false := bne_eq_false_iff_eq.mpr c5
  clear c5
  by_cases c6 : t154 = 0
  ·rw [if_pos c6] at H
   have c6b0 : (t154 == 0) = true := beq_iff_eq.mpr c6
   have c6b1 : (t154 != 0) = false := bne_eq_false_iff_eq.mpr c6
   clear c6
   by_cases c7 : t168 = 0
   ·rw [if_pos c7] at H
    have c7b0 : (t168 == 0) = true := beq_iff_eq.mpr c7
    have c7b1 : (t168 != 0) = false := bne_eq_false_iff_eq.mpr c7
    clear c7
    by_cases c8 : t179 = 3
    ·rw [if_pos c8] at H
     have c8b0 : (t179 == 3) = true := beq_iff_eq.mpr c8
     have c8b1 : (t179 != 3) = false := bne_eq_false_iff_eq.mpr c8
     clear c8
     by_cases c9 : t142 = 40
     ·rw [if_pos c9] at H
      have c9b0 : (t142 == 40) = true := beq_iff_eq.mpr c9
      have c9b1 : (t142 != 40) = false := bne_eq_false_iff_eq.mpr c9
      clear c9
      by_cases c10 : t153 = 0
      ·rw [if_pos c10] at H
       have c10b0 : (t153 == 0) = true := beq_iff_eq.mpr c10
       have c10b1 : (t153 != 0) = false := bne_eq_false_iff_eq.mpr c10
       clear c10
       by_cases c11 : t167 = 10
       ·rw [if_pos c11] at H
        have c11b0 : (t167 == 10) = true := beq_iff_eq.mpr c11
        have c11b1 : (t167 != 10) = false := bne_eq_false_iff_eq.mpr c11
        clear c11
        obtain ⟨y182, hy182⟩ : ∃ y_ : List (S43), y_ = (([(⟨1, 30, (⟨30, 30⟩ : S38), true⟩ : S43), (⟨2, 30, (⟨20, 40⟩ : S38), false⟩ : S43)] : List (S43))) := ⟨_, rfl⟩
        replace H : ((cohousingref29_Same.f k t141 y182).bind fun t185 => (if t185 = true then ((cohousingref29_Same.f k t152 (([(⟨1, 30, (⟨30, 30⟩ : S38), true⟩ : S43), (⟨2, 70, (⟨60, 100⟩ : S38), false⟩ : S43)] : List (S43)))).bind fun t189 => (if t189 = true then ((cohousingref29_Same.f k t166 (([(⟨4, 40, (⟨30, 50⟩ : S38), false⟩ : S43), (⟨7, 50, (⟨30, 70⟩ : S38), false⟩ : S43)] : List (S43)))).bind fun t193 => (some t193)) else (some false))) else (some false))) = some r := by first | (rw [hy182]; with_reducible exact H) | (have H2_ := (Option.bind_some _ _).symm.trans H; rw [hy182]; with_reducible exact H2_) | (have H2_ := (Option.bind_some _ _).symm.trans H; with_reducible exact H2_) | with_reducible exact H | (rw [hy182]; exact H) | exact H
        have Ny182 := Aside0.mk hy182
        clear hy182
        replace H := Option.bind_eq_some_iff.mp H
        obtain ⟨t185, A120, H⟩ := H
        replace H : (if t185 = true then ((cohousingref29_Same.f k t152 (([(⟨1, 30, (⟨30, 30⟩ : S38), true⟩ : S43), (⟨2, 70, (⟨60, 100⟩ : S38), false⟩ : S43)] : List (S43)))).bind fun t189 => (if t189 = true then ((cohousingref29_Same.f k t166 (([(⟨4, 40, (⟨30, 50⟩ : S38), false⟩ : S43), (⟨7, 50, (⟨30, 70⟩ : S38), false⟩ : S43)] : List (S43)))).bind fun t193 => (some t193)) else (some false))) else (some false)) = some r := H
        have A12 := Aside0.mk A120
        clear A120
        by_cases c13 : t185 = true
        ·subst c13
         have H1 : ((cohousingref29_Same.f k t152 (([(⟨1, 30, (⟨30, 30⟩ : S38), true⟩ : S43), (⟨2, 70, (⟨60, 100⟩ : S38), false⟩ : S43)] : List (S43)))).bind fun t189 => (if t189 = true then ((cohousingref29_Same.f k t166 (([(⟨4, 40, (⟨30, 50⟩ : S38), false⟩ : S43), (⟨7, 50, (⟨30, 70⟩ : S38), false⟩ : S43)] : List (S43)))).bind fun t193 => (some t193)) else (some false))) = some r := by rw [if_pos rfl] at H; exact H
         clear H
         have H := H1
         clear H1
         obtain ⟨y186, hy186⟩ : ∃ y_ : List (S43), y_ = (([(⟨1, 30, (⟨30, 30⟩ : S38), true⟩ : S43), (⟨2, 70, (⟨60, 100⟩ : S38), false⟩ : S43)] : List (S43))) := ⟨_, rfl⟩
         replace H : ((cohousingref29_Same.f k t152 y186).bind fun t189 => (if t189 = true then ((cohousingref29_Same.f k t166 (([(⟨4, 40, (⟨30, 50⟩ : S38), false⟩ : S43), (⟨7, 50, (⟨30, 70⟩ : S38), false⟩ : S43)] : List (S43)))).bind fun t193 => (some t193)) else (some false))) = some r := by first | (rw [hy186]; with_reducible exact H) | (have H2_ := (Option.bind_some _ _).symm.trans H; rw [hy186]; with_reducible exact H2_) | (have H2_ := (Option.bind_some _ _).symm.trans H; with_reducible exact H2_) | with_reducible exact H | (rw [hy186]; exact H) | exact H
         have Ny186 := Aside0.mk hy186
         clear hy186
         replace H := Option.bind_eq_some_iff.mp H
         obtain ⟨t189, A140, H⟩ := H
         replace H : (if t189 = true then ((cohousingref29_Same.f k t166 (([(⟨4, 40, (⟨30, 50⟩ : S38), false⟩ : S43), (⟨7, 50, (⟨30, 70⟩ : S38), false⟩ : S43)] : List (S43)))).bind fun t193 => (some t193)) else (some false)) = some r := H
         have A14 := Aside0.mk A140
         clear A140
         by_cases c15 : t189 = true
         ·subst c15
          have H1 : ((cohousingref29_Same.f k t166 (([(⟨4, 40, (⟨30, 50⟩ : S38), false⟩ : S43), (⟨7, 50, (⟨30, 70⟩ : S38), false⟩ : S43)] : List (S43)))).bind fun t193 => (some t193)) = some r := by rw [if_pos rfl] at H; exact H
          clear H
          have H := H1
          clear H1
          obtain ⟨y190, hy190⟩ : ∃ y_ : List (S43), y_ = (([(⟨4, 40, (⟨30, 50⟩ : S38), false⟩ : S43), (⟨7, 50, (⟨30, 70⟩ : S38), false⟩ : S43)] : List (S43))) := ⟨_, rfl⟩
          replace H : ((cohousingref29_Same.f k t166 y190).bind fun t193 => (some t193)) = some r := by first | (rw [hy190]; with_reducible exact H) | (have H2_ := (Option.bind_some _ _).symm.trans H; rw [hy190]; with_reducible exact H2_) | (have H2_ := (Option.bind_some _ _).symm.trans H; with_reducible exact H2_) | with_reducible exact H | (rw [hy190]; exact H) | exact H
          have Ny190 := Aside0.mk hy190
          clear hy190
          replace H := Option.bind_eq_some_iff.mp H
          obtain ⟨t193, A160, H⟩ := H
          replace H : (some t193) = some r := H
          have A16 := Aside0.mk A160
          clear A160
          obtain rfl := Option.some.inj H
          refine unheld_ ?_
          go_wp2_with (first | ((with_reducible refine gate_dst (N := 92) rfl ?_); (try (refine gate_guard (by rfl) ?_; dsimp only)); refine Kd.R_lit k43 _ 43 ?hg (N := 92) ?hd (xs := ([(⟨1, 30, (⟨30, 30⟩ : S38), true⟩ : S43), (⟨2, 30, (⟨20, 40⟩ : S38), false⟩ : S43)] : List (S43))) (inner := [.int .i64 1, .int .i64 30, .int .i64 30, .int .i64 30, .bool true, .int .i64 2, .int .i64 30, .int .i64 20, .int .i64 40, .bool false]) (ok := fun _ => True) (okp := fun _ => True) ?hr ?hp (fun _ hk => hk) trivial (Below.refl _ _) (Nat.le_refl _) (by simp) ?_; (case hd => rfl); (case hg => rfl); (case hr => first | (go_simp; done) | (go_simp; rfl)); (case hp => exact (Reps.c5 (show Kd.M k43 _ _ _ (⟨1, 30, (⟨30, 30⟩ : S38), true⟩ : S43) [.int .i64 1, .int .i64 30, .int .i64 30, .int .i64 30, .bool true] from (k43_mkM _ _ _ (⟨1, 30, (⟨30, 30⟩ : S38), true⟩ : S43) )) (Reps.c5 (show Kd.M k43 _ _ _ (⟨2, 30, (⟨20, 40⟩ : S38), false⟩ : S43) [.int .i64 2, .int .i64 30, .int .i64 20, .int .i64 40, .bool false] from (k43_mkM _ _ _ (⟨2, 30, (⟨20, 40⟩ : S38), false⟩ : S43) )) (Reps.none _ _)))); intro v183 w48 ho49 hb hg_ hnew_; clear hg_ hnew_; (first | rw [← Ny182.out] at ho49 | (simp only [Int.reduceToNat] at ho49; rw [← Ny182.out] at ho49)); have n0_ := Aside0.mk (Kd.R_below (rr_ HO137) hb); have n1_ := Aside0.mk (Kd.R_below (rr_ HO140) hb); have n2_ := Aside0.mk (Kd.R_elder' (rr_ HO145) (Kd.R_base ho49) hb); have n3_ := Aside0.mk (Kd.R_below (rr_ HO148) hb); have n4_ := Aside0.mk (Kd.R_below (rr_ HO151) hb); have n5_ := Aside0.mk (Kd.R_elder' (rr_ HO156) (Kd.R_base ho49) hb); have n6_ := Aside0.mk (Kd.R_below (rr_ HO159) hb); have n7_ := Aside0.mk (Kd.R_below (rr_ HO162) hb); have n8_ := Aside0.mk (Kd.R_below (rr_ HO165) hb); have n9_ := Aside0.mk (Kd.R_elder' (rr_ HO170) (Kd.R_base ho49) hb); have n10_ := Aside0.mk (Kd.R_below (rr_ HO173) hb); have n11_ := Aside0.mk (Kd.R_below (rr_ HO176) hb); have n12_ := Aside0.mk (Kd.R_elder' (rr_ HO181) (Kd.R_base ho49) hb); have n13_ := Aside0.mk (Kd.R_lower (Kd.R_new' (Kd.R_new' (Kd.R_new' (Kd.R_new' ho49 (Kd.R_lt (rr_ HO145))) (Kd.R_lt (rr_ HO156))) (Kd.R_lt (rr_ HO170))) (Kd.R_lt (rr_ HO181))) (below_size (bb_ HB))); have n14_ := Aside0.mk (below_step (bb_ HB) hb); clear HO137; clear HO140; clear HO145; clear HO148; clear HO151; clear HO156; clear HO159; clear HO162; clear HO165; clear HO170; clear HO173; clear HO176; clear HO181; clear HB; have HO137 := n0_; have HO140 := n1_; have HO145 := n2_; have HO148 := n3_; have HO151 := n4_; have HO156 := n5_; have HO159 := n6_; have HO162 := n7_; have HO165 := n8_; have HO170 := n9_; have HO173 := n10_; have HO176 := n11_; have HO181 := n12_; have HO184 := n13_; have HB := n14_; clear n0_ n1_ n2_ n3_ n4_ n5_ n6_ n7_ n8_ n9_ n10_ n11_ n12_ n13_ n14_; clear hb ho49; obtain ⟨Ao50, co50, eo50⟩ := Kd.R_slice HO145.out; subst eo50; obtain ⟨Ao51, co51, eo51⟩ := Kd.R_slice HO184.out; subst eo51) | (go_at_call 27; (with_reducible refine (cohousingref29_Same.calls k _ _ t141 _ _ y182 true _ ?side1 ?side2 ?side3 ?side4 A12.out).mono ?_); (case side1 => exact cc_ ((Kd.R_reads' HO145.out).2.2)); (case side2 => exact (Kd.R_reads' HO145.out).2.1); (case side3 => exact cc_ ((Kd.R_reads' HO184.out).2.2)); (case side4 => exact (Kd.R_reads' HO184.out).2.1); rintro e w' ⟨rfl, ⟨nd, rfl⟩⟩) | ((with_reducible refine gate_dst (N := 102) rfl ?_); (try (refine gate_guard (by rfl) ?_; dsimp only)); refine Kd.R_lit k43 _ 43 ?hg (N := 102) ?hd (xs := ([(⟨1, 30, (⟨30, 30⟩ : S38), true⟩ : S43), (⟨2, 70, (⟨60, 100⟩ : S38), false⟩ : S43)] : List (S43))) (inner := [.int .i64 1, .int .i64 30, .int .i64 30, .int .i64 30, .bool true, .int .i64 2, .int .i64 70, .int .i64 60, .int .i64 100, .bool false]) (ok := fun _ => True) (okp := fun _ => True) ?hr ?hp (fun _ hk => hk) trivial (Below.refl _ _) (Nat.le_refl _) (by simp) ?_; (case hd => rfl); (case hg => rfl); (case hr => first | (go_simp; done) | (go_simp; rfl)); (case hp => exact (Reps.c5 (show Kd.M k43 _ _ _ (⟨1, 30, (⟨30, 30⟩ : S38), true⟩ : S43) [.int .i64 1, .int .i64 30, .int .i64 30, .int .i64 30, .bool true] from (k43_mkM _ _ _ (⟨1, 30, (⟨30, 30⟩ : S38), true⟩ : S43) )) (Reps.c5 (show Kd.M k43 _ _ _ (⟨2, 70, (⟨60, 100⟩ : S38), false⟩ : S43) [.int .i64 2, .int .i64 70, .int .i64 60, .int .i64 100, .bool false] from (k43_mkM _ _ _ (⟨2, 70, (⟨60, 100⟩ : S38), false⟩ : S43) )) (Reps.none _ _)))); intro v187 w52 ho53 hb hg_ hnew_; clear hg_ hnew_; (first | rw [← Ny186.out] at ho53 | (simp only [Int.reduceToNat] at ho53; rw [← Ny186.out] at ho53)); have n0_ := Aside0.mk (Kd.R_below (rr_ HO137) hb); have n1_ := Aside0.mk (Kd.R_below (rr_ HO140) hb); have n2_ := Aside0.mk (Kd.R_elder' (rr_ HO145) (Kd.R_base ho53) hb); have n3_ := Aside0.mk (Kd.R_below (rr_ HO148) hb); have n4_ := Aside0.mk (Kd.R_below (rr_ HO151) hb); have n5_ := Aside0.mk (Kd.R_elder' (rr_ HO156) (Kd.R_base ho53) hb); have n6_ := Aside0.mk (Kd.R_below (rr_ HO159) hb); have n7_ := Aside0.mk (Kd.R_below (rr_ HO162) hb); have n8_ := Aside0.mk (Kd.R_below (rr_ HO165) hb); have n9_ := Aside0.mk (Kd.R_elder' (rr_ HO170) (Kd.R_base ho53) hb); have n10_ := Aside0.mk (Kd.R_below (rr_ HO173) hb); have n11_ := Aside0.mk (Kd.R_below (rr_ HO176) hb); have n12_ := Aside0.mk (Kd.R_elder' (rr_ HO181) (Kd.R_base ho53) hb); have n13_ := Aside0.mk (Kd.R_elder' (rr_ HO184) (Kd.R_base ho53) hb); have n14_ := Aside0.mk (Kd.R_lower (Kd.R_new' (Kd.R_new' (Kd.R_new' (Kd.R_new' (Kd.R_new' ho53 (Kd.R_lt (rr_ HO145))) (Kd.R_lt (rr_ HO156))) (Kd.R_lt (rr_ HO170))) (Kd.R_lt (rr_ HO181))) (Kd.R_lt (rr_ HO184))) (below_size (bb_ HB))); have n15_ := Aside0.mk (below_step (bb_ HB) hb); clear HO137; clear HO140; clear HO145; clear HO148; clear HO151; clear HO156; clear HO159; clear HO162; clear HO165; clear HO170; clear HO173; clear HO176; clear HO181; clear HO184; clear HB; have HO137 := n0_; have HO140 := n1_; have HO145 := n2_; have HO148 := n3_; have HO151 := n4_; have HO156 := n5_; have HO159 := n6_; have HO162 := n7_; have HO165 := n8_; have HO170 := n9_; have HO173 := n10_; have HO176 := n11_; have HO181 := n12_; have HO184 := n13_; have HO188 := n14_; have HB := n15_; clear n0_ n1_ n2_ n3_ n4_ n5_ n6_ n7_ n8_ n9_ n10_ n11_ n12_ n13_ n14_ n15_; clear hb ho53; obtain ⟨Ao54, co54, eo54⟩ := Kd.R_slice HO156.out; subst eo54; obtain ⟨Ao55, co55, eo55⟩ := Kd.R_slice HO188.out; subst eo55) | (go_at_call 27; (with_reducible refine (cohousingref29_Same.calls k _ _ t152 _ _ y186 true _ ?side1 ?side2 ?side3 ?side4 A14.out).mono ?_); (case side1 => exact cc_ ((Kd.R_reads' HO156.out).2.2)); (case side2 => exact (Kd.R_reads' HO156.out).2.1); (case side3 => exact cc_ ((Kd.R_reads' HO188.out).2.2)); (case side4 => exact (Kd.R_reads' HO188.out).2.1); rintro e w' ⟨rfl, ⟨nd, rfl⟩⟩) | ((with_reducible refine gate_dst (N := 112) rfl ?_); (try (refine gate_guard (by rfl) ?_; dsimp only)); refine Kd.R_lit k43 _ 43 ?hg (N := 112) ?hd (xs := ([(⟨4, 40, (⟨30, 50⟩ : S38), false⟩ : S43), (⟨7, 50, (⟨30, 70⟩ : S38), false⟩ : S43)] : List (S43))) (inner := [.int .i64 4, .int .i64 40, .int .i64 30, .int .i64 50, .bool false, .int .i64 7, .int .i64 50, .int .i64 30, .int .i64 70, .bool false]) (ok := fun _ => True) (okp := fun _ => True) ?hr ?hp (fun _ hk => hk) trivial (Below.refl _ _) (Nat.le_refl _) (by simp) ?_; (case hd => rfl); (case hg => rfl); (case hr => first | (go_simp; done) | (go_simp; rfl)); (case hp => exact (Reps.c5 (show Kd.M k43 _ _ _ (⟨4, 40, (⟨30, 50⟩ : S38), false⟩ : S43) [.int .i64 4, .int .i64 40, .int .i64 30, .int .i64 50, .bool false] from (k43_mkM _ _ _ (⟨4, 40, (⟨30, 50⟩ : S38), false⟩ : S43) )) (Reps.c5 (show Kd.M k43 _ _ _ (⟨7, 50, (⟨30, 70⟩ : S38), false⟩ : S43) [.int .i64 7, .int .i64 50, .int .i64 30, .int .i64 70, .bool false] from (k43_mkM _ _ _ (⟨7, 50, (⟨30, 70⟩ : S38), false⟩ : S43) )) (Reps.none _ _)))); intro v191 w56 ho57 hb hg_ hnew_; clear hg_ hnew_; (first | rw [← Ny190.out] at ho57 | (simp only [Int.reduceToNat] at ho57; rw [← Ny190.out] at ho57)); have n0_ := Aside0.mk (Kd.R_below (rr_ HO137) hb); have n1_ := Aside0.mk (Kd.R_below (rr_ HO140) hb); have n2_ := Aside0.mk (Kd.R_elder' (rr_ HO145) (Kd.R_base ho57) hb); have n3_ := Aside0.mk (Kd.R_below (rr_ HO148) hb); have n4_ := Aside0.mk (Kd.R_below (rr_ HO151) hb); have n5_ := Aside0.mk (Kd.R_elder' (rr_ HO156) (Kd.R_base ho57) hb); have n6_ := Aside0.mk (Kd.R_below (rr_ HO159) hb); have n7_ := Aside0.mk (Kd.R_below (rr_ HO162) hb); have n8_ := Aside0.mk (Kd.R_below (rr_ HO165) hb); have n9_ := Aside0.mk (Kd.R_elder' (rr_ HO170) (Kd.R_base ho57) hb); have n10_ := Aside0.mk (Kd.R_below (rr_ HO173) hb); have n11_ := Aside0.mk (Kd.R_below (rr_ HO176) hb); have n12_ := Aside0.mk (Kd.R_elder' (rr_ HO181) (Kd.R_base ho57) hb); have n13_ := Aside0.mk (Kd.R_elder' (rr_ HO184) (Kd.R_base ho57) hb); have n14_ := Aside0.mk (Kd.R_elder' (rr_ HO188) (Kd.R_base ho57) hb); have n15_ := Aside0.mk (Kd.R_lower (Kd.R_new' (Kd.R_new' (Kd.R_new' (Kd.R_new' (Kd.R_new' (Kd.R_new' ho57 (Kd.R_lt (rr_ HO145))) (Kd.R_lt (rr_ HO156))) (Kd.R_lt (rr_ HO170))) (Kd.R_lt (rr_ HO181))) (Kd.R_lt (rr_ HO184))) (Kd.R_lt (rr_ HO188))) (below_size (bb_ HB))); have n16_ := Aside0.mk (below_step (bb_ HB) hb); clear HO137; clear HO140; clear HO145; clear HO148; clear HO151; clear HO156; clear HO159; clear HO162; clear HO165; clear HO170; clear HO173; clear HO176; clear HO181; clear HO184; clear HO188; clear HB; have HO137 := n0_; have HO140 := n1_; have HO145 := n2_; have HO148 := n3_; have HO151 := n4_; have HO156 := n5_; have HO159 := n6_; have HO162 := n7_; have HO165 := n8_; have HO170 := n9_; have HO173 := n10_; have HO176 := n11_; have HO181 := n12_; have HO184 := n13_; have HO188 := n14_; have HO192 := n15_; have HB := n16_; clear n0_ n1_ n2_ n3_ n4_ n5_ n6_ n7_ n8_ n9_ n10_ n11_ n12_ n13_ n14_ n15_ n16_; clear hb ho57; obtain ⟨Ao58, co58, eo58⟩ := Kd.R_slice HO170.out; subst eo58; obtain ⟨Ao59, co59, eo59⟩ := Kd.R_slice HO192.out; subst eo59) | (go_at_call 27; (with_reducible refine (cohousingref29_Same.calls k _ _ t166 _ _ y190 t193 _ ?side1 ?side2 ?side3 ?side4 A16.out).mono ?_); (case side1 => exact cc_ ((Kd.R_reads' HO170.out).2.2)); (case side2 => exact (Kd.R_reads' HO170.out).2.1); (case side3 => exact cc_ ((Kd.R_reads' HO192.out).2.2)); (case side4 => exact (Kd.R_reads' HO192.out).2.1); rintro e w' ⟨rfl, ⟨nd, rfl⟩⟩))
          go_ret
          exact ⟨ew_, by repeat (first | (with_reducible first | exact HB.out | apply below_alloc | apply pw_below_drewN | apply below_drew1) | exact HB.out)⟩
         ·replace c15 := Bool.eq_false_iff.mpr c15
          subst c15
          have H1 : (some false) = some r := by rw [if_neg (show ¬ (false = true) by decide)] at H; exact H
          clear H
          have H := H1
          clear H1
          obtain rfl := Option.some.inj H
          refine unheld_ ?_
          go_wp2_with (first | ((with_reducible refine gate_dst (N := 92) rfl ?_); (try (refine gate_guard (by rfl) ?_; dsimp only)); refine Kd.R_lit k43 _ 43 ?hg (N := 92) ?hd (xs := ([(⟨1, 30, (⟨30, 30⟩ : S38), true⟩ : S43), (⟨2, 30, (⟨20, 40⟩ : S38), false⟩ : S43)] : List (S43))) (inner := [.int .i64 1, .int .i64 30, .int .i64 30, .int .i64 30, .bool true, .int .i64 2, .int .i64 30, .int .i64 20, .int .i64 40, .bool false]) (ok := fun _ => True) (okp := fun _ => True) ?hr ?hp (fun _ hk => hk) trivial (Below.refl _ _) (Nat.le_refl _) (by simp) ?_; (case hd => rfl); (case hg => rfl); (case hr => first | (go_simp; done) | (go_simp; rfl)); (case hp => exact (Reps.c5 (show Kd.M k43 _ _ _ (⟨1, 30, (⟨30, 30⟩ : S38), true⟩ : S43) [.int .i64 1, .int .i64 30, .int .i64 30, .int .i64 30, .bool true] from (k43_mkM _ _ _ (⟨1, 30, (⟨30, 30⟩ : S38), true⟩ : S43) )) (Reps.c5 (show Kd.M k43 _ _ _ (⟨2, 30, (⟨20, 40⟩ : S38), false⟩ : S43) [.int .i64 2, .int .i64 30, .int .i64 20, .int .i64 40, .bool false] from (k43_mkM _ _ _ (⟨2, 30, (⟨20, 40⟩ : S38), false⟩ : S43) )) (Reps.none _ _)))); intro v183 w48 ho49 hb hg_ hnew_; clear hg_ hnew_; (first | rw [← Ny182.out] at ho49 | (simp only [Int.reduceToNat] at ho49; rw [← Ny182.out] at ho49)); have n0_ := Aside0.mk (Kd.R_below (rr_ HO137) hb); have n1_ := Aside0.mk (Kd.R_below (rr_ HO140) hb); have n2_ := Aside0.mk (Kd.R_elder' (rr_ HO145) (Kd.R_base ho49) hb); have n3_ := Aside0.mk (Kd.R_below (rr_ HO148) hb); have n4_ := Aside0.mk (Kd.R_below (rr_ HO151) hb); have n5_ := Aside0.mk (Kd.R_elder' (rr_ HO156) (Kd.R_base ho49) hb); have n6_ := Aside0.mk (Kd.R_below (rr_ HO159) hb); have n7_ := Aside0.mk (Kd.R_below (rr_ HO162) hb); have n8_ := Aside0.mk (Kd.R_below (rr_ HO165) hb); have n9_ := Aside0.mk (Kd.R_elder' (rr_ HO170) (Kd.R_base ho49) hb); have n10_ := Aside0.mk (Kd.R_below (rr_ HO173) hb); have n11_ := Aside0.mk (Kd.R_below (rr_ HO176) hb); have n12_ := Aside0.mk (Kd.R_elder' (rr_ HO181) (Kd.R_base ho49) hb); have n13_ := Aside0.mk (Kd.R_lower (Kd.R_new' (Kd.R_new' (Kd.R_new' (Kd.R_new' ho49 (Kd.R_lt (rr_ HO145))) (Kd.R_lt (rr_ HO156))) (Kd.R_lt (rr_ HO170))) (Kd.R_lt (rr_ HO181))) (below_size (bb_ HB))); have n14_ := Aside0.mk (below_step (bb_ HB) hb); clear HO137; clear HO140; clear HO145; clear HO148; clear HO151; clear HO156; clear HO159; clear HO162; clear HO165; clear HO170; clear HO173; clear HO176; clear HO181; clear HB; have HO137 := n0_; have HO140 := n1_; have HO145 := n2_; have HO148 := n3_; have HO151 := n4_; have HO156 := n5_; have HO159 := n6_; have HO162 := n7_; have HO165 := n8_; have HO170 := n9_; have HO173 := n10_; have HO176 := n11_; have HO181 := n12_; have HO184 := n13_; have HB := n14_; clear n0_ n1_ n2_ n3_ n4_ n5_ n6_ n7_ n8_ n9_ n10_ n11_ n12_ n13_ n14_; clear hb ho49; obtain ⟨Ao50, co50, eo50⟩ := Kd.R_slice HO145.out; subst eo50; obtain ⟨Ao51, co51, eo51⟩ := Kd.R_slice HO184.out; subst eo51) | (go_at_call 27; (with_reducible refine (cohousingref29_Same.calls k _ _ t141 _ _ y182 true _ ?side1 ?side2 ?side3 ?side4 A12.out).mono ?_); (case side1 => exact cc_ ((Kd.R_reads' HO145.out).2.2)); (case side2 => exact (Kd.R_reads' HO145.out).2.1); (case side3 => exact cc_ ((Kd.R_reads' HO184.out).2.2)); (case side4 => exact (Kd.R_reads' HO184.out).2.1); rintro e w' ⟨rfl, ⟨nd, rfl⟩⟩) | ((with_reducible refine gate_dst (N := 102) rfl ?_); (try (refine gate_guard (by rfl) ?_; dsimp only)); refine Kd.R_lit k43 _ 43 ?hg (N := 102) ?hd (xs := ([(⟨1, 30, (⟨30, 30⟩ : S38), true⟩ : S43), (⟨2, 70, (⟨60, 100⟩ : S38), false⟩ : S43)] : List (S43))) (inner := [.int .i64 1, .int .i64 30, .int .i64 30, .int .i64 30, .bool true, .int .i64 2, .int .i64 70, .int .i64 60, .int .i64 100, .bool false]) (ok := fun _ => True) (okp := fun _ => True) ?hr ?hp (fun _ hk => hk) trivial (Below.refl _ _) (Nat.le_refl _) (by simp) ?_; (case hd => rfl); (case hg => rfl); (case hr => first | (go_simp; done) | (go_simp; rfl)); (case hp => exact (Reps.c5 (show Kd.M k43 _ _ _ (⟨1, 30, (⟨30, 30⟩ : S38), true⟩ : S43) [.int .i64 1, .int .i64 30, .int .i64 30, .int .i64 30, .bool true] from (k43_mkM _ _ _ (⟨1, 30, (⟨30, 30⟩ : S38), true⟩ : S43) )) (Reps.c5 (show Kd.M k43 _ _ _ (⟨2, 70, (⟨60, 100⟩ : S38), false⟩ : S43) [.int .i64 2, .int .i64 70, .int .i64 60, .int .i64 100, .bool false] from (k43_mkM _ _ _ (⟨2, 70, (⟨60, 100⟩ : S38), false⟩ : S43) )) (Reps.none _ _)))); intro v187 w52 ho53 hb hg_ hnew_; clear hg_ hnew_; (first | rw [← Ny186.out] at ho53 | (simp only [Int.reduceToNat] at ho53; rw [← Ny186.out] at ho53)); have n0_ := Aside0.mk (Kd.R_below (rr_ HO137) hb); have n1_ := Aside0.mk (Kd.R_below (rr_ HO140) hb); have n2_ := Aside0.mk (Kd.R_elder' (rr_ HO145) (Kd.R_base ho53) hb); have n3_ := Aside0.mk (Kd.R_below (rr_ HO148) hb); have n4_ := Aside0.mk (Kd.R_below (rr_ HO151) hb); have n5_ := Aside0.mk (Kd.R_elder' (rr_ HO156) (Kd.R_base ho53) hb); have n6_ := Aside0.mk (Kd.R_below (rr_ HO159) hb); have n7_ := Aside0.mk (Kd.R_below (rr_ HO162) hb); have n8_ := Aside0.mk (Kd.R_below (rr_ HO165) hb); have n9_ := Aside0.mk (Kd.R_elder' (rr_ HO170) (Kd.R_base ho53) hb); have n10_ := Aside0.mk (Kd.R_below (rr_ HO173) hb); have n11_ := Aside0.mk (Kd.R_below (rr_ HO176) hb); have n12_ := Aside0.mk (Kd.R_elder' (rr_ HO181) (Kd.R_base ho53) hb); have n13_ := Aside0.mk (Kd.R_elder' (rr_ HO184) (Kd.R_base ho53) hb); have n14_ := Aside0.mk (Kd.R_lower (Kd.R_new' (Kd.R_new' (Kd.R_new' (Kd.R_new' (Kd.R_new' ho53 (Kd.R_lt (rr_ HO145))) (Kd.R_lt (rr_ HO156))) (Kd.R_lt (rr_ HO170))) (Kd.R_lt (rr_ HO181))) (Kd.R_lt (rr_ HO184))) (below_size (bb_ HB))); have n15_ := Aside0.mk (below_step (bb_ HB) hb); clear HO137; clear HO140; clear HO145; clear HO148; clear HO151; clear HO156; clear HO159; clear HO162; clear HO165; clear HO170; clear HO173; clear HO176; clear HO181; clear HO184; clear HB; have HO137 := n0_; have HO140 := n1_; have HO145 := n2_; have HO148 := n3_; have HO151 := n4_; have HO156 := n5_; have HO159 := n6_; have HO162 := n7_; have HO165 := n8_; have HO170 := n9_; have HO173 := n10_; have HO176 := n11_; have HO181 := n12_; have HO184 := n13_; have HO188 := n14_; have HB := n15_; clear n0_ n1_ n2_ n3_ n4_ n5_ n6_ n7_ n8_ n9_ n10_ n11_ n12_ n13_ n14_ n15_; clear hb ho53; obtain ⟨Ao54, co54, eo54⟩ := Kd.R_slice HO156.out; subst eo54; obtain ⟨Ao55, co55, eo55⟩ := Kd.R_slice HO188.out; subst eo55) | (go_at_call 27; (with_reducible refine (cohousingref29_Same.calls k _ _ t152 _ _ y186 false _ ?side1 ?side2 ?side3 ?side4 A14.out).mono ?_); (case side1 => exact cc_ ((Kd.R_reads' HO156.out).2.2)); (case side2 => exact (Kd.R_reads' HO156.out).2.1); (case side3 => exact cc_ ((Kd.R_reads' HO188.out).2.2)); (case side4 => exact (Kd.R_reads' HO188.out).2.1); rintro e w' ⟨rfl, ⟨nd, rfl⟩⟩))
          go_ret
          exact ⟨ew_, by repeat (first | (with_reducible first | exact HB.out | apply below_alloc | apply pw_below_drewN | apply below_drew1) | exact HB.out)⟩
        ·replace c13 := Bool.eq_false_iff.mpr c13
         subst c13
         have H1 : (some false) = some r := by rw [if_neg (show ¬ (false = true) by decide)] at H; exact H
         clear H
         have H := H1
         clear H1
         obtain rfl := Option.some.inj H
         refine unheld_ ?_
         go_wp2_with (first | ((with_reducible refine gate_dst (N := 92) rfl ?_); (try (refine gate_guard (by rfl) ?_; dsimp only)); refine Kd.R_lit k43 _ 43 ?hg (N := 92) ?hd (xs := ([(⟨1, 30, (⟨30, 30⟩ : S38), true⟩ : S43), (⟨2, 30, (⟨20, 40⟩ : S38), false⟩ : S43)] : List (S43))) (inner := [.int .i64 1, .int .i64 30, .int .i64 30, .int .i64 30, .bool true, .int .i64 2, .int .i64 30, .int .i64 20, .int .i64 40, .bool false]) (ok := fun _ => True) (okp := fun _ => True) ?hr ?hp (fun _ hk => hk) trivial (Below.refl _ _) (Nat.le_refl _) (by simp) ?_; (case hd => rfl); (case hg => rfl); (case hr => first | (go_simp; done) | (go_simp; rfl)); (case hp => exact (Reps.c5 (show Kd.M k43 _ _ _ (⟨1, 30, (⟨30, 30⟩ : S38), true⟩ : S43) [.int .i64 1, .int .i64 30, .int .i64 30, .int .i64 30, .bool true] from (k43_mkM _ _ _ (⟨1, 30, (⟨30, 30⟩ : S38), true⟩ : S43) )) (Reps.c5 (show Kd.M k43 _ _ _ (⟨2, 30, (⟨20, 40⟩ : S38), false⟩ : S43) [.int .i64 2, .int .i64 30, .int .i64 20, .int .i64 40, .bool false] from (k43_mkM _ _ _ (⟨2, 30, (⟨20, 40⟩ : S38), false⟩ : S43) )) (Reps.none _ _)))); intro v183 w48 ho49 hb hg_ hnew_; clear hg_ hnew_; (first | rw [← Ny182.out] at ho49 | (simp only [Int.reduceToNat] at ho49; rw [← Ny182.out] at ho49)); have n0_ := Aside0.mk (Kd.R_below (rr_ HO137) hb); have n1_ := Aside0.mk (Kd.R_below (rr_ HO140) hb); have n2_ := Aside0.mk (Kd.R_elder' (rr_ HO145) (Kd.R_base ho49) hb); have n3_ := Aside0.mk (Kd.R_below (rr_ HO148) hb); have n4_ := Aside0.mk (Kd.R_below (rr_ HO151) hb); have n5_ := Aside0.mk (Kd.R_elder' (rr_ HO156) (Kd.R_base ho49) hb); have n6_ := Aside0.mk (Kd.R_below (rr_ HO159) hb); have n7_ := Aside0.mk (Kd.R_below (rr_ HO162) hb); have n8_ := Aside0.mk (Kd.R_below (rr_ HO165) hb); have n9_ := Aside0.mk (Kd.R_elder' (rr_ HO170) (Kd.R_base ho49) hb); have n10_ := Aside0.mk (Kd.R_below (rr_ HO173) hb); have n11_ := Aside0.mk (Kd.R_below (rr_ HO176) hb); have n12_ := Aside0.mk (Kd.R_elder' (rr_ HO181) (Kd.R_base ho49) hb); have n13_ := Aside0.mk (Kd.R_lower (Kd.R_new' (Kd.R_new' (Kd.R_new' (Kd.R_new' ho49 (Kd.R_lt (rr_ HO145))) (Kd.R_lt (rr_ HO156))) (Kd.R_lt (rr_ HO170))) (Kd.R_lt (rr_ HO181))) (below_size (bb_ HB))); have n14_ := Aside0.mk (below_step (bb_ HB) hb); clear HO137; clear HO140; clear HO145; clear HO148; clear HO151; clear HO156; clear HO159; clear HO162; clear HO165; clear HO170; clear HO173; clear HO176; clear HO181; clear HB; have HO137 := n0_; have HO140 := n1_; have HO145 := n2_; have HO148 := n3_; have HO151 := n4_; have HO156 := n5_; have HO159 := n6_; have HO162 := n7_; have HO165 := n8_; have HO170 := n9_; have HO173 := n10_; have HO176 := n11_; have HO181 := n12_; have HO184 := n13_; have HB := n14_; clear n0_ n1_ n2_ n3_ n4_ n5_ n6_ n7_ n8_ n9_ n10_ n11_ n12_ n13_ n14_; clear hb ho49; obtain ⟨Ao50, co50, eo50⟩ := Kd.R_slice HO145.out; subst eo50; obtain ⟨Ao51, co51, eo51⟩ := Kd.R_slice HO184.out; subst eo51) | (go_at_call 27; (with_reducible refine (cohousingref29_Same.calls k _ _ t141 _ _ y182 false _ ?side1 ?side2 ?side3 ?side4 A12.out).mono ?_); (case side1 => exact cc_ ((Kd.R_reads' HO145.out).2.2)); (case side2 => exact (Kd.R_reads' HO145.out).2.1); (case side3 => exact cc_ ((Kd.R_reads' HO184.out).2.2)); (case side4 => exact (Kd.R_reads' HO184.out).2.1); rintro e w' ⟨rfl, ⟨nd, rfl⟩⟩))
         go_ret
         exact ⟨ew_, by repeat (first | (with_reducible first | exact HB.out | apply below_alloc | apply pw_below_drewN | apply below_drew1) | exact HB.out)⟩
       ·rw [if_neg c11] at H
        have c11b0 : (t167 == 10) = false := beq_eq_false_iff_ne.mpr c11
        have c11b1 : (t167 != 10) = true := bne_iff_ne.mpr c11
        obtain rfl := Option.some.inj H
        refine unheld_ ?_
        go_wp2
        go_ret
        exact ⟨ew_, by repeat (first | (with_reducible first | exact HB.out | apply below_alloc | apply pw_below_drewN | apply below_drew1) | exact HB.out)⟩
      ·rw [if_neg c10] at H
       have c10b0 : (t153 == 0) = false := beq_eq_false_iff_ne.mpr c10
       have c10b1 : (t153 != 0) = true := bne_iff_ne.mpr c10
       obtain rfl := Option.some.inj H
       refine unheld_ ?_
       go_wp2
       go_ret
       exact ⟨ew_, by repeat (first | (with_reducible first | exact HB.out | apply below_alloc | apply pw_below_drewN | apply below_drew1) | exact HB.out)⟩
     ·rw [if_neg c9] at H
      have c9b0 : (t142 == 40) = false := beq_eq_false_iff_ne.mpr c9
      have c9b1 : (t142 != 40) = true := bne_iff_ne.mpr c9
      obtain rfl := Option.some.inj H
      refine unheld_ ?_
      go_wp2
      go_ret
      exact ⟨ew_, by repeat (first | (with_reducible first | exact HB.out | apply below_alloc | apply pw_below_drewN | apply below_drew1) | exact HB.out)⟩
    ·rw [if_neg c8] at H
     have c8b0 : (t179 == 3) = false := beq_eq_false_iff_ne.mpr c8
     have c8b1 : (t179 != 3) = true := bne_iff_ne.mpr c8
     obtain rfl := Option.some.inj H
     refine unheld_ ?_
     go_wp2
     go_ret
     exact ⟨ew_, by repeat (first | (with_reducible first | exact HB.out | apply below_alloc | apply pw_below_drewN | apply below_drew1) | exact HB.out)⟩
   ·rw [if_neg c7] at H
    have c7b0 : (t168 == 0) = false := beq_eq_false_iff_ne.mpr c7
    have c7b1 : (t168 != 0) = true := bne_iff_ne.mpr c7
    obtain rfl := Option.some.inj H
    refine unheld_ ?_
    go_wp2
    go_ret
    exact ⟨ew_, by repeat (first | (with_reducible first | exact HB.out | apply below_alloc | apply pw_below_drewN | apply below_drew1) | exact HB.out)⟩
  ·rw [if_neg c6] at H
   have c6b0 : (t154 == 0) = false := beq_eq_false_iff_ne.mpr c6
   have c6b1 : (t154 != 0) = true := bne_iff_ne.mpr c6
   obtain rfl := Option.some.inj H
   refine unheld_ ?_
   go_wp2
   go_ret
   exact ⟨ew_, by repeat (first | (with_reducible first | exact HB.out | apply below_alloc | apply pw_below_drewN | apply below_drew1) | exact HB.out)⟩
 ·rw [if_neg c5] at H
  have c5b0 : (t143 == 0) = false := beq_eq_false_iff_ne.mpr c5
  have c5b1 : (t143 != 0) = true := bne_iff_ne.mpr c5
  obtain rfl := Option.some.inj H
  refine unheld_ ?_
  go_wp2
  go_ret
  exact ⟨ew_, by repeat (first | (with_reducible first | exact HB.out | apply below_alloc | apply pw_below_drewN | apply below_drew1) | exact HB.out)⟩
end
section
def cohousinglaw29_few.f (l0 : List (S63)) (l1 : List (S38)) (l2 : List Int) : Option (Bool) := if (l0.length : Int) ≤ 20 then (if (l1.length : Int) ≤ 20 then (some (decide ((l2.length : Int) ≤ 20))) else (some false)) else (some false)
theorem cohousinglaw29_few.calls (A0 : Option Addr) (c0 : Nat) (l0 : List (S63)) (A1 : Option Addr) (c1 : Nat) (l1 : List (S38)) (A2 : Option Addr) (c2 : Nat) (l2 : List Int) (r : Bool) (w : World) (hr0 : Kd.C k63 w A0 l0.length l0) (hc0 : l0.length ≤ c0) (hr1 : Kd.C k38 w A1 l1.length l1) (hc1 : l1.length ≤ c1) (hr2 : Kd.C (Kd.int .i64) w A2 l2.length l2) (hc2 : l2.length ≤ c2) (h : cohousinglaw29_few.f l0 l1 l2 = some r) :
  Calls Try.prog 21 #[.slice A0 l0.length c0, .slice A1 l1.length c1, .slice A2 l2.length c2] w fun e w' => e = .returned (.bool r) ∧ Drawn0 w w' := by
 have HR0 := Aside0.mk hr0
 have HC0 := Aside0.mk hc0
 clear hr0 hc0
 have HR1 := Aside0.mk hr1
 have HC1 := Aside0.mk hc1
 clear hr1 hc1
 have HR2 := Aside0.mk hr2
 have HC2 := Aside0.mk hc2
 clear hr2 hc2
 have H : (if (l0.length : Int) ≤ 20 then (if (l1.length : Int) ≤ 20 then (some (decide ((l2.length : Int) ≤ 20))) else (some false)) else (some false)) = some r := h
 clear h
 by_cases c4 : (l0.length : Int) ≤ 20
 ·rw [if_pos c4] at H
  have c4b0 : decide ((l0.length : Int) ≤ 20) = true := decide_eq_true c4
  have c4b1 : decide (l0.length ≤ 20) = true := decide_eq_true (by omega)
  clear c4
  by_cases c5 : (l1.length : Int) ≤ 20
  ·rw [if_pos c5] at H
   have c5b0 : decide ((l1.length : Int) ≤ 20) = true := decide_eq_true c5
   have c5b1 : decide (l1.length ≤ 20) = true := decide_eq_true (by omega)
   clear c5
   obtain rfl := Option.some.inj H
   go_enter Try.func21, Try.ntmps21
   go_wp2
   go_ret
   exact ⟨by first | rfl | (simp; done) | (simp [*]; done), by repeat (first | exact Drawn0.refl _ | apply Drawn0.step)⟩
  ·rw [if_neg c5] at H
   have c5b0 : decide ((l1.length : Int) ≤ 20) = false := decide_eq_false c5
   have c5b1 : decide (l1.length ≤ 20) = false := decide_eq_false (by omega)
   clear c5
   obtain rfl := Option.some.inj H
   go_enter Try.func21, Try.ntmps21
   go_wp2
   go_ret
   exact ⟨by first | rfl | (simp; done) | (simp [*]; done), by repeat (first | exact Drawn0.refl _ | apply Drawn0.step)⟩
 ·rw [if_neg c4] at H
  have c4b0 : decide ((l0.length : Int) ≤ 20) = false := decide_eq_false c4
  have c4b1 : decide (l0.length ≤ 20) = false := decide_eq_false (by omega)
  clear c4
  obtain rfl := Option.some.inj H
  go_enter Try.func21, Try.ntmps21
  go_wp2
  go_ret
  exact ⟨by first | rfl | (simp; done) | (simp [*]; done), by repeat (first | exact Drawn0.refl _ | apply Drawn0.step)⟩
end
section
def cohousingref02_Amount.f (a0 : Int) : Option (Bool) := if a0 ≥ (-1000000000) then (some (decide (a0 ≤ 1000000000))) else (some false)
theorem cohousingref02_Amount.calls (a0 : Int) (r : Bool) (w : World) (h : cohousingref02_Amount.f a0 = some r) :
  Calls Try.prog 64 #[.int .i64 a0] w fun e w' => e = .returned (.bool r) ∧ Drawn0 w w' := by
 have H : (if a0 ≥ (-1000000000) then (some (decide (a0 ≤ 1000000000))) else (some false)) = some r := h
 clear h
 by_cases c2 : a0 ≥ (-1000000000)
 ·rw [if_pos c2] at H
  have c2b0 : decide ((-1000000000) ≤ a0) = true := decide_eq_true c2
  clear c2
  obtain rfl := Option.some.inj H
  go_enter Try.func64, Try.ntmps64
  go_wp2
  go_ret
  exact ⟨by first | rfl | (simp; done) | (simp [*]; done), by repeat (first | exact Drawn0.refl _ | apply Drawn0.step)⟩
 ·rw [if_neg c2] at H
  have c2b0 : decide ((-1000000000) ≤ a0) = false := decide_eq_false c2
  clear c2
  obtain rfl := Option.some.inj H
  go_enter Try.func64, Try.ntmps64
  go_wp2
  go_ret
  exact ⟨by first | rfl | (simp; done) | (simp [*]; done), by repeat (first | exact Drawn0.refl _ | apply Drawn0.step)⟩
end
section
theorem eqA86 (d : Nat) (w : World) (x0 y0 : Int) (x1 y1 : Int) :
  (Op.equalIn (d + 2) 86 (.agg #[.int .i64 x0, .int .i64 x1]) (.agg #[.int .i64 y0, .int .i64 y1])).run Try.prog w = .ok (x0 == y0 && (x1 == y1)) w := by
 refine eqA_of Try.underlying86 (by kernel_rfl) ?_
 refine eqf_cons (by rfl) (by go_simp; rfl) (by go_simp; rfl) (by go_simp) ?_
 exact eqf_last (by rfl) (by go_simp; rfl) (by go_simp; rfl) (by go_simp)
end
section
def cohousingref01_common.l0 : Nat → Int → Int → Option (Int)
 | 0, _, _ => none
 | k + 1, x0, x1 => if x1 = 0 then (some x0) else (cohousingref01_common.l0 k x1 (Int.tmod x0 x1))
def cohousingref01_common.f (k : Nat) (a0 : Int) (a1 : Int) : Option (Int) := cohousingref01_common.l0 k a0 a1
theorem cohousingref01_common.mono_l : ∀ k, (∀ y0 y1, LeO (cohousingref01_common.l0 k y0 y1) (cohousingref01_common.l0 (k + 1) y0 y1))
 | 0 => fun _ _ r h => by simp [cohousingref01_common.l0] at h
 | k + 1 => by
  have ih0 := cohousingref01_common.mono_l k
  ·intro y0 y1
   unfold cohousingref01_common.l0
   repeat' first
   | (with_reducible exact ih0 _ _)
   | (with_reducible exact LeO.refl _)
   | (with_reducible exact LeO.none _)
   | (with_reducible refine LeO.ite ?_ ?_)
   | (with_reducible refine LeO.bind ?_ (fun _ => ?_))
   | exact ih0 _ _
   | exact LeO.none _
   | refine LeO.ite ?_ ?_
   | refine LeO.bind ?_ (fun _ => ?_)
theorem cohousingref01_common.mono : ∀ a0 a1 k, LeO (cohousingref01_common.f k a0 a1) (cohousingref01_common.f (k + 1) a0 a1) := by
 intro a0 a1 k
 have ih0 := cohousingref01_common.mono_l k
 unfold cohousingref01_common.f
 repeat' first
   | (with_reducible exact ih0 _ _)
   | (with_reducible exact LeO.refl _)
   | (with_reducible exact LeO.none _)
   | (with_reducible refine LeO.ite ?_ ?_)
   | (with_reducible refine LeO.bind ?_ (fun _ => ?_))
   | exact ih0 _ _
   | exact LeO.none _
   | refine LeO.ite ?_ ?_
   | refine LeO.bind ?_ (fun _ => ?_)
theorem cohousingref01_common.calls (k : Nat) (a0 : Int) (a1 : Int) (r : Int) (w : World) (h : cohousingref01_common.f k a0 a1 = some r) :
  Calls Try.prog 91 #[.int .u64 a0, .int .u64 a1] w fun e w' => e = .returned (.int .u64 r) ∧ Drawn0 w w' := by
 have H : (cohousingref01_common.l0 k a0 a1) = some r := h
 clear h
 have H' := Aside0.mk H
 clear H
 go_enter Try.func91, Try.ntmps91
 go_wp2
 go_loopg [0, 1] k (fun kq v0 v1 w' => ∃ (x0_1 : Int) (x1_1 : Int), v0 = .int .u64 x0_1 ∧ v1 = .int .u64 x1_1 ∧ Aside0 (cohousingref01_common.l0 kq x0_1 x1_1 = some r) ∧ Aside0 (kq ≤ k) ∧ Drawn0 w w')
 case atStart => exact ⟨(a0), (a1), sd_, sd_, H', ⟨Nat.le_refl _⟩, by repeat (first | exact Drawn0.refl _ | apply Drawn0.step)⟩
 case round =>
  clear H'
  try clear p2
  obtain ⟨x0_1, x1_1, rfl, rfl, HA, HK1, ⟨m1, rfl⟩⟩ := hrel
  cases gk with
  | zero => exact absurd HA.out (by simp [cohousingref01_common.l0])
  | succ k1 =>
   have H := HA.out
   clear HA
   simp only [cohousingref01_common.l0] at H
   by_cases c3 : x1_1 = 0
   ·rw [if_pos c3] at H
    have c3b0 : (x1_1 == 0) = true := beq_iff_eq.mpr c3
    have c3b1 : (x1_1 != 0) = false := bne_eq_false_iff_eq.mpr c3
    clear c3
    obtain rfl := Option.some.inj H
    go_wp2
    go_ret
    exact ⟨by first | rfl | (simp; done) | (simp [*]; done), by repeat (first | exact Drawn0.refl _ | apply Drawn0.step)⟩
   ·rw [if_neg c3] at H
    have c3b0 : (x1_1 == 0) = false := beq_eq_false_iff_ne.mpr c3
    have c3b1 : (x1_1 != 0) = true := bne_iff_ne.mpr c3
    have H' := Aside0.mk H
    clear H
    go_wp2
    go_roundg k1
    case measure => have := HK1.out; omega
    case rel => exact ⟨(x1_1), (Int.tmod x0_1 x1_1), sd_, sd_, H', ⟨by have := HK1.out; omega⟩, by repeat (first | exact Drawn0.refl _ | apply Drawn0.step)⟩
end
section
def cohousingref01_size.f (a0 : Int) : Option (Int) := if a0 < 0 then (some (IntKind.u64.wrap ((IntKind.u64.wrap (wrap64 (-(wrap64 (a0 + 1))))) + 1))) else (some (IntKind.u64.wrap (a0)))
theorem cohousingref01_size.calls (a0 : Int) (r : Int) (w : World) (h : cohousingref01_size.f a0 = some r) :
  Calls Try.prog 92 #[.int .i64 a0] w fun e w' => e = .returned (.int .u64 r) ∧ Drawn0 w w' := by
 have H : (if a0 < 0 then (some (IntKind.u64.wrap ((IntKind.u64.wrap (wrap64 (-(wrap64 (a0 + 1))))) + 1))) else (some (IntKind.u64.wrap (a0)))) = some r := h
 clear h
 by_cases c2 : a0 < 0
 ·rw [if_pos c2] at H
  have c2b0 : decide (a0 < 0) = true := decide_eq_true c2
  clear c2
  obtain rfl := Option.some.inj H
  go_enter Try.func92, Try.ntmps92
  go_wp2
  go_ret
  exact ⟨by first | rfl | (simp; done) | (simp [*]; done), by repeat (first | exact Drawn0.refl _ | apply Drawn0.step)⟩
 ·rw [if_neg c2] at H
  have c2b0 : decide (a0 < 0) = false := decide_eq_false c2
  clear c2
  obtain rfl := Option.some.inj H
  go_enter Try.func92, Try.ntmps92
  go_wp2
  go_ret
  exact ⟨by first | rfl | (simp; done) | (simp [*]; done), by repeat (first | exact Drawn0.refl _ | apply Drawn0.step)⟩
end
section
def cohousingref01_Make.j0 : Nat → Int → Int → Int → Int → Bool → Option (Int × Int × Int)
 | 0, _, _, _, _, _ => none
 | k + 1, x0, x1, x7, x8, x30 => if x30 = true then (some (0, 0, 3)) else (if ((decide (x0 < 0)) != (decide (x1 < 0))) = true then (some (wrap64 (-(wrap64 (x7))), wrap64 (x8), 0)) else (some (wrap64 (x7), wrap64 (x8), 0)))
def cohousingref01_Make.f (k : Nat) (a0 : Int) (a1 : Int) : Option (Int × Int × Int) := if a1 = 0 then (some (0, 0, 7)) else ((cohousingref01_size.f a0).bind fun t195 => ((cohousingref01_size.f a1).bind fun t196 => ((cohousingref01_common.f k t195 t196).bind fun t197 => ((cohousingref01_size.f a0).bind fun t198 => (if t197 = 0 then (none) else ((cohousingref01_size.f a1).bind fun t199 => (if (IntKind.u64.wrap (Int.tdiv t198 t197)) > 1000000000 then (cohousingref01_Make.j0 k a0 a1 (IntKind.u64.wrap (Int.tdiv t198 t197)) (IntKind.u64.wrap (Int.tdiv t199 t197)) true) else (cohousingref01_Make.j0 k a0 a1 (IntKind.u64.wrap (Int.tdiv t198 t197)) (IntKind.u64.wrap (Int.tdiv t199 t197)) (decide ((IntKind.u64.wrap (Int.tdiv t199 t197)) > 1000000000))))))))))
theorem cohousingref01_Make.mono_l : ∀ k, (∀ y0 y1 y2 y3 y4, LeO (cohousingref01_Make.j0 k y0 y1 y2 y3 y4) (cohousingref01_Make.j0 (k + 1) y0 y1 y2 y3 y4))
 | 0 => fun _ _ _ _ _ r h => by simp [cohousingref01_Make.j0] at h
 | k + 1 => by
  have ih0 := cohousingref01_Make.mono_l k
  ·intro y0 y1 y2 y3 y4
   unfold cohousingref01_Make.j0
   repeat' first
   | (with_reducible exact ih0 _ _ _ _ _)
   | (with_reducible exact cohousingref01_common.mono _ _ _)
   | (with_reducible exact LeO.refl _)
   | (with_reducible exact LeO.none _)
   | (with_reducible refine LeO.ite ?_ ?_)
   | (with_reducible refine LeO.bind ?_ (fun _ => ?_))
   | exact ih0 _ _ _ _ _
   | exact cohousingref01_common.mono _ _ _
   | exact LeO.none _
   | refine LeO.ite ?_ ?_
   | refine LeO.bind ?_ (fun _ => ?_)
theorem cohousingref01_Make.mono : ∀ a0 a1 k, LeO (cohousingref01_Make.f k a0 a1) (cohousingref01_Make.f (k + 1) a0 a1) := by
 intro a0 a1 k
 have ih0 := cohousingref01_Make.mono_l k
 unfold cohousingref01_Make.f
 repeat' first
   | (with_reducible exact ih0 _ _ _ _ _)
   | (with_reducible exact cohousingref01_common.mono _ _ _)
   | (with_reducible exact LeO.refl _)
   | (with_reducible exact LeO.none _)
   | (with_reducible refine LeO.ite ?_ ?_)
   | (with_reducible refine LeO.bind ?_ (fun _ => ?_))
   | exact ih0 _ _ _ _ _
   | exact cohousingref01_common.mono _ _ _
   | exact LeO.none _
   | refine LeO.ite ?_ ?_
   | refine LeO.bind ?_ (fun _ => ?_)
theorem cohousingref01_Make.calls (k : Nat) (a0 : Int) (a1 : Int) (r1 : Int) (r2 : Int) (r3 : Int) (w : World) (h : cohousingref01_Make.f k a0 a1 = some (r1, r2, r3)) :
  Calls Try.prog 82 #[.int .i64 a0, .int .i64 a1] w fun e w' => e = .returned (.tuple #[.agg #[.int .i64 r1, .int .i64 r2], .int .i64 r3]) ∧ Below w.heap.size w w' := by
 have hu86 := Try.underlying86
 have HB := Aside0.mk (Below.refl w.heap.size w)
 have H : (if a1 = 0 then (some (0, 0, 7)) else ((cohousingref01_size.f a0).bind fun t195 => ((cohousingref01_size.f a1).bind fun t196 => ((cohousingref01_common.f k t195 t196).bind fun t197 => ((cohousingref01_size.f a0).bind fun t198 => (if t197 = 0 then (none) else ((cohousingref01_size.f a1).bind fun t199 => (if (IntKind.u64.wrap (Int.tdiv t198 t197)) > 1000000000 then (cohousingref01_Make.j0 k a0 a1 (IntKind.u64.wrap (Int.tdiv t198 t197)) (IntKind.u64.wrap (Int.tdiv t199 t197)) true) else (cohousingref01_Make.j0 k a0 a1 (IntKind.u64.wrap (Int.tdiv t198 t197)) (IntKind.u64.wrap (Int.tdiv t199 t197)) (decide ((IntKind.u64.wrap (Int.tdiv t199 t197)) > 1000000000))))))))))) = some (r1, r2, r3) := h
 clear h
 by_cases c3 : a1 = 0
 ·rw [if_pos c3] at H
  have c3b0 : (a1 == 0) = true := beq_iff_eq.mpr c3
  have c3b1 : (a1 != 0) = false := bne_eq_false_iff_eq.mpr c3
  clear c3
  simp only [Option.some.injEq, Prod.mk.injEq] at H
  obtain ⟨rfl, rfl, rfl⟩ := H
  go_enter Try.func82, Try.ntmps82
  go_wp2_with (first | ((with_reducible refine gate_dst (N := 4) rfl ?_); refine box_event ?hg (N := 4) ?hd (cs := #[.int .i64 0, .int .i64 0]) (t := 86) ?hr ?_; (case hd => rfl); (case hg => rfl); (case hr => first | (go_simp; done) | (go_simp; rfl)); intro gb194 hg w4 hbox hb; have n0_ := Aside0.mk (below_step (bb_ HB) hb); have n1_ := Aside0.mk (hbox); have n2_ := Aside0.mk ((by rw [hg]; exact (below_size (bb_ HB)) : w.heap.size ≤ gb194)); have n3_ := Aside0.mk ((by rw [hg]; exact (below_size (bb_ HB)) : w.heap.size ≤ gb194)); clear HB; have HB := n0_; have BK194 := n1_; have GW194 := n2_; have GE194 := n3_; clear n0_ n1_ n2_ n3_; clear hb hbox hg; have hcz5_0 : w4.cell? ⟨gb194, 0, none⟩ = some (.int .i64 0) := (blk_cell BK194.out 0).trans rfl; have hcz5_1 : w4.cell? ⟨gb194, 1, none⟩ = some (.int .i64 0) := (blk_cell BK194.out 1).trans rfl; have hfz5_0 := blk_frozen BK194.out 0; have hfz5_1 := blk_frozen BK194.out 1))
  refine bodyPost_ret (results_ct rfl _ _ gb194 86 #[.int .i64 0, .int .i64 0] (0, 0) _ rfl (by (with_reducible repeat (first | refine blk_drewN ?_ _ | refine blk_drew ?_ | refine blk_alloc ?_ _)); refine blk_put (cs := #[.int .i64 0, .int .i64 0]) ?_ 1 _ rfl; (with_reducible repeat (first | refine blk_drewN ?_ _ | refine blk_drew ?_ | refine blk_alloc ?_ _)); refine blk_put (cs := #[.int .i64 0, .int .i64 0]) ?_ 0 _ rfl; (with_reducible repeat (first | refine blk_drewN ?_ _ | refine blk_drew ?_ | refine blk_alloc ?_ _)); exact BK194.out) Try.underlying86 rfl (by kernel_rfl)) rfl ?_
  exact ⟨ew_, by repeat (first | (with_reducible first | exact HB.out | apply below_alloc | apply pw_below_drewN | apply below_drew1 | refine below_set ?_ GE194.out) | exact HB.out)⟩
 ·rw [if_neg c3] at H
  have c3b0 : (a1 == 0) = false := beq_eq_false_iff_ne.mpr c3
  have c3b1 : (a1 != 0) = true := bne_iff_ne.mpr c3
  replace H := Option.bind_eq_some_iff.mp H
  obtain ⟨t195, A60, H⟩ := H
  replace H : ((cohousingref01_size.f a1).bind fun t196 => ((cohousingref01_common.f k t195 t196).bind fun t197 => ((cohousingref01_size.f a0).bind fun t198 => (if t197 = 0 then (none) else ((cohousingref01_size.f a1).bind fun t199 => (if (IntKind.u64.wrap (Int.tdiv t198 t197)) > 1000000000 then (cohousingref01_Make.j0 k a0 a1 (IntKind.u64.wrap (Int.tdiv t198 t197)) (IntKind.u64.wrap (Int.tdiv t199 t197)) true) else (cohousingref01_Make.j0 k a0 a1 (IntKind.u64.wrap (Int.tdiv t198 t197)) (IntKind.u64.wrap (Int.tdiv t199 t197)) (decide ((IntKind.u64.wrap (Int.tdiv t199 t197)) > 1000000000))))))))) = some (r1, r2, r3) := H
  have A6 := Aside0.mk A60
  clear A60
  replace H := Option.bind_eq_some_iff.mp H
  obtain ⟨t196, A70, H⟩ := H
  replace H : ((cohousingref01_common.f k t195 t196).bind fun t197 => ((cohousingref01_size.f a0).bind fun t198 => (if t197 = 0 then (none) else ((cohousingref01_size.f a1).bind fun t199 => (if (IntKind.u64.wrap (Int.tdiv t198 t197)) > 1000000000 then (cohousingref01_Make.j0 k a0 a1 (IntKind.u64.wrap (Int.tdiv t198 t197)) (IntKind.u64.wrap (Int.tdiv t199 t197)) true) else (cohousingref01_Make.j0 k a0 a1 (IntKind.u64.wrap (Int.tdiv t198 t197)) (IntKind.u64.wrap (Int.tdiv t199 t197)) (decide ((IntKind.u64.wrap (Int.tdiv t199 t197)) > 1000000000)))))))) = some (r1, r2, r3) := H
  have A7 := Aside0.mk A70
  clear A70
  replace H := Option.bind_eq_some_iff.mp H
  obtain ⟨t197, A80, H⟩ := H
  replace H : ((cohousingref01_size.f a0).bind fun t198 => (if t197 = 0 then (none) else ((cohousingref01_size.f a1).bind fun t199 => (if (IntKind.u64.wrap (Int.tdiv t198 t197)) > 1000000000 then (cohousingref01_Make.j0 k a0 a1 (IntKind.u64.wrap (Int.tdiv t198 t197)) (IntKind.u64.wrap (Int.tdiv t199 t197)) true) else (cohousingref01_Make.j0 k a0 a1 (IntKind.u64.wrap (Int.tdiv t198 t197)) (IntKind.u64.wrap (Int.tdiv t199 t197)) (decide ((IntKind.u64.wrap (Int.tdiv t199 t197)) > 1000000000))))))) = some (r1, r2, r3) := H
  have A8 := Aside0.mk A80
  clear A80
  replace H := Option.bind_eq_some_iff.mp H
  obtain ⟨t198, A90, H⟩ := H
  replace H : (if t197 = 0 then (none) else ((cohousingref01_size.f a1).bind fun t199 => (if (IntKind.u64.wrap (Int.tdiv t198 t197)) > 1000000000 then (cohousingref01_Make.j0 k a0 a1 (IntKind.u64.wrap (Int.tdiv t198 t197)) (IntKind.u64.wrap (Int.tdiv t199 t197)) true) else (cohousingref01_Make.j0 k a0 a1 (IntKind.u64.wrap (Int.tdiv t198 t197)) (IntKind.u64.wrap (Int.tdiv t199 t197)) (decide ((IntKind.u64.wrap (Int.tdiv t199 t197)) > 1000000000)))))) = some (r1, r2, r3) := H
  have A9 := Aside0.mk A90
  clear A90
  by_cases c10 : t197 = 0
  ·rw [if_pos c10] at H
   exact absurd H (by simp)
  ·rw [if_neg c10] at H
   have c10b0 : (t197 == 0) = false := beq_eq_false_iff_ne.mpr c10
   have c10b1 : (t197 != 0) = true := bne_iff_ne.mpr c10
   replace H := Option.bind_eq_some_iff.mp H
   obtain ⟨t199, A110, H⟩ := H
   replace H : (if (IntKind.u64.wrap (Int.tdiv t198 t197)) > 1000000000 then (cohousingref01_Make.j0 k a0 a1 (IntKind.u64.wrap (Int.tdiv t198 t197)) (IntKind.u64.wrap (Int.tdiv t199 t197)) true) else (cohousingref01_Make.j0 k a0 a1 (IntKind.u64.wrap (Int.tdiv t198 t197)) (IntKind.u64.wrap (Int.tdiv t199 t197)) (decide ((IntKind.u64.wrap (Int.tdiv t199 t197)) > 1000000000)))) = some (r1, r2, r3) := H
   have A11 := Aside0.mk A110
   clear A110
   have HC12 := Aside0.mk H
   clear H
   go_enter Try.func82, Try.ntmps82
   go_upto_region 6 with (first | ((with_reducible refine gate_dst (N := 4) rfl ?_); refine box_event ?hg (N := 4) ?hd (cs := #[.int .i64 0, .int .i64 0]) (t := 86) ?hr ?_; (case hd => rfl); (case hg => rfl); (case hr => first | (go_simp; done) | (go_simp; rfl)); intro gb194 hg w13 hbox hb; have n0_ := Aside0.mk (below_step (bb_ HB) hb); have n1_ := Aside0.mk (hbox); have n2_ := Aside0.mk ((by rw [hg]; exact (below_size (bb_ HB)) : w.heap.size ≤ gb194)); have n3_ := Aside0.mk ((by rw [hg]; exact (below_size (bb_ HB)) : w.heap.size ≤ gb194)); clear HB; have HB := n0_; have BK194 := n1_; have GW194 := n2_; have GE194 := n3_; clear n0_ n1_ n2_ n3_; clear hb hbox hg) | ((with_reducible refine gate_callee (f := 92) rfl ?_); refine gl_ (some 13) Try.func92 #[.int .i64 a0] ?_; (with_reducible refine (cohousingref01_size.calls a0 t195 _ A6.out).mono ?_); rintro e w' ⟨rfl, ⟨nd, rfl⟩⟩; refine ⟨_, rfl, ?_⟩) | ((with_reducible refine gate_callee (f := 92) rfl ?_); refine gl_ (some 15) Try.func92 #[.int .i64 a1] ?_; (with_reducible refine (cohousingref01_size.calls a1 t196 _ A7.out).mono ?_); rintro e w' ⟨rfl, ⟨nd, rfl⟩⟩; refine ⟨_, rfl, ?_⟩) | ((with_reducible refine gate_callee (f := 91) rfl ?_); refine gl_ (some 16) Try.func91 #[.int .u64 t195, .int .u64 t196] ?_; (with_reducible refine (cohousingref01_common.calls k t195 t196 t197 _ A8.out).mono ?_); rintro e w' ⟨rfl, ⟨nd, rfl⟩⟩; refine ⟨_, rfl, ?_⟩) | ((with_reducible refine gate_callee (f := 92) rfl ?_); refine gl_ (some 18) Try.func92 #[.int .i64 a0] ?_; (with_reducible refine (cohousingref01_size.calls a0 t198 _ A9.out).mono ?_); rintro e w' ⟨rfl, ⟨nd, rfl⟩⟩; refine ⟨_, rfl, ?_⟩) | ((with_reducible refine gate_callee (f := 92) rfl ?_); refine gl_ (some 22) Try.func92 #[.int .i64 a1] ?_; (with_reducible refine (cohousingref01_size.calls a1 t199 _ A11.out).mono ?_); rintro e w' ⟨rfl, ⟨nd, rfl⟩⟩; refine ⟨_, rfl, ?_⟩))
   (try simp only [Act.put, sI_, s0_, sS_])
   go_cut [30] (fun v30 wc => ∃ (kq : Nat) (x30_11 : Bool), v30 = .bool x30_11 ∧ Aside0 (cohousingref01_Make.j0 kq a0 a1 (IntKind.u64.wrap (Int.tdiv t198 t197)) (IntKind.u64.wrap (Int.tdiv t199 t197)) x30_11 = some (r1, r2, r3)) ∧ Aside0 (kq ≤ k) ∧ Aside0 (wc.heap[gb194]? = some (.cells #[.int .i64 0, .int .i64 0] 86 (0, 0))) ∧ Aside0 (Below w.heap.size w wc))
   case first =>
    have H := HC12.out
    clear HC12
    by_cases c14 : (IntKind.u64.wrap (Int.tdiv t198 t197)) > 1000000000
    ·rw [if_pos c14] at H
     have c14b0 : decide (1000000000 < (IntKind.u64.wrap (Int.tdiv t198 t197))) = true := decide_eq_true c14
     clear c14
     (first | rw [c14b0] | (simp only [i64_w, i32_w]; rw [c14b0]) | skip)
     have H' := Aside0.mk H
     clear H
     go_wp2
     go_meet
     case rel => exact ⟨_, (true), sd_, H', ⟨by first | omega | exact Nat.le_refl _⟩, ⟨by (with_reducible repeat (first | refine blk_drewN ?_ _ | refine blk_drew ?_ | refine blk_alloc ?_ _)); exact BK194.out⟩, ⟨by repeat (first | (with_reducible first | exact HB.out | apply below_alloc | apply pw_below_drewN | apply below_drew1 | refine below_set ?_ GE194.out) | exact HB.out)⟩⟩
    ·rw [if_neg c14] at H
     have c14b0 : decide (1000000000 < (IntKind.u64.wrap (Int.tdiv t198 t197))) = false := decide_eq_false c14
     clear c14
     (first | rw [c14b0] | (simp only [i64_w, i32_w]; rw [c14b0]) | skip)
     have H' := Aside0.mk H
     clear H
     go_wp2
     go_meet
     case rel => exact ⟨_, (decide ((IntKind.u64.wrap (Int.tdiv t199 t197)) > 1000000000)), sd_, H', ⟨by first | omega | exact Nat.le_refl _⟩, ⟨by (with_reducible repeat (first | refine blk_drewN ?_ _ | refine blk_drew ?_ | refine blk_alloc ?_ _)); exact BK194.out⟩, ⟨by repeat (first | (with_reducible first | exact HB.out | apply below_alloc | apply pw_below_drewN | apply below_drew1 | refine below_set ?_ GE194.out) | exact HB.out)⟩⟩
   case rest =>
    clear HC12
    try clear c1
    try clear p2
    try clear c3
    try clear c3b0
    try clear c3b1
    try clear c8
    try clear c9
    try clear c10
    try clear c10b0
    try clear c10b1
    try clear c14
    try clear c14b0
    try clear hcz5_0
    try clear hcz5_1
    try clear hfz5_0
    try clear hfz5_1
    obtain ⟨kq, x30_11, rfl, HA, HJ11, BK194, HB⟩ := hcut
    cases kq with
    | zero => exact absurd HA.out (by simp [cohousingref01_Make.j0])
    | succ kj11 =>
     have H := HA.out
     clear HA
     simp only [cohousingref01_Make.j0] at H
     by_cases c15 : x30_11 = true
     ·subst c15
      have H1 : (some (0, 0, 3)) = some (r1, r2, r3) := by rw [if_pos rfl] at H; exact H
      clear H
      have H := H1
      clear H1
      simp only [Option.some.injEq, Prod.mk.injEq] at H
      obtain ⟨rfl, rfl, rfl⟩ := H
      have hcz16_0 : wc.cell? ⟨gb194, 0, none⟩ = some (.int .i64 0) := (blk_cell BK194.out 0).trans rfl
      have hcz16_1 : wc.cell? ⟨gb194, 1, none⟩ = some (.int .i64 0) := (blk_cell BK194.out 1).trans rfl
      have hfz16_0 := blk_frozen BK194.out 0
      have hfz16_1 := blk_frozen BK194.out 1
      go_wp2
      refine bodyPost_ret (results_ct rfl _ _ gb194 86 #[.int .i64 0, .int .i64 0] (0, 0) _ rfl (by (with_reducible repeat (first | refine blk_drewN ?_ _ | refine blk_drew ?_ | refine blk_alloc ?_ _)); refine blk_put (cs := #[.int .i64 0, .int .i64 0]) ?_ 1 _ rfl; (with_reducible repeat (first | refine blk_drewN ?_ _ | refine blk_drew ?_ | refine blk_alloc ?_ _)); refine blk_put (cs := #[.int .i64 0, .int .i64 0]) ?_ 0 _ rfl; (with_reducible repeat (first | refine blk_drewN ?_ _ | refine blk_drew ?_ | refine blk_alloc ?_ _)); exact BK194.out) Try.underlying86 rfl (by kernel_rfl)) rfl ?_
      exact ⟨ew_, by repeat (first | (with_reducible first | exact HB.out | apply below_alloc | apply pw_below_drewN | apply below_drew1 | refine below_set ?_ GE194.out) | exact HB.out)⟩
     ·replace c15 := Bool.eq_false_iff.mpr c15
      subst c15
      have H1 : (if ((decide (a0 < 0)) != (decide (a1 < 0))) = true then (some (wrap64 (-(wrap64 ((IntKind.u64.wrap (Int.tdiv t198 t197))))), wrap64 ((IntKind.u64.wrap (Int.tdiv t199 t197))), 0)) else (some (wrap64 ((IntKind.u64.wrap (Int.tdiv t198 t197))), wrap64 ((IntKind.u64.wrap (Int.tdiv t199 t197))), 0))) = some (r1, r2, r3) := by rw [if_neg (show ¬ (false = true) by decide)] at H; exact H
      clear H
      have H := H1
      clear H1
      by_cases c17 : ((decide (a0 < 0)) != (decide (a1 < 0))) = true
      ·rw [if_pos c17] at H
       have c17b0 : ((decide (a0 < 0)) != (decide (a1 < 0))) = true := c17
       (try (have c17b1 : decide ((decide (a0 < 0)) = (decide (a1 < 0))) = false := by simpa using c17))
       (try (have c17b2 : ((decide (a0 < 0)) == (decide (a1 < 0))) = false := by simpa using c17))
       (try (have c17b3 : ¬ ((decide (a0 < 0)) = (decide (a1 < 0))) := by simpa using c17))
       clear c17
       simp only [Option.some.injEq, Prod.mk.injEq] at H
       obtain ⟨rfl, rfl, rfl⟩ := H
       have hcz18_0 : wc.cell? ⟨gb194, 0, none⟩ = some (.int .i64 0) := (blk_cell BK194.out 0).trans rfl
       have hcz18_1 : wc.cell? ⟨gb194, 1, none⟩ = some (.int .i64 0) := (blk_cell BK194.out 1).trans rfl
       have hfz18_0 := blk_frozen BK194.out 0
       have hfz18_1 := blk_frozen BK194.out 1
       go_wp2
       refine bodyPost_ret (results_ct rfl _ _ gb194 86 #[.int .i64 (wrap64 (-(wrap64 ((IntKind.u64.wrap (Int.tdiv t198 t197)))))), .int .i64 (wrap64 ((IntKind.u64.wrap (Int.tdiv t199 t197))))] (0, 0) _ rfl (by (with_reducible repeat (first | refine blk_drewN ?_ _ | refine blk_drew ?_ | refine blk_alloc ?_ _)); refine blk_put (cs := #[.int .i64 (wrap64 (-(wrap64 ((IntKind.u64.wrap (Int.tdiv t198 t197)))))), .int .i64 0]) ?_ 1 _ rfl; (with_reducible repeat (first | refine blk_drewN ?_ _ | refine blk_drew ?_ | refine blk_alloc ?_ _)); refine blk_put (cs := #[.int .i64 0, .int .i64 0]) ?_ 0 _ rfl; (with_reducible repeat (first | refine blk_drewN ?_ _ | refine blk_drew ?_ | refine blk_alloc ?_ _)); exact BK194.out) Try.underlying86 rfl (by kernel_rfl)) rfl ?_
       exact ⟨ew_, by repeat (first | (with_reducible first | exact HB.out | apply below_alloc | apply pw_below_drewN | apply below_drew1 | refine below_set ?_ GE194.out) | exact HB.out)⟩
      ·rw [if_neg c17] at H
       have c17b0 : ((decide (a0 < 0)) != (decide (a1 < 0))) = false := by simpa using c17
       (try (have c17b1 : decide ((decide (a0 < 0)) = (decide (a1 < 0))) = true := by simpa using c17))
       (try (have c17b2 : ((decide (a0 < 0)) == (decide (a1 < 0))) = true := by simpa using c17))
       clear c17
       simp only [Option.some.injEq, Prod.mk.injEq] at H
       obtain ⟨rfl, rfl, rfl⟩ := H
       have hcz19_0 : wc.cell? ⟨gb194, 0, none⟩ = some (.int .i64 0) := (blk_cell BK194.out 0).trans rfl
       have hcz19_1 : wc.cell? ⟨gb194, 1, none⟩ = some (.int .i64 0) := (blk_cell BK194.out 1).trans rfl
       have hfz19_0 := blk_frozen BK194.out 0
       have hfz19_1 := blk_frozen BK194.out 1
       go_wp2
       refine bodyPost_ret (results_ct rfl _ _ gb194 86 #[.int .i64 (wrap64 ((IntKind.u64.wrap (Int.tdiv t198 t197)))), .int .i64 (wrap64 ((IntKind.u64.wrap (Int.tdiv t199 t197))))] (0, 0) _ rfl (by (with_reducible repeat (first | refine blk_drewN ?_ _ | refine blk_drew ?_ | refine blk_alloc ?_ _)); refine blk_put (cs := #[.int .i64 (wrap64 ((IntKind.u64.wrap (Int.tdiv t198 t197)))), .int .i64 0]) ?_ 1 _ rfl; (with_reducible repeat (first | refine blk_drewN ?_ _ | refine blk_drew ?_ | refine blk_alloc ?_ _)); refine blk_put (cs := #[.int .i64 0, .int .i64 0]) ?_ 0 _ rfl; (with_reducible repeat (first | refine blk_drewN ?_ _ | refine blk_drew ?_ | refine blk_alloc ?_ _)); exact BK194.out) Try.underlying86 rfl (by kernel_rfl)) rfl ?_
       exact ⟨ew_, by repeat (first | (with_reducible first | exact HB.out | apply below_alloc | apply pw_below_drewN | apply below_drew1 | refine below_set ?_ GE194.out) | exact HB.out)⟩
end
section
attribute [local go_sem high] eqA86
def cohousingref01_Valid.f (k : Nat) (a0_0 : Int) (a0_1 : Int) : Option (Bool) := if a0_1 < 1 then (some false) else ((cohousingref01_Make.f k a0_0 a0_1).bind fun bt201 => (if bt201.2.2 = 0 then (some (bt201.1 == a0_0 && (bt201.2.1 == a0_1))) else (some false)))
theorem cohousingref01_Valid.mono : ∀ a0 a1 k, LeO (cohousingref01_Valid.f k a0 a1) (cohousingref01_Valid.f (k + 1) a0 a1) := by
 intro a0 a1 k
 unfold cohousingref01_Valid.f
 repeat' first
   | (with_reducible exact cohousingref01_Make.mono _ _ _)
   | (with_reducible exact LeO.refl _)
   | (with_reducible exact LeO.none _)
   | (with_reducible refine LeO.ite ?_ ?_)
   | (with_reducible refine LeO.bind ?_ (fun _ => ?_))
   | exact cohousingref01_Make.mono _ _ _
   | exact LeO.none _
   | refine LeO.ite ?_ ?_
   | refine LeO.bind ?_ (fun _ => ?_)
theorem cohousingref01_Valid.calls (k : Nat) (a0_0 : Int) (a0_1 : Int) (r : Bool) (w : World) (h : cohousingref01_Valid.f k a0_0 a0_1 = some r) :
  Calls Try.prog 65 #[.agg #[.int .i64 a0_0, .int .i64 a0_1]] w fun e w' => e = .returned (.bool r) ∧ Below w.heap.size w w' := by
 have hu86 := Try.underlying86
 have HB := Aside0.mk (Below.refl w.heap.size w)
 have H : (if a0_1 < 1 then (some false) else ((cohousingref01_Make.f k a0_0 a0_1).bind fun bt201 => (if bt201.2.2 = 0 then (some (bt201.1 == a0_0 && (bt201.2.1 == a0_1))) else (some false)))) = some r := h
 clear h
 by_cases c2 : a0_1 < 1
 ·rw [if_pos c2] at H
  have c2b0 : decide (a0_1 < 1) = true := decide_eq_true c2
  clear c2
  obtain rfl := Option.some.inj H
  go_enter Try.func65, Try.ntmps65
  go_wp2_with (first | ((with_reducible refine gate_dst (N := 1) rfl ?_); refine box_event ?hg (N := 1) ?hd (cs := #[.int .i64 a0_0, .int .i64 a0_1]) (t := 86) ?hr ?_; (case hd => rfl); (case hg => rfl); (case hr => first | (go_simp; done) | (go_simp; rfl)); intro gb200 hg w3 hbox hb; have n0_ := Aside0.mk (below_step (bb_ HB) hb); have n1_ := Aside0.mk (hbox); have n2_ := Aside0.mk ((by rw [hg]; exact (below_size (bb_ HB)) : w.heap.size ≤ gb200)); have n3_ := Aside0.mk ((by rw [hg]; exact (below_size (bb_ HB)) : w.heap.size ≤ gb200)); clear HB; have HB := n0_; have BK200 := n1_; have GW200 := n2_; have GE200 := n3_; clear n0_ n1_ n2_ n3_; clear hb hbox hg; have hcz4_0 : w3.cell? ⟨gb200, 0, none⟩ = some (.int .i64 a0_0) := (blk_cell BK200.out 0).trans rfl; have hcz4_1 : w3.cell? ⟨gb200, 1, none⟩ = some (.int .i64 a0_1) := (blk_cell BK200.out 1).trans rfl; have hfz4_0 := blk_frozen BK200.out 0; have hfz4_1 := blk_frozen BK200.out 1))
  go_ret
  exact ⟨ew_, by repeat (first | (with_reducible first | exact HB.out | apply below_alloc | apply pw_below_drewN | apply below_drew1 | refine below_set ?_ GE200.out) | exact HB.out)⟩
 ·rw [if_neg c2] at H
  have c2b0 : decide (a0_1 < 1) = false := decide_eq_false c2
  clear c2
  replace H := Option.bind_eq_some_iff.mp H
  obtain ⟨⟨t201, t202, t203⟩, A50, H⟩ := H
  replace H : (if t203 = 0 then (some (t201 == a0_0 && (t202 == a0_1))) else (some false)) = some r := H
  have A5 := Aside0.mk A50
  clear A50
  by_cases c6 : t203 = 0
  ·rw [if_pos c6] at H
   have c6b0 : (t203 == 0) = true := beq_iff_eq.mpr c6
   have c6b1 : (t203 != 0) = false := bne_eq_false_iff_eq.mpr c6
   clear c6
   obtain rfl := Option.some.inj H
   go_enter Try.func65, Try.ntmps65
   go_wp2_with (first | ((with_reducible refine gate_dst (N := 1) rfl ?_); refine box_event ?hg (N := 1) ?hd (cs := #[.int .i64 a0_0, .int .i64 a0_1]) (t := 86) ?hr ?_; (case hd => rfl); (case hg => rfl); (case hr => first | (go_simp; done) | (go_simp; rfl)); intro gb200 hg w7 hbox hb; have n0_ := Aside0.mk (below_step (bb_ HB) hb); have n1_ := Aside0.mk (hbox); have n2_ := Aside0.mk ((by rw [hg]; exact (below_size (bb_ HB)) : w.heap.size ≤ gb200)); have n3_ := Aside0.mk ((by rw [hg]; exact (below_size (bb_ HB)) : w.heap.size ≤ gb200)); clear HB; have HB := n0_; have BK200 := n1_; have GW200 := n2_; have GE200 := n3_; clear n0_ n1_ n2_ n3_; clear hb hbox hg; have hcz8_0 : w7.cell? ⟨gb200, 0, none⟩ = some (.int .i64 a0_0) := (blk_cell BK200.out 0).trans rfl; have hcz8_1 : w7.cell? ⟨gb200, 1, none⟩ = some (.int .i64 a0_1) := (blk_cell BK200.out 1).trans rfl; have hfz8_0 := blk_frozen BK200.out 0; have hfz8_1 := blk_frozen BK200.out 1) | ((with_reducible refine gate_callee (f := 82) rfl ?_); refine gl_ (some 13) Try.func82 #[.int .i64 a0_0, .int .i64 a0_1] ?_; (with_reducible refine (cohousingref01_Make.calls k a0_0 a0_1 t201 t202 t203 _ A5.out).mono ?_); rintro e w9 ⟨rfl, hb⟩; refine ⟨_, rfl, ?_⟩; have n0_ := Aside0.mk (blk_below (g := gb200) (o := .cells #[.int .i64 a0_0, .int .i64 a0_1] 86 (0, 0)) (kk_ BK200) hb); have n1_ := Aside0.mk (below_step (bs_ HB GE200.out) hb); clear BK200; clear HB; have BK200 := n0_; have HB := n1_; clear n0_ n1_; (try clear hb); (try clear hb2); (try clear hk); (try clear hi)) | ((with_reducible refine gate_dst (N := 3) rfl ?_); refine box_event ?hg (N := 3) ?hd (cs := #[.int .i64 0, .int .i64 0]) (t := 86) ?hr ?_; (case hd => rfl); (case hg => rfl); (case hr => first | (go_simp; done) | (go_simp; rfl)); intro gb204 hg w10 hbox hb; have n0_ := Aside0.mk (blk_below (g := gb200) (o := .cells #[.int .i64 a0_0, .int .i64 a0_1] 86 (0, 0)) (kk_ BK200) hb); have n1_ := Aside0.mk (below_step (bs_ HB GE200.out) hb); have n2_ := Aside0.mk (hbox); have n3_ := Aside0.mk ((by rw [hg]; exact (below_size (bs_ HB GE200.out)) : w.heap.size ≤ gb204)); have n4_ := Aside0.mk ((by rw [hg]; exact (below_size (bs_ HB GE200.out)) : w.heap.size ≤ gb204)); have n5_ := Aside0.mk ((by rw [hg]; exact Nat.ne_of_lt (blk_lt (g := gb200) (o := .cells #[.int .i64 a0_0, .int .i64 a0_1] 86 (0, 0)) (kk_ BK200)) : gb200 ≠ gb204)); have n6_ := Aside0.mk ((by rw [hg]; exact Nat.ne_of_gt (blk_lt (g := gb200) (o := .cells #[.int .i64 a0_0, .int .i64 a0_1] 86 (0, 0)) (kk_ BK200)) : gb204 ≠ gb200)); clear BK200; clear HB; have BK200 := n0_; have HB := n1_; have BK204 := n2_; have GW204 := n3_; have GE204 := n4_; have NB200_204 := n5_; have NB204_200 := n6_; clear n0_ n1_ n2_ n3_ n4_ n5_ n6_; clear hb hbox hg; have hnb11 := NB204_200.out; have hnc11 := NB200_204.out; have hcz12_0 : w10.cell? ⟨gb204, 0, none⟩ = some (.int .i64 0) := (blk_cell BK204.out 0).trans rfl; have hcz12_1 : w10.cell? ⟨gb204, 1, none⟩ = some (.int .i64 0) := (blk_cell BK204.out 1).trans rfl; have hfz12_0 := blk_frozen BK204.out 0; have hfz12_1 := blk_frozen BK204.out 1; have hcz13_0 : w10.cell? ⟨gb200, 0, none⟩ = some (.int .i64 a0_0) := (blk_cell BK200.out 0).trans rfl; have hcz13_1 : w10.cell? ⟨gb200, 1, none⟩ = some (.int .i64 a0_1) := (blk_cell BK200.out 1).trans rfl; have hfz13_0 := blk_frozen BK200.out 0; have hfz13_1 := blk_frozen BK200.out 1))
   go_ret
   exact ⟨ew_, by repeat (first | (with_reducible first | exact HB.out | apply below_alloc | apply pw_below_drewN | apply below_drew1 | refine below_set ?_ GE200.out | refine below_set ?_ GE204.out) | exact HB.out)⟩
  ·rw [if_neg c6] at H
   have c6b0 : (t203 == 0) = false := beq_eq_false_iff_ne.mpr c6
   have c6b1 : (t203 != 0) = true := bne_iff_ne.mpr c6
   obtain rfl := Option.some.inj H
   go_enter Try.func65, Try.ntmps65
   go_wp2_with (first | ((with_reducible refine gate_dst (N := 1) rfl ?_); refine box_event ?hg (N := 1) ?hd (cs := #[.int .i64 a0_0, .int .i64 a0_1]) (t := 86) ?hr ?_; (case hd => rfl); (case hg => rfl); (case hr => first | (go_simp; done) | (go_simp; rfl)); intro gb200 hg w14 hbox hb; have n0_ := Aside0.mk (below_step (bb_ HB) hb); have n1_ := Aside0.mk (hbox); have n2_ := Aside0.mk ((by rw [hg]; exact (below_size (bb_ HB)) : w.heap.size ≤ gb200)); have n3_ := Aside0.mk ((by rw [hg]; exact (below_size (bb_ HB)) : w.heap.size ≤ gb200)); clear HB; have HB := n0_; have BK200 := n1_; have GW200 := n2_; have GE200 := n3_; clear n0_ n1_ n2_ n3_; clear hb hbox hg; have hcz15_0 : w14.cell? ⟨gb200, 0, none⟩ = some (.int .i64 a0_0) := (blk_cell BK200.out 0).trans rfl; have hcz15_1 : w14.cell? ⟨gb200, 1, none⟩ = some (.int .i64 a0_1) := (blk_cell BK200.out 1).trans rfl; have hfz15_0 := blk_frozen BK200.out 0; have hfz15_1 := blk_frozen BK200.out 1) | ((with_reducible refine gate_callee (f := 82) rfl ?_); refine gl_ (some 13) Try.func82 #[.int .i64 a0_0, .int .i64 a0_1] ?_; (with_reducible refine (cohousingref01_Make.calls k a0_0 a0_1 t201 t202 t203 _ A5.out).mono ?_); rintro e w16 ⟨rfl, hb⟩; refine ⟨_, rfl, ?_⟩; have n0_ := Aside0.mk (blk_below (g := gb200) (o := .cells #[.int .i64 a0_0, .int .i64 a0_1] 86 (0, 0)) (kk_ BK200) hb); have n1_ := Aside0.mk (below_step (bs_ HB GE200.out) hb); clear BK200; clear HB; have BK200 := n0_; have HB := n1_; clear n0_ n1_; (try clear hb); (try clear hb2); (try clear hk); (try clear hi)) | ((with_reducible refine gate_dst (N := 3) rfl ?_); refine box_event ?hg (N := 3) ?hd (cs := #[.int .i64 0, .int .i64 0]) (t := 86) ?hr ?_; (case hd => rfl); (case hg => rfl); (case hr => first | (go_simp; done) | (go_simp; rfl)); intro gb204 hg w17 hbox hb; have n0_ := Aside0.mk (blk_below (g := gb200) (o := .cells #[.int .i64 a0_0, .int .i64 a0_1] 86 (0, 0)) (kk_ BK200) hb); have n1_ := Aside0.mk (below_step (bs_ HB GE200.out) hb); have n2_ := Aside0.mk (hbox); have n3_ := Aside0.mk ((by rw [hg]; exact (below_size (bs_ HB GE200.out)) : w.heap.size ≤ gb204)); have n4_ := Aside0.mk ((by rw [hg]; exact (below_size (bs_ HB GE200.out)) : w.heap.size ≤ gb204)); have n5_ := Aside0.mk ((by rw [hg]; exact Nat.ne_of_lt (blk_lt (g := gb200) (o := .cells #[.int .i64 a0_0, .int .i64 a0_1] 86 (0, 0)) (kk_ BK200)) : gb200 ≠ gb204)); have n6_ := Aside0.mk ((by rw [hg]; exact Nat.ne_of_gt (blk_lt (g := gb200) (o := .cells #[.int .i64 a0_0, .int .i64 a0_1] 86 (0, 0)) (kk_ BK200)) : gb204 ≠ gb200)); clear BK200; clear HB; have BK200 := n0_; have HB := n1_; have BK204 := n2_; have GW204 := n3_; have GE204 := n4_; have NB200_204 := n5_; have NB204_200 := n6_; clear n0_ n1_ n2_ n3_ n4_ n5_ n6_; clear hb hbox hg; have hnb18 := NB204_200.out; have hnc18 := NB200_204.out; have hcz19_0 : w17.cell? ⟨gb204, 0, none⟩ = some (.int .i64 0) := (blk_cell BK204.out 0).trans rfl; have hcz19_1 : w17.cell? ⟨gb204, 1, none⟩ = some (.int .i64 0) := (blk_cell BK204.out 1).trans rfl; have hfz19_0 := blk_frozen BK204.out 0; have hfz19_1 := blk_frozen BK204.out 1))
   go_ret
   exact ⟨ew_, by repeat (first | (with_reducible first | exact HB.out | apply below_alloc | apply pw_below_drewN | apply below_drew1 | refine below_set ?_ GE200.out | refine below_set ?_ GE204.out) | exact HB.out)⟩
end
section
mutual
def cohousingref02_Scale.j0 : Nat → Int → Bool → Int → Int → Option (Int × Int)
 | 0, _, _, _, _ => none
 | k + 1, x0, x21, x206000, x206001 => if x21 = true then (some (0, 1)) else (if x206001 = 0 then (none) else (if (Int.tmod (wrap64 (x0 * x206000)) x206001) < 0 then (cohousingref02_Scale.j1 k (wrap64 (Int.tdiv (wrap64 (x0 * x206000)) x206001)) (Int.tmod (wrap64 (x0 * x206000)) x206001) (decide ((wrap64 ((-2) * (Int.tmod (wrap64 (x0 * x206000)) x206001))) ≥ x206001)) x206000 x206001) else (cohousingref02_Scale.j1 k (wrap64 (Int.tdiv (wrap64 (x0 * x206000)) x206001)) (Int.tmod (wrap64 (x0 * x206000)) x206001) false x206000 x206001)))
def cohousingref02_Scale.j1 : Nat → Int → Int → Bool → Int → Int → Option (Int × Int)
 | 0, _, _, _, _, _ => none
 | k + 1, x9, x10, x42, x206000, x206001 => if x42 = true then (cohousingref02_Scale.j2 k (wrap64 (x9 - 1)) x10 x206000 x206001) else (cohousingref02_Scale.j2 k x9 x10 x206000 x206001)
def cohousingref02_Scale.j2 : Nat → Int → Int → Int → Int → Option (Int × Int)
 | 0, _, _, _, _ => none
 | k + 1, x9, x10, x206000, x206001 => if x10 > 0 then (cohousingref02_Scale.j3 k x9 (decide ((wrap64 (2 * x10)) ≥ x206001))) else (cohousingref02_Scale.j3 k x9 false)
def cohousingref02_Scale.j3 : Nat → Int → Bool → Option (Int × Int)
 | 0, _, _ => none
 | k + 1, x9, x53 => if x53 = true then ((cohousingref02_Amount.f (wrap64 (x9 + 1))).bind fun t208 => (if t208 = true then (some (wrap64 (x9 + 1), 0)) else (some (0, 3)))) else ((cohousingref02_Amount.f x9).bind fun t209 => (if t209 = true then (some (x9, 0)) else (some (0, 3))))
end
def cohousingref02_Scale.f (k : Nat) (a0 : Int) (a1_0 : Int) (a1_1 : Int) : Option (Int × Int) := (cohousingref02_Amount.f a0).bind fun t206 => ((cohousingref01_Valid.f k a1_0 a1_1).bind fun t207 => (if t206 = true then (cohousingref02_Scale.j0 k a0 (!t207) a1_0 a1_1) else (cohousingref02_Scale.j0 k a0 true a1_0 a1_1)))
theorem cohousingref02_Scale.mono_l : ∀ k, (∀ y0 y1 y2 y3, LeO (cohousingref02_Scale.j0 k y0 y1 y2 y3) (cohousingref02_Scale.j0 (k + 1) y0 y1 y2 y3)) ∧ (∀ y0 y1 y2 y3 y4, LeO (cohousingref02_Scale.j1 k y0 y1 y2 y3 y4) (cohousingref02_Scale.j1 (k + 1) y0 y1 y2 y3 y4)) ∧ (∀ y0 y1 y2 y3, LeO (cohousingref02_Scale.j2 k y0 y1 y2 y3) (cohousingref02_Scale.j2 (k + 1) y0 y1 y2 y3)) ∧ (∀ y0 y1, LeO (cohousingref02_Scale.j3 k y0 y1) (cohousingref02_Scale.j3 (k + 1) y0 y1))
 | 0 => ⟨fun _ _ _ _ r h => by simp [cohousingref02_Scale.j0] at h, fun _ _ _ _ _ r h => by simp [cohousingref02_Scale.j1] at h, fun _ _ _ _ r h => by simp [cohousingref02_Scale.j2] at h, fun _ _ r h => by simp [cohousingref02_Scale.j3] at h⟩
 | k + 1 => by
  obtain ⟨ih0, ih1, ih2, ih3⟩ := cohousingref02_Scale.mono_l k
  refine ⟨?_, ?_, ?_, ?_⟩
  ·intro y0 y1 y2 y3
   unfold cohousingref02_Scale.j0
   repeat' first
   | (with_reducible exact ih0 _ _ _ _)
   | (with_reducible exact ih1 _ _ _ _ _)
   | (with_reducible exact ih2 _ _ _ _)
   | (with_reducible exact ih3 _ _)
   | (with_reducible exact cohousingref01_Valid.mono _ _ _)
   | (with_reducible exact LeO.refl _)
   | (with_reducible exact LeO.none _)
   | (with_reducible refine LeO.ite ?_ ?_)
   | (with_reducible refine LeO.bind ?_ (fun _ => ?_))
   | exact ih0 _ _ _ _
   | exact ih1 _ _ _ _ _
   | exact ih2 _ _ _ _
   | exact ih3 _ _
   | exact cohousingref01_Valid.mono _ _ _
   | exact LeO.none _
   | refine LeO.ite ?_ ?_
   | refine LeO.bind ?_ (fun _ => ?_)
  ·intro y0 y1 y2 y3 y4
   unfold cohousingref02_Scale.j1
   repeat' first
   | (with_reducible exact ih0 _ _ _ _)
   | (with_reducible exact ih1 _ _ _ _ _)
   | (with_reducible exact ih2 _ _ _ _)
   | (with_reducible exact ih3 _ _)
   | (with_reducible exact cohousingref01_Valid.mono _ _ _)
   | (with_reducible exact LeO.refl _)
   | (with_reducible exact LeO.none _)
   | (with_reducible refine LeO.ite ?_ ?_)
   | (with_reducible refine LeO.bind ?_ (fun _ => ?_))
   | exact ih0 _ _ _ _
   | exact ih1 _ _ _ _ _
   | exact ih2 _ _ _ _
   | exact ih3 _ _
   | exact cohousingref01_Valid.mono _ _ _
   | exact LeO.none _
   | refine LeO.ite ?_ ?_
   | refine LeO.bind ?_ (fun _ => ?_)
  ·intro y0 y1 y2 y3
   unfold cohousingref02_Scale.j2
   repeat' first
   | (with_reducible exact ih0 _ _ _ _)
   | (with_reducible exact ih1 _ _ _ _ _)
   | (with_reducible exact ih2 _ _ _ _)
   | (with_reducible exact ih3 _ _)
   | (with_reducible exact cohousingref01_Valid.mono _ _ _)
   | (with_reducible exact LeO.refl _)
   | (with_reducible exact LeO.none _)
   | (with_reducible refine LeO.ite ?_ ?_)
   | (with_reducible refine LeO.bind ?_ (fun _ => ?_))
   | exact ih0 _ _ _ _
   | exact ih1 _ _ _ _ _
   | exact ih2 _ _ _ _
   | exact ih3 _ _
   | exact cohousingref01_Valid.mono _ _ _
   | exact LeO.none _
   | refine LeO.ite ?_ ?_
   | refine LeO.bind ?_ (fun _ => ?_)
  ·intro y0 y1
   unfold cohousingref02_Scale.j3
   repeat' first
   | (with_reducible exact ih0 _ _ _ _)
   | (with_reducible exact ih1 _ _ _ _ _)
   | (with_reducible exact ih2 _ _ _ _)
   | (with_reducible exact ih3 _ _)
   | (with_reducible exact cohousingref01_Valid.mono _ _ _)
   | (with_reducible exact LeO.refl _)
   | (with_reducible exact LeO.none _)
   | (with_reducible refine LeO.ite ?_ ?_)
   | (with_reducible refine LeO.bind ?_ (fun _ => ?_))
   | exact ih0 _ _ _ _
   | exact ih1 _ _ _ _ _
   | exact ih2 _ _ _ _
   | exact ih3 _ _
   | exact cohousingref01_Valid.mono _ _ _
   | exact LeO.none _
   | refine LeO.ite ?_ ?_
   | refine LeO.bind ?_ (fun _ => ?_)
theorem cohousingref02_Scale.mono : ∀ a0 a1 a2 k, LeO (cohousingref02_Scale.f k a0 a1 a2) (cohousingref02_Scale.f (k + 1) a0 a1 a2) := by
 intro a0 a1 a2 k
 obtain ⟨ih0, ih1, ih2, ih3⟩ := cohousingref02_Scale.mono_l k
 unfold cohousingref02_Scale.f
 repeat' first
   | (with_reducible exact ih0 _ _ _ _)
   | (with_reducible exact ih1 _ _ _ _ _)
   | (with_reducible exact ih2 _ _ _ _)
   | (with_reducible exact ih3 _ _)
   | (with_reducible exact cohousingref01_Valid.mono _ _ _)
   | (with_reducible exact LeO.refl _)
   | (with_reducible exact LeO.none _)
   | (with_reducible refine LeO.ite ?_ ?_)
   | (with_reducible refine LeO.bind ?_ (fun _ => ?_))
   | exact ih0 _ _ _ _
   | exact ih1 _ _ _ _ _
   | exact ih2 _ _ _ _
   | exact ih3 _ _
   | exact cohousingref01_Valid.mono _ _ _
   | exact LeO.none _
   | refine LeO.ite ?_ ?_
   | refine LeO.bind ?_ (fun _ => ?_)
theorem cohousingref02_Scale.calls (k : Nat) (a0 : Int) (a1_0 : Int) (a1_1 : Int) (r1 : Int) (r2 : Int) (w : World) (h : cohousingref02_Scale.f k a0 a1_0 a1_1 = some (r1, r2)) :
  Calls Try.prog 41 #[.int .i64 a0, .agg #[.int .i64 a1_0, .int .i64 a1_1]] w fun e w' => e = .returned (.tuple #[.int .i64 r1, .int .i64 r2]) ∧ Below w.heap.size w w' := by
 have hu86 := Try.underlying86
 have HB := Aside0.mk (Below.refl w.heap.size w)
 have H : ((cohousingref02_Amount.f a0).bind fun t206 => ((cohousingref01_Valid.f k a1_0 a1_1).bind fun t207 => (if t206 = true then (cohousingref02_Scale.j0 k a0 (!t207) a1_0 a1_1) else (cohousingref02_Scale.j0 k a0 true a1_0 a1_1)))) = some (r1, r2) := h
 clear h
 replace H := Option.bind_eq_some_iff.mp H
 obtain ⟨t206, A30, H⟩ := H
 replace H : ((cohousingref01_Valid.f k a1_0 a1_1).bind fun t207 => (if t206 = true then (cohousingref02_Scale.j0 k a0 (!t207) a1_0 a1_1) else (cohousingref02_Scale.j0 k a0 true a1_0 a1_1))) = some (r1, r2) := H
 have A3 := Aside0.mk A30
 clear A30
 replace H := Option.bind_eq_some_iff.mp H
 obtain ⟨t207, A40, H⟩ := H
 replace H : (if t206 = true then (cohousingref02_Scale.j0 k a0 (!t207) a1_0 a1_1) else (cohousingref02_Scale.j0 k a0 true a1_0 a1_1)) = some (r1, r2) := H
 have A4 := Aside0.mk A40
 clear A40
 have HC5 := Aside0.mk H
 clear H
 go_enter Try.func41, Try.ntmps41
 go_upto_region 3 with (first | ((with_reducible refine gate_dst (N := 3) rfl ?_); refine box_event ?hg (N := 3) ?hd (cs := #[.int .i64 a1_0, .int .i64 a1_1]) (t := 86) ?hr ?_; (case hd => rfl); (case hg => rfl); (case hr => first | (go_simp; done) | (go_simp; rfl)); intro gb205 hg w6 hbox hb; have n0_ := Aside0.mk (below_step (bb_ HB) hb); have n1_ := Aside0.mk (hbox); have n2_ := Aside0.mk ((by rw [hg]; exact (below_size (bb_ HB)) : w.heap.size ≤ gb205)); have n3_ := Aside0.mk ((by rw [hg]; exact (below_size (bb_ HB)) : w.heap.size ≤ gb205)); clear HB; have HB := n0_; have BK205 := n1_; have GW205 := n2_; have GE205 := n3_; clear n0_ n1_ n2_ n3_; clear hb hbox hg) | ((with_reducible refine gate_callee (f := 64) rfl ?_); refine gl_ (some 13) Try.func64 #[.int .i64 a0] ?_; (with_reducible refine (cohousingref02_Amount.calls a0 t206 _ A3.out).mono ?_); rintro e w' ⟨rfl, ⟨nd, rfl⟩⟩; refine ⟨_, rfl, ?_⟩; have hcz7_0 : w6.cell? ⟨gb205, 0, none⟩ = some (.int .i64 a1_0) := (blk_cell BK205.out 0).trans rfl; have hcz7_1 : w6.cell? ⟨gb205, 1, none⟩ = some (.int .i64 a1_1) := (blk_cell BK205.out 1).trans rfl; have hfz7_0 := blk_frozen BK205.out 0; have hfz7_1 := blk_frozen BK205.out 1) | ((with_reducible refine gate_callee (f := 65) rfl ?_); refine gl_ (some 15) Try.func65 #[.agg #[.int .i64 a1_0, .int .i64 a1_1]] ?_; (with_reducible refine (cohousingref01_Valid.calls k a1_0 a1_1 t207 _ A4.out).mono ?_); rintro e w8 ⟨rfl, hb⟩; refine ⟨_, rfl, ?_⟩; have n0_ := Aside0.mk (blk_below (g := gb205) (o := .cells #[.int .i64 a1_0, .int .i64 a1_1] 86 (0, 0)) (kk_ BK205) hb); have n1_ := Aside0.mk (below_step (bs_ HB GE205.out) hb); clear BK205; clear HB; have BK205 := n0_; have HB := n1_; clear n0_ n1_; (try clear hb); (try clear hb2); (try clear hk); (try clear hi)))
 (try simp only [Act.put, sI_, s0_, sS_])
 go_cut [21] (fun v21 wc => ∃ (kq : Nat) (x21_4 : Bool), v21 = .bool x21_4 ∧ Aside0 (cohousingref02_Scale.j0 kq a0 x21_4 a1_0 a1_1 = some (r1, r2)) ∧ Aside0 (kq ≤ k) ∧ Aside0 (wc.heap[gb205]? = some (.cells #[.int .i64 a1_0, .int .i64 a1_1] 86 (0, 0))) ∧ Aside0 (Below w.heap.size w wc))
 case first =>
  have H := HC5.out
  clear HC5
  by_cases c9 : t206 = true
  ·subst c9
   have H1 : (cohousingref02_Scale.j0 k a0 (!t207) a1_0 a1_1) = some (r1, r2) := by rw [if_pos rfl] at H; exact H
   clear H
   have H := H1
   clear H1
   have H' := Aside0.mk H
   clear H
   go_wp2
   go_meet
   case rel => exact ⟨_, (!t207), sd_, H', ⟨by first | omega | exact Nat.le_refl _⟩, ⟨by (with_reducible repeat (first | refine blk_drewN ?_ _ | refine blk_drew ?_ | refine blk_alloc ?_ _)); exact BK205.out⟩, ⟨by repeat (first | (with_reducible first | exact HB.out | apply below_alloc | apply pw_below_drewN | apply below_drew1 | refine below_set ?_ GE205.out) | exact HB.out)⟩⟩
  ·replace c9 := Bool.eq_false_iff.mpr c9
   subst c9
   have H1 : (cohousingref02_Scale.j0 k a0 true a1_0 a1_1) = some (r1, r2) := by rw [if_neg (show ¬ (false = true) by decide)] at H; exact H
   clear H
   have H := H1
   clear H1
   have H' := Aside0.mk H
   clear H
   go_wp2
   go_meet
   case rel => exact ⟨_, (true), sd_, H', ⟨by first | omega | exact Nat.le_refl _⟩, ⟨by (with_reducible repeat (first | refine blk_drewN ?_ _ | refine blk_drew ?_ | refine blk_alloc ?_ _)); exact BK205.out⟩, ⟨by repeat (first | (with_reducible first | exact HB.out | apply below_alloc | apply pw_below_drewN | apply below_drew1 | refine below_set ?_ GE205.out) | exact HB.out)⟩⟩
 case rest =>
  clear HC5
  try clear p2
  try clear c4
  try clear c6
  try clear c9
  try clear hcz7_0
  try clear hcz7_1
  try clear hfz7_0
  try clear hfz7_1
  obtain ⟨kq, x21_4, rfl, HA, HJ4, BK205, HB⟩ := hcut
  cases kq with
  | zero => exact absurd HA.out (by simp [cohousingref02_Scale.j0])
  | succ kj4 =>
   have H := HA.out
   clear HA
   simp only [cohousingref02_Scale.j0] at H
   by_cases c10 : x21_4 = true
   ·subst c10
    have H1 : (some (0, 1)) = some (r1, r2) := by rw [if_pos rfl] at H; exact H
    clear H
    have H := H1
    clear H1
    simp only [Option.some.injEq, Prod.mk.injEq] at H
    obtain ⟨rfl, rfl⟩ := H
    go_wp2
    go_ret2
    exact ⟨ew_, by repeat (first | (with_reducible first | exact HB.out | apply below_alloc | apply pw_below_drewN | apply below_drew1 | refine below_set ?_ GE205.out) | exact HB.out)⟩
   ·replace c10 := Bool.eq_false_iff.mpr c10
    subst c10
    have H1 : (if a1_1 = 0 then (none) else (if (Int.tmod (wrap64 (a0 * a1_0)) a1_1) < 0 then (cohousingref02_Scale.j1 kj4 (wrap64 (Int.tdiv (wrap64 (a0 * a1_0)) a1_1)) (Int.tmod (wrap64 (a0 * a1_0)) a1_1) (decide ((wrap64 ((-2) * (Int.tmod (wrap64 (a0 * a1_0)) a1_1))) ≥ a1_1)) a1_0 a1_1) else (cohousingref02_Scale.j1 kj4 (wrap64 (Int.tdiv (wrap64 (a0 * a1_0)) a1_1)) (Int.tmod (wrap64 (a0 * a1_0)) a1_1) false a1_0 a1_1))) = some (r1, r2) := by rw [if_neg (show ¬ (false = true) by decide)] at H; exact H
    clear H
    have H := H1
    clear H1
    by_cases c11 : a1_1 = 0
    ·rw [if_pos c11] at H
     exact absurd H (by simp)
    ·rw [if_neg c11] at H
     have c11b0 : (a1_1 == 0) = false := beq_eq_false_iff_ne.mpr c11
     have c11b1 : (a1_1 != 0) = true := bne_iff_ne.mpr c11
     have HC12 := Aside0.mk H
     clear H
     have hcz13_0 : wc.cell? ⟨gb205, 0, none⟩ = some (.int .i64 a1_0) := (blk_cell BK205.out 0).trans rfl
     have hcz13_1 : wc.cell? ⟨gb205, 1, none⟩ = some (.int .i64 a1_1) := (blk_cell BK205.out 1).trans rfl
     have hfz13_0 := blk_frozen BK205.out 0
     have hfz13_1 := blk_frozen BK205.out 1
     go_upto_region 8 with (fail)
     go_cut [42] (fun v42 wc => ∃ (kq : Nat) (x42_11 : Bool), v42 = .bool x42_11 ∧ Aside0 (cohousingref02_Scale.j1 kq (wrap64 (Int.tdiv (wrap64 (a0 * a1_0)) a1_1)) (Int.tmod (wrap64 (a0 * a1_0)) a1_1) x42_11 a1_0 a1_1 = some (r1, r2)) ∧ Aside0 (kq ≤ kj4) ∧ Aside0 (wc.heap[gb205]? = some (.cells #[.int .i64 a1_0, .int .i64 a1_1] 86 (0, 0))) ∧ Aside0 (Below w.heap.size w wc))
     case first =>
      have H := HC12.out
      clear HC12
      by_cases c14 : (Int.tmod (wrap64 (a0 * a1_0)) a1_1) < 0
      ·rw [if_pos c14] at H
       have c14b0 : decide ((Int.tmod (wrap64 (a0 * a1_0)) a1_1) < 0) = true := decide_eq_true c14
       clear c14
       (first | rw [c14b0] | (simp only [i64_w, i32_w]; rw [c14b0]) | skip)
       have H' := Aside0.mk H
       clear H
       have hcz15_0 : wc.cell? ⟨gb205, 0, none⟩ = some (.int .i64 a1_0) := (blk_cell BK205.out 0).trans rfl
       have hcz15_1 : wc.cell? ⟨gb205, 1, none⟩ = some (.int .i64 a1_1) := (blk_cell BK205.out 1).trans rfl
       have hfz15_0 := blk_frozen BK205.out 0
       have hfz15_1 := blk_frozen BK205.out 1
       go_wp2
       go_meet
       case rel => exact ⟨_, (decide ((wrap64 ((-2) * (Int.tmod (wrap64 (a0 * a1_0)) a1_1))) ≥ a1_1)), sd_, H', ⟨by have := HJ4.out; first | omega | exact Nat.le_refl _⟩, ⟨by (with_reducible repeat (first | refine blk_drewN ?_ _ | refine blk_drew ?_ | refine blk_alloc ?_ _)); exact BK205.out⟩, ⟨by repeat (first | (with_reducible first | exact HB.out | apply below_alloc | apply pw_below_drewN | apply below_drew1 | refine below_set ?_ GE205.out) | exact HB.out)⟩⟩
      ·rw [if_neg c14] at H
       have c14b0 : decide ((Int.tmod (wrap64 (a0 * a1_0)) a1_1) < 0) = false := decide_eq_false c14
       clear c14
       (first | rw [c14b0] | (simp only [i64_w, i32_w]; rw [c14b0]) | skip)
       have H' := Aside0.mk H
       clear H
       go_wp2
       go_meet
       case rel => exact ⟨_, (false), sd_, H', ⟨by have := HJ4.out; first | omega | exact Nat.le_refl _⟩, ⟨by (with_reducible repeat (first | refine blk_drewN ?_ _ | refine blk_drew ?_ | refine blk_alloc ?_ _)); exact BK205.out⟩, ⟨by repeat (first | (with_reducible first | exact HB.out | apply below_alloc | apply pw_below_drewN | apply below_drew1 | refine below_set ?_ GE205.out) | exact HB.out)⟩⟩
     case rest =>
      clear HC12
      try clear c1
      try clear p2
      try clear c4
      try clear c6
      try clear p6
      try clear c9
      try clear c10
      try clear c11
      try clear c11b0
      try clear c11b1
      try clear c14
      try clear c14b0
      try clear hcz13_0
      try clear hcz13_1
      try clear hcz15_0
      try clear hcz15_1
      try clear hcz7_0
      try clear hcz7_1
      try clear hfz13_0
      try clear hfz13_1
      try clear hfz15_0
      try clear hfz15_1
      try clear hfz7_0
      try clear hfz7_1
      try clear p2
      obtain ⟨kq, x42_11, rfl, HA, HJ11, BK205, HB⟩ := hcut
      cases kq with
      | zero => exact absurd HA.out (by simp [cohousingref02_Scale.j1])
      | succ kj11 =>
       have H := HA.out
       clear HA
       simp only [cohousingref02_Scale.j1] at H
       have HC16 := Aside0.mk H
       clear H
       go_upto_if 42 with (fail)
       go_cut [9] (fun v9 wc => ∃ (kq : Nat) (x9_15 : Int), v9 = .int .i64 x9_15 ∧ Aside0 (cohousingref02_Scale.j2 kq x9_15 (Int.tmod (wrap64 (a0 * a1_0)) a1_1) a1_0 a1_1 = some (r1, r2)) ∧ Aside0 (kq ≤ kj11) ∧ Aside0 (wc.heap[gb205]? = some (.cells #[.int .i64 a1_0, .int .i64 a1_1] 86 (0, 0))) ∧ Aside0 (Below w.heap.size w wc))
       case first =>
        have H := HC16.out
        clear HC16
        by_cases c17 : x42_11 = true
        ·subst c17
         have H1 : (cohousingref02_Scale.j2 kj11 (wrap64 ((wrap64 (Int.tdiv (wrap64 (a0 * a1_0)) a1_1)) - 1)) (Int.tmod (wrap64 (a0 * a1_0)) a1_1) a1_0 a1_1) = some (r1, r2) := by rw [if_pos rfl] at H; exact H
         clear H
         have H := H1
         clear H1
         have H' := Aside0.mk H
         clear H
         go_wp2
         go_meet
         case rel => exact ⟨_, (wrap64 ((wrap64 (Int.tdiv (wrap64 (a0 * a1_0)) a1_1)) - 1)), sd_, H', ⟨by have := HJ4.out; have := HJ11.out; first | omega | exact Nat.le_refl _⟩, ⟨by (with_reducible repeat (first | refine blk_drewN ?_ _ | refine blk_drew ?_ | refine blk_alloc ?_ _)); exact BK205.out⟩, ⟨by repeat (first | (with_reducible first | exact HB.out | apply below_alloc | apply pw_below_drewN | apply below_drew1 | refine below_set ?_ GE205.out) | exact HB.out)⟩⟩
        ·replace c17 := Bool.eq_false_iff.mpr c17
         subst c17
         have H1 : (cohousingref02_Scale.j2 kj11 (wrap64 (Int.tdiv (wrap64 (a0 * a1_0)) a1_1)) (Int.tmod (wrap64 (a0 * a1_0)) a1_1) a1_0 a1_1) = some (r1, r2) := by rw [if_neg (show ¬ (false = true) by decide)] at H; exact H
         clear H
         have H := H1
         clear H1
         have H' := Aside0.mk H
         clear H
         go_wp2
         go_meet
         case rel => exact ⟨_, ((wrap64 (Int.tdiv (wrap64 (a0 * a1_0)) a1_1))), sd_, H', ⟨by have := HJ4.out; have := HJ11.out; first | omega | exact Nat.le_refl _⟩, ⟨by (with_reducible repeat (first | refine blk_drewN ?_ _ | refine blk_drew ?_ | refine blk_alloc ?_ _)); exact BK205.out⟩, ⟨by repeat (first | (with_reducible first | exact HB.out | apply below_alloc | apply pw_below_drewN | apply below_drew1 | refine below_set ?_ GE205.out) | exact HB.out)⟩⟩
       case rest =>
        clear HC16
        try clear c1
        try clear p2
        try clear c4
        try clear c6
        try clear p6
        try clear c9
        try clear c10
        try clear c11
        try clear c11b0
        try clear c11b1
        try clear c14
        try clear c14b0
        try clear c17
        try clear hcz13_0
        try clear hcz13_1
        try clear hcz15_0
        try clear hcz15_1
        try clear hcz7_0
        try clear hcz7_1
        try clear hfz13_0
        try clear hfz13_1
        try clear hfz15_0
        try clear hfz15_1
        try clear hfz7_0
        try clear hfz7_1
        try clear p2
        try clear p6
        obtain ⟨kq, x9_15, rfl, HA, HJ15, BK205, HB⟩ := hcut
        cases kq with
        | zero => exact absurd HA.out (by simp [cohousingref02_Scale.j2])
        | succ kj15 =>
         have H := HA.out
         clear HA
         simp only [cohousingref02_Scale.j2] at H
         have HC18 := Aside0.mk H
         clear H
         go_upto_region 10 with (fail)
         go_cut [53] (fun v53 wc => ∃ (kq : Nat) (x53_17 : Bool), v53 = .bool x53_17 ∧ Aside0 (cohousingref02_Scale.j3 kq x9_15 x53_17 = some (r1, r2)) ∧ Aside0 (kq ≤ kj15) ∧ Aside0 (wc.heap[gb205]? = some (.cells #[.int .i64 a1_0, .int .i64 a1_1] 86 (0, 0))) ∧ Aside0 (Below w.heap.size w wc))
         case first =>
          have H := HC18.out
          clear HC18
          by_cases c19 : (Int.tmod (wrap64 (a0 * a1_0)) a1_1) > 0
          ·rw [if_pos c19] at H
           have c19b0 : decide (0 < (Int.tmod (wrap64 (a0 * a1_0)) a1_1)) = true := decide_eq_true c19
           clear c19
           (first | rw [c19b0] | (simp only [i64_w, i32_w]; rw [c19b0]) | skip)
           have H' := Aside0.mk H
           clear H
           have hcz20_0 : wc.cell? ⟨gb205, 0, none⟩ = some (.int .i64 a1_0) := (blk_cell BK205.out 0).trans rfl
           have hcz20_1 : wc.cell? ⟨gb205, 1, none⟩ = some (.int .i64 a1_1) := (blk_cell BK205.out 1).trans rfl
           have hfz20_0 := blk_frozen BK205.out 0
           have hfz20_1 := blk_frozen BK205.out 1
           go_wp2
           go_meet
           case rel => exact ⟨_, (decide ((wrap64 (2 * (Int.tmod (wrap64 (a0 * a1_0)) a1_1))) ≥ a1_1)), sd_, H', ⟨by have := HJ4.out; have := HJ11.out; have := HJ15.out; first | omega | exact Nat.le_refl _⟩, ⟨by (with_reducible repeat (first | refine blk_drewN ?_ _ | refine blk_drew ?_ | refine blk_alloc ?_ _)); exact BK205.out⟩, ⟨by repeat (first | (with_reducible first | exact HB.out | apply below_alloc | apply pw_below_drewN | apply below_drew1 | refine below_set ?_ GE205.out) | exact HB.out)⟩⟩
          ·rw [if_neg c19] at H
           have c19b0 : decide (0 < (Int.tmod (wrap64 (a0 * a1_0)) a1_1)) = false := decide_eq_false c19
           clear c19
           (first | rw [c19b0] | (simp only [i64_w, i32_w]; rw [c19b0]) | skip)
           have H' := Aside0.mk H
           clear H
           go_wp2
           go_meet
           case rel => exact ⟨_, (false), sd_, H', ⟨by have := HJ4.out; have := HJ11.out; have := HJ15.out; first | omega | exact Nat.le_refl _⟩, ⟨by (with_reducible repeat (first | refine blk_drewN ?_ _ | refine blk_drew ?_ | refine blk_alloc ?_ _)); exact BK205.out⟩, ⟨by repeat (first | (with_reducible first | exact HB.out | apply below_alloc | apply pw_below_drewN | apply below_drew1 | refine below_set ?_ GE205.out) | exact HB.out)⟩⟩
         case rest =>
          clear HC18
          try clear c1
          try clear p2
          try clear c4
          try clear c6
          try clear p6
          try clear c9
          try clear c10
          try clear c11
          try clear c11b0
          try clear c11b1
          try clear c14
          try clear c14b0
          try clear c17
          try clear c19
          try clear c19b0
          try clear hcz13_0
          try clear hcz13_1
          try clear hcz15_0
          try clear hcz15_1
          try clear hcz20_0
          try clear hcz20_1
          try clear hcz7_0
          try clear hcz7_1
          try clear hfz13_0
          try clear hfz13_1
          try clear hfz15_0
          try clear hfz15_1
          try clear hfz20_0
          try clear hfz20_1
          try clear hfz7_0
          try clear hfz7_1
          try clear p2
          try clear p6
          obtain ⟨kq, x53_17, rfl, HA, HJ17, BK205, HB⟩ := hcut
          cases kq with
          | zero => exact absurd HA.out (by simp [cohousingref02_Scale.j3])
          | succ kj17 =>
           have H := HA.out
           clear HA
           simp only [cohousingref02_Scale.j3] at H
           by_cases c21 : x53_17 = true
           ·subst c21
            have H1 : ((cohousingref02_Amount.f (wrap64 (x9_15 + 1))).bind fun t208 => (if t208 = true then (some (wrap64 (x9_15 + 1), 0)) else (some (0, 3)))) = some (r1, r2) := by rw [if_pos rfl] at H; exact H
            clear H
            have H := H1
            clear H1
            replace H := Option.bind_eq_some_iff.mp H
            obtain ⟨t208, A220, H⟩ := H
            replace H : (if t208 = true then (some (wrap64 (x9_15 + 1), 0)) else (some (0, 3))) = some (r1, r2) := H
            have A22 := Aside0.mk A220
            clear A220
            by_cases c23 : t208 = true
            ·subst c23
             have H1 : (some (wrap64 (x9_15 + 1), 0)) = some (r1, r2) := by rw [if_pos rfl] at H; exact H
             clear H
             have H := H1
             clear H1
             simp only [Option.some.injEq, Prod.mk.injEq] at H
             obtain ⟨rfl, rfl⟩ := H
             go_wp2_with (first | ((with_reducible refine gate_callee (f := 64) rfl ?_); refine gl_ (some 57) Try.func64 #[.int .i64 (wrap64 (x9_15 + 1))] ?_; (with_reducible refine (cohousingref02_Amount.calls (wrap64 (x9_15 + 1)) true _ A22.out).mono ?_); rintro e w' ⟨rfl, ⟨nd, rfl⟩⟩; refine ⟨_, rfl, ?_⟩))
             go_ret2
             exact ⟨ew_, by repeat (first | (with_reducible first | exact HB.out | apply below_alloc | apply pw_below_drewN | apply below_drew1 | refine below_set ?_ GE205.out) | exact HB.out)⟩
            ·replace c23 := Bool.eq_false_iff.mpr c23
             subst c23
             have H1 : (some (0, 3)) = some (r1, r2) := by rw [if_neg (show ¬ (false = true) by decide)] at H; exact H
             clear H
             have H := H1
             clear H1
             simp only [Option.some.injEq, Prod.mk.injEq] at H
             obtain ⟨rfl, rfl⟩ := H
             go_wp2_with (first | ((with_reducible refine gate_callee (f := 64) rfl ?_); refine gl_ (some 57) Try.func64 #[.int .i64 (wrap64 (x9_15 + 1))] ?_; (with_reducible refine (cohousingref02_Amount.calls (wrap64 (x9_15 + 1)) false _ A22.out).mono ?_); rintro e w' ⟨rfl, ⟨nd, rfl⟩⟩; refine ⟨_, rfl, ?_⟩))
             go_ret2
             exact ⟨ew_, by repeat (first | (with_reducible first | exact HB.out | apply below_alloc | apply pw_below_drewN | apply below_drew1 | refine below_set ?_ GE205.out) | exact HB.out)⟩
           ·replace c21 := Bool.eq_false_iff.mpr c21
            subst c21
            have H1 : ((cohousingref02_Amount.f x9_15).bind fun t209 => (if t209 = true then (some (x9_15, 0)) else (some (0, 3)))) = some (r1, r2) := by rw [if_neg (show ¬ (false = true) by decide)] at H; exact H
            clear H
            have H := H1
            clear H1
            replace H := Option.bind_eq_some_iff.mp H
            obtain ⟨t209, A240, H⟩ := H
            replace H : (if t209 = true then (some (x9_15, 0)) else (some (0, 3))) = some (r1, r2) := H
            have A24 := Aside0.mk A240
            clear A240
            by_cases c25 : t209 = true
            ·subst c25
             have H1 : (some (x9_15, 0)) = some (r1, r2) := by rw [if_pos rfl] at H; exact H
             clear H
             have H := H1
             clear H1
             simp only [Option.some.injEq, Prod.mk.injEq] at H
             obtain ⟨rfl, rfl⟩ := H
             go_wp2_with (first | ((with_reducible refine gate_callee (f := 64) rfl ?_); refine gl_ (some 57) Try.func64 #[.int .i64 x9_15] ?_; (with_reducible refine (cohousingref02_Amount.calls x9_15 true _ A24.out).mono ?_); rintro e w' ⟨rfl, ⟨nd, rfl⟩⟩; refine ⟨_, rfl, ?_⟩))
             go_ret2
             exact ⟨ew_, by repeat (first | (with_reducible first | exact HB.out | apply below_alloc | apply pw_below_drewN | apply below_drew1 | refine below_set ?_ GE205.out) | exact HB.out)⟩
            ·replace c25 := Bool.eq_false_iff.mpr c25
             subst c25
             have H1 : (some (0, 3)) = some (r1, r2) := by rw [if_neg (show ¬ (false = true) by decide)] at H; exact H
             clear H
             have H := H1
             clear H1
             simp only [Option.some.injEq, Prod.mk.injEq] at H
             obtain ⟨rfl, rfl⟩ := H
             go_wp2_with (first | ((with_reducible refine gate_callee (f := 64) rfl ?_); refine gl_ (some 57) Try.func64 #[.int .i64 x9_15] ?_; (with_reducible refine (cohousingref02_Amount.calls x9_15 false _ A24.out).mono ?_); rintro e w' ⟨rfl, ⟨nd, rfl⟩⟩; refine ⟨_, rfl, ?_⟩))
             go_ret2
             exact ⟨ew_, by repeat (first | (with_reducible first | exact HB.out | apply below_alloc | apply pw_below_drewN | apply below_drew1 | refine below_set ?_ GE205.out) | exact HB.out)⟩
end
section
def cohousingref05_gcd.l0 : Nat → Int → Int → Option (Int)
 | 0, _, _ => none
 | k + 1, x0, x1 => if x1 > 0 then (if x1 = 0 then (none) else (cohousingref05_gcd.l0 k x1 (Int.tmod x0 x1))) else (some x0)
def cohousingref05_gcd.f (k : Nat) (a0 : Int) (a1 : Int) : Option (Int) := cohousingref05_gcd.l0 k a0 a1
theorem cohousingref05_gcd.mono_l : ∀ k, (∀ y0 y1, LeO (cohousingref05_gcd.l0 k y0 y1) (cohousingref05_gcd.l0 (k + 1) y0 y1))
 | 0 => fun _ _ r h => by simp [cohousingref05_gcd.l0] at h
 | k + 1 => by
  have ih0 := cohousingref05_gcd.mono_l k
  ·intro y0 y1
   unfold cohousingref05_gcd.l0
   repeat' first
   | (with_reducible exact ih0 _ _)
   | (with_reducible exact LeO.refl _)
   | (with_reducible exact LeO.none _)
   | (with_reducible refine LeO.ite ?_ ?_)
   | (with_reducible refine LeO.bind ?_ (fun _ => ?_))
   | exact ih0 _ _
   | exact LeO.none _
   | refine LeO.ite ?_ ?_
   | refine LeO.bind ?_ (fun _ => ?_)
theorem cohousingref05_gcd.mono : ∀ a0 a1 k, LeO (cohousingref05_gcd.f k a0 a1) (cohousingref05_gcd.f (k + 1) a0 a1) := by
 intro a0 a1 k
 have ih0 := cohousingref05_gcd.mono_l k
 unfold cohousingref05_gcd.f
 repeat' first
   | (with_reducible exact ih0 _ _)
   | (with_reducible exact LeO.refl _)
   | (with_reducible exact LeO.none _)
   | (with_reducible refine LeO.ite ?_ ?_)
   | (with_reducible refine LeO.bind ?_ (fun _ => ?_))
   | exact ih0 _ _
   | exact LeO.none _
   | refine LeO.ite ?_ ?_
   | refine LeO.bind ?_ (fun _ => ?_)
theorem cohousingref05_gcd.calls (k : Nat) (a0 : Int) (a1 : Int) (r : Int) (w : World) (h : cohousingref05_gcd.f k a0 a1 = some r) :
  Calls Try.prog 66 #[.int .i64 a0, .int .i64 a1] w fun e w' => e = .returned (.int .i64 r) ∧ Drawn0 w w' := by
 have H : (cohousingref05_gcd.l0 k a0 a1) = some r := h
 clear h
 have H' := Aside0.mk H
 clear H
 go_enter Try.func66, Try.ntmps66
 go_wp2
 go_loopg [0, 1] k (fun kq v0 v1 w' => ∃ (x0_1 : Int) (x1_1 : Int), v0 = .int .i64 x0_1 ∧ v1 = .int .i64 x1_1 ∧ Aside0 (cohousingref05_gcd.l0 kq x0_1 x1_1 = some r) ∧ Aside0 (kq ≤ k) ∧ Drawn0 w w')
 case atStart => exact ⟨(a0), (a1), sd_, sd_, H', ⟨Nat.le_refl _⟩, by repeat (first | exact Drawn0.refl _ | apply Drawn0.step)⟩
 case round =>
  clear H'
  try clear p2
  obtain ⟨x0_1, x1_1, rfl, rfl, HA, HK1, ⟨m1, rfl⟩⟩ := hrel
  cases gk with
  | zero => exact absurd HA.out (by simp [cohousingref05_gcd.l0])
  | succ k1 =>
   have H := HA.out
   clear HA
   simp only [cohousingref05_gcd.l0] at H
   by_cases c3 : x1_1 > 0
   ·rw [if_pos c3] at H
    have c3b0 : decide (0 < x1_1) = true := decide_eq_true c3
    clear c3
    by_cases c4 : x1_1 = 0
    ·rw [if_pos c4] at H
     exact absurd H (by simp)
    ·rw [if_neg c4] at H
     have c4b0 : (x1_1 == 0) = false := beq_eq_false_iff_ne.mpr c4
     have c4b1 : (x1_1 != 0) = true := bne_iff_ne.mpr c4
     have H' := Aside0.mk H
     clear H
     go_wp2
     go_roundg k1
     case measure => have := HK1.out; omega
     case rel => exact ⟨(x1_1), (Int.tmod x0_1 x1_1), sd_, sd_, H', ⟨by have := HK1.out; omega⟩, by repeat (first | exact Drawn0.refl _ | apply Drawn0.step)⟩
   ·rw [if_neg c3] at H
    have c3b0 : decide (0 < x1_1) = false := decide_eq_false c3
    clear c3
    obtain rfl := Option.some.inj H
    go_wp2
    go_ret
    exact ⟨by first | rfl | (simp; done) | (simp [*]; done), by repeat (first | exact Drawn0.refl _ | apply Drawn0.step)⟩
end
section
def cohousingref05_Reduce.f (k : Nat) (a0 : Int) (a1 : Int) : Option (Int × Int) := if a0 < 0 then ((cohousingref05_gcd.f k (wrap64 (-a0)) a1).bind fun t211 => (if t211 = 0 then (none) else (some (wrap64 (Int.tdiv a0 t211), wrap64 (Int.tdiv a1 t211))))) else ((cohousingref05_gcd.f k a0 a1).bind fun t212 => (if t212 = 0 then (none) else (some (wrap64 (Int.tdiv a0 t212), wrap64 (Int.tdiv a1 t212)))))
theorem cohousingref05_Reduce.mono : ∀ a0 a1 k, LeO (cohousingref05_Reduce.f k a0 a1) (cohousingref05_Reduce.f (k + 1) a0 a1) := by
 intro a0 a1 k
 unfold cohousingref05_Reduce.f
 repeat' first
   | (with_reducible exact cohousingref05_gcd.mono _ _ _)
   | (with_reducible exact LeO.refl _)
   | (with_reducible exact LeO.none _)
   | (with_reducible refine LeO.ite ?_ ?_)
   | (with_reducible refine LeO.bind ?_ (fun _ => ?_))
   | exact cohousingref05_gcd.mono _ _ _
   | exact LeO.none _
   | refine LeO.ite ?_ ?_
   | refine LeO.bind ?_ (fun _ => ?_)
def cohousingref05_Reduce.T5 : Bool × List (List Nat × List Nat) := (true, [([], []), ([], []), ([0, 1], [0, 1]), ([], []), ([], []), ([3, 4], [3, 4]), ([2, 5], [2, 5]), ([6, 0, 1, 2, 3, 4, 5, 6], [6])])
def cohousingref05_Reduce.B5 : List Nat := [0, 0, 3, 0, 0, 24, 63, 127]
theorem cohousingref05_Reduce.tab5 : rtab .any (opsOf Try.f42 5) = cohousingref05_Reduce.T5 := by kernel_rfl
theorem cohousingref05_Reduce.bits5 : waitsOk cohousingref05_Reduce.T5.2 cohousingref05_Reduce.B5 = true := by kernel_rfl
theorem cohousingref05_Reduce.calls (k : Nat) (a0 : Int) (a1 : Int) (r1 : Int) (r2 : Int) (w : World) (h : cohousingref05_Reduce.f k a0 a1 = some (r1, r2)) :
  Calls Try.prog 42 #[.int .i64 a0, .int .i64 a1] w fun e w' => e = .returned (.agg #[.int .i64 r1, .int .i64 r2]) ∧ Below w.heap.size w w' := by
 have hu86 := Try.underlying86
 have HB := Aside0.mk (Below.refl w.heap.size w)
 have H : (if a0 < 0 then ((cohousingref05_gcd.f k (wrap64 (-a0)) a1).bind fun t211 => (if t211 = 0 then (none) else (some (wrap64 (Int.tdiv a0 t211), wrap64 (Int.tdiv a1 t211))))) else ((cohousingref05_gcd.f k a0 a1).bind fun t212 => (if t212 = 0 then (none) else (some (wrap64 (Int.tdiv a0 t212), wrap64 (Int.tdiv a1 t212)))))) = some (r1, r2) := h
 clear h
 by_cases c3 : a0 < 0
 ·rw [if_pos c3] at H
  have c3b0 : decide (a0 < 0) = true := decide_eq_true c3
  clear c3
  replace H := Option.bind_eq_some_iff.mp H
  obtain ⟨t211, A40, H⟩ := H
  replace H : (if t211 = 0 then (none) else (some (wrap64 (Int.tdiv a0 t211), wrap64 (Int.tdiv a1 t211)))) = some (r1, r2) := H
  have A4 := Aside0.mk A40
  clear A40
  by_cases c5 : t211 = 0
  ·rw [if_pos c5] at H
   exact absurd H (by simp)
  ·rw [if_neg c5] at H
   have c5b0 : (t211 == 0) = false := beq_eq_false_iff_ne.mpr c5
   have c5b1 : (t211 != 0) = true := bne_iff_ne.mpr c5
   simp only [Option.some.injEq, Prod.mk.injEq] at H
   obtain ⟨rfl, rfl⟩ := H
   go_enter Try.func42, Try.ntmps42
   try go_wp2_with (first | ((with_reducible refine gate_dst (N := 4) rfl ?_); refine box_event ?hg (N := 4) ?hd (cs := #[.int .i64 0, .int .i64 0]) (t := 86) ?hr ?_; (case hd => rfl); (case hg => rfl); (case hr => first | (go_simp; done) | (go_simp; rfl)); intro gb210 hg w6 hbox hb; have n0_ := Aside0.mk (below_step (bb_ HB) hb); have n1_ := Aside0.mk (hbox); have n2_ := Aside0.mk ((by rw [hg]; exact (below_size (bb_ HB)) : w.heap.size ≤ gb210)); have n3_ := Aside0.mk ((by rw [hg]; exact (below_size (bb_ HB)) : w.heap.size ≤ gb210)); clear HB; have HB := n0_; have BK210 := n1_; have GW210 := n2_; have GE210 := n3_; clear n0_ n1_ n2_ n3_; clear hb hbox hg) | ((with_reducible refine gate_callee (f := 66) rfl ?_); refine gl_ (some 14) Try.func66 #[.int .i64 (wrap64 (-a0)), .int .i64 a1] ?_; (with_reducible refine (cohousingref05_gcd.calls k (wrap64 (-a0)) a1 t211 _ A4.out).mono ?_); rintro e w' ⟨rfl, ⟨nd, rfl⟩⟩; refine ⟨_, rfl, ?_⟩; (try (rw [drewN_self w6]; generalize hq_ : World.drewN w6 _ = w6; have n0_ : Aside0 (w6.heap[gb210]? = some (.cells #[.int .i64 0, .int .i64 0] 86 (0, 0))) := ⟨by rw [← hq_]; exact (kk_ BK210)⟩; have n1_ : Aside0 (Below w.heap.size w w6) := ⟨by rw [← hq_]; exact (bs_ HB GE210.out)⟩; clear BK210 HB hq_; have BK210 := n0_; have HB := n1_; clear n0_ n1_))))
   have n0_ := Aside0.mk (blk_drew BK210.out)
   have n1_ := Aside0.mk (below_drew1 HB.out)
   clear BK210
   clear HB
   have BK210 := n0_
   have HB := n1_
   clear n0_ n1_
   refine start_ (n := 8) (S := fun w' => True) (ds := []) #[n_, n_, n_, n_, n_, n_, n_, n_] (by kernel_rfl) rfl rfl trivial (fun hHeld => ?_); refine with_tabW cohousingref05_Reduce.tab5 cohousingref05_Reduce.bits5 (fun HT_ HW_ => ?_)
   generalize w6.drew = w7 at BK210 HB hHeld ⊢
   refine pu_ 0 15 (w_ 8 1) rfl HT_ ?_
   refine pu_ 1 16 (w_ 8 3) rfl HT_ ?_
   refine pu_ 2 17 (w_ 8 7) rfl HT_ ?_
   refine pu_ 3 18 (w_ 8 15) rfl HT_ ?_
   refine pu_ 4 19 (w_ 8 31) rfl HT_ ?_
   refine pu_ 5 20 (w_ 8 63) rfl HT_ ?_
   refine pu_ 6 21 (w_ 8 127) rfl HT_ ?_
   refine one_ (i := 7) (N := none) (w_ 8 255) rfl rfl (one_of HT_.out (by kernel_rfl)) (by decide) (fun K hK => ?_)
   have hs8 : w7.cell? ⟨gb210, 0, none⟩ = some (.int .i64 0) := (blk_cell BK210.out 0).trans rfl
   have hfs8 := blk_frozen BK210.out 0
   have hs9 : w7.cell? ⟨gb210, 1, none⟩ = some (.int .i64 0) := (blk_cell BK210.out 1).trans rfl
   have hfs9 := blk_frozen BK210.out 1
   refine skip_ (w1 := ?_) (by rfl) rfl ?_ ?_
   rotate_left
   ·go_simp
    rfl
   refine hK.out _ _ trivial (fun hHeld => ?_)
   clear hK K
   refine done_ (done_of HT_.out (by kernel_rfl)) ?_
   try go_wp2
   refine bodyPost_ret (results_cell_row rfl _ _ gb210 86 #[.int .i64 (wrap64 (Int.tdiv a0 t211)), .int .i64 (wrap64 (Int.tdiv a1 t211))] (0, 0) _ rfl (by (with_reducible repeat (first | refine blk_drewN ?_ _ | refine blk_drew ?_ | refine blk_alloc ?_ _)); refine blk_put (cs := #[.int .i64 (wrap64 (Int.tdiv a0 t211)), .int .i64 0]) ?_ 1 _ rfl; (with_reducible repeat (first | refine blk_drewN ?_ _ | refine blk_drew ?_ | refine blk_alloc ?_ _)); refine blk_put (cs := #[.int .i64 0, .int .i64 0]) ?_ 0 _ rfl; (with_reducible repeat (first | refine blk_drewN ?_ _ | refine blk_drew ?_ | refine blk_alloc ?_ _)); exact BK210.out) Try.underlying86 rfl (by kernel_rfl)) rfl ?_
   exact ⟨ew_, by repeat (first | (with_reducible first | exact HB.out | apply below_alloc | apply pw_below_drewN | apply below_drew1 | refine below_set ?_ GE210.out) | exact HB.out)⟩
 ·rw [if_neg c3] at H
  have c3b0 : decide (a0 < 0) = false := decide_eq_false c3
  clear c3
  replace H := Option.bind_eq_some_iff.mp H
  obtain ⟨t212, A100, H⟩ := H
  replace H : (if t212 = 0 then (none) else (some (wrap64 (Int.tdiv a0 t212), wrap64 (Int.tdiv a1 t212)))) = some (r1, r2) := H
  have A10 := Aside0.mk A100
  clear A100
  by_cases c11 : t212 = 0
  ·rw [if_pos c11] at H
   exact absurd H (by simp)
  ·rw [if_neg c11] at H
   have c11b0 : (t212 == 0) = false := beq_eq_false_iff_ne.mpr c11
   have c11b1 : (t212 != 0) = true := bne_iff_ne.mpr c11
   simp only [Option.some.injEq, Prod.mk.injEq] at H
   obtain ⟨rfl, rfl⟩ := H
   go_enter Try.func42, Try.ntmps42
   try go_wp2_with (first | ((with_reducible refine gate_dst (N := 4) rfl ?_); refine box_event ?hg (N := 4) ?hd (cs := #[.int .i64 0, .int .i64 0]) (t := 86) ?hr ?_; (case hd => rfl); (case hg => rfl); (case hr => first | (go_simp; done) | (go_simp; rfl)); intro gb210 hg w12 hbox hb; have n0_ := Aside0.mk (below_step (bb_ HB) hb); have n1_ := Aside0.mk (hbox); have n2_ := Aside0.mk ((by rw [hg]; exact (below_size (bb_ HB)) : w.heap.size ≤ gb210)); have n3_ := Aside0.mk ((by rw [hg]; exact (below_size (bb_ HB)) : w.heap.size ≤ gb210)); clear HB; have HB := n0_; have BK210 := n1_; have GW210 := n2_; have GE210 := n3_; clear n0_ n1_ n2_ n3_; clear hb hbox hg) | ((with_reducible refine gate_callee (f := 66) rfl ?_); refine gl_ (some 14) Try.func66 #[.int .i64 a0, .int .i64 a1] ?_; (with_reducible refine (cohousingref05_gcd.calls k a0 a1 t212 _ A10.out).mono ?_); rintro e w' ⟨rfl, ⟨nd, rfl⟩⟩; refine ⟨_, rfl, ?_⟩; (try (rw [drewN_self w12]; generalize hq_ : World.drewN w12 _ = w12; have n0_ : Aside0 (w12.heap[gb210]? = some (.cells #[.int .i64 0, .int .i64 0] 86 (0, 0))) := ⟨by rw [← hq_]; exact (kk_ BK210)⟩; have n1_ : Aside0 (Below w.heap.size w w12) := ⟨by rw [← hq_]; exact (bs_ HB GE210.out)⟩; clear BK210 HB hq_; have BK210 := n0_; have HB := n1_; clear n0_ n1_))))
   have n0_ := Aside0.mk (blk_drew BK210.out)
   have n1_ := Aside0.mk (below_drew1 HB.out)
   clear BK210
   clear HB
   have BK210 := n0_
   have HB := n1_
   clear n0_ n1_
   refine start_ (n := 8) (S := fun w' => True) (ds := []) #[n_, n_, n_, n_, n_, n_, n_, n_] (by kernel_rfl) rfl rfl trivial (fun hHeld => ?_); refine with_tabW cohousingref05_Reduce.tab5 cohousingref05_Reduce.bits5 (fun HT_ HW_ => ?_)
   generalize w12.drew = w13 at BK210 HB hHeld ⊢
   refine pu_ 0 15 (w_ 8 1) rfl HT_ ?_
   refine pu_ 1 16 (w_ 8 3) rfl HT_ ?_
   refine pu_ 2 17 (w_ 8 7) rfl HT_ ?_
   refine pu_ 3 18 (w_ 8 15) rfl HT_ ?_
   refine pu_ 4 19 (w_ 8 31) rfl HT_ ?_
   refine pu_ 5 20 (w_ 8 63) rfl HT_ ?_
   refine pu_ 6 21 (w_ 8 127) rfl HT_ ?_
   refine one_ (i := 7) (N := none) (w_ 8 255) rfl rfl (one_of HT_.out (by kernel_rfl)) (by decide) (fun K hK => ?_)
   have hs14 : w13.cell? ⟨gb210, 0, none⟩ = some (.int .i64 0) := (blk_cell BK210.out 0).trans rfl
   have hfs14 := blk_frozen BK210.out 0
   have hs15 : w13.cell? ⟨gb210, 1, none⟩ = some (.int .i64 0) := (blk_cell BK210.out 1).trans rfl
   have hfs15 := blk_frozen BK210.out 1
   refine skip_ (w1 := ?_) (by rfl) rfl ?_ ?_
   rotate_left
   ·go_simp
    rfl
   refine hK.out _ _ trivial (fun hHeld => ?_)
   clear hK K
   refine done_ (done_of HT_.out (by kernel_rfl)) ?_
   try go_wp2
   refine bodyPost_ret (results_cell_row rfl _ _ gb210 86 #[.int .i64 (wrap64 (Int.tdiv a0 t212)), .int .i64 (wrap64 (Int.tdiv a1 t212))] (0, 0) _ rfl (by (with_reducible repeat (first | refine blk_drewN ?_ _ | refine blk_drew ?_ | refine blk_alloc ?_ _)); refine blk_put (cs := #[.int .i64 (wrap64 (Int.tdiv a0 t212)), .int .i64 0]) ?_ 1 _ rfl; (with_reducible repeat (first | refine blk_drewN ?_ _ | refine blk_drew ?_ | refine blk_alloc ?_ _)); refine blk_put (cs := #[.int .i64 0, .int .i64 0]) ?_ 0 _ rfl; (with_reducible repeat (first | refine blk_drewN ?_ _ | refine blk_drew ?_ | refine blk_alloc ?_ _)); exact BK210.out) Try.underlying86 rfl (by kernel_rfl)) rfl ?_
   exact ⟨ew_, by repeat (first | (with_reducible first | exact HB.out | apply below_alloc | apply pw_below_drewN | apply below_drew1 | refine below_set ?_ GE210.out) | exact HB.out)⟩
end
section
def cohousingref29_Right.f (k : Nat) (a0 : Int) (a1 : Int) (a2 : Int) : Option (Int) := (cohousingref05_Reduce.f k a2 a1).bind fun bt213 => ((cohousingref02_Scale.f k a0 bt213.1 bt213.2).bind fun bt215 => (some bt215.1))
theorem cohousingref29_Right.mono : ∀ a0 a1 a2 k, LeO (cohousingref29_Right.f k a0 a1 a2) (cohousingref29_Right.f (k + 1) a0 a1 a2) := by
 intro a0 a1 a2 k
 unfold cohousingref29_Right.f
 repeat' first
   | (with_reducible exact cohousingref02_Scale.mono _ _ _ _)
   | (with_reducible exact cohousingref05_Reduce.mono _ _ _)
   | (with_reducible exact LeO.refl _)
   | (with_reducible exact LeO.none _)
   | (with_reducible refine LeO.ite ?_ ?_)
   | (with_reducible refine LeO.bind ?_ (fun _ => ?_))
   | exact cohousingref02_Scale.mono _ _ _ _
   | exact cohousingref05_Reduce.mono _ _ _
   | exact LeO.none _
   | refine LeO.ite ?_ ?_
   | refine LeO.bind ?_ (fun _ => ?_)
theorem cohousingref29_Right.calls (k : Nat) (a0 : Int) (a1 : Int) (a2 : Int) (r : Int) (w : World) (h : cohousingref29_Right.f k a0 a1 a2 = some r) :
  Calls Try.prog 19 #[.int .i64 a0, .int .i64 a1, .int .i64 a2] w fun e w' => e = .returned (.int .i64 r) ∧ Below w.heap.size w w' := by
 have HB := Aside0.mk (Below.refl w.heap.size w)
 have H : ((cohousingref05_Reduce.f k a2 a1).bind fun bt213 => ((cohousingref02_Scale.f k a0 bt213.1 bt213.2).bind fun bt215 => (some bt215.1))) = some r := h
 clear h
 replace H := Option.bind_eq_some_iff.mp H
 obtain ⟨⟨t213, t214⟩, A40, H⟩ := H
 replace H : ((cohousingref02_Scale.f k a0 t213 t214).bind fun bt215 => (some bt215.1)) = some r := H
 have A4 := Aside0.mk A40
 clear A40
 replace H := Option.bind_eq_some_iff.mp H
 obtain ⟨⟨t215, t216⟩, A50, H⟩ := H
 replace H : (some t215) = some r := H
 have A5 := Aside0.mk A50
 clear A50
 obtain rfl := Option.some.inj H
 go_enter Try.func19, Try.ntmps19
 go_wp2_with (first | ((with_reducible refine gate_callee (f := 42) rfl ?_); refine gl_ (some 13) Try.func42 #[.int .i64 a2, .int .i64 a1] ?_; (with_reducible refine (cohousingref05_Reduce.calls k a2 a1 t213 t214 _ A4.out).mono ?_); rintro e w6 ⟨rfl, hb⟩; refine ⟨_, rfl, ?_⟩; have n0_ := Aside0.mk (below_step (bb_ HB) hb); clear HB; have HB := n0_; clear n0_; (try clear hb); (try clear hb2); (try clear hk); (try clear hi)) | ((with_reducible refine gate_callee (f := 41) rfl ?_); refine gl_ (some 14) Try.func41 #[.int .i64 a0, .agg #[.int .i64 t213, .int .i64 t214]] ?_; (with_reducible refine (cohousingref02_Scale.calls k a0 t213 t214 t215 t216 _ A5.out).mono ?_); rintro e w7 ⟨rfl, hb⟩; refine ⟨_, rfl, ?_⟩; have n0_ := Aside0.mk (below_step (bb_ HB) hb); clear HB; have HB := n0_; clear n0_; (try clear hb); (try clear hb2); (try clear hk); (try clear hi)))
 go_ret
 exact ⟨ew_, by repeat (first | (with_reducible first | exact HB.out | apply below_alloc | apply pw_below_drewN | apply below_drew1) | exact HB.out)⟩
end
section
def cohousingref29_cost.f (a0 : Int) : Option (Bool) := if a0 ≥ 0 then (some (decide (a0 ≤ 1000000000))) else (some false)
theorem cohousingref29_cost.calls (a0 : Int) (r : Bool) (w : World) (h : cohousingref29_cost.f a0 = some r) :
  Calls Try.prog 46 #[.int .i64 a0] w fun e w' => e = .returned (.bool r) ∧ Drawn0 w w' := by
 have H : (if a0 ≥ 0 then (some (decide (a0 ≤ 1000000000))) else (some false)) = some r := h
 clear h
 by_cases c2 : a0 ≥ 0
 ·rw [if_pos c2] at H
  have c2b0 : decide (0 ≤ a0) = true := decide_eq_true c2
  clear c2
  obtain rfl := Option.some.inj H
  go_enter Try.func46, Try.ntmps46
  go_wp2
  go_ret
  exact ⟨by first | rfl | (simp; done) | (simp [*]; done), by repeat (first | exact Drawn0.refl _ | apply Drawn0.step)⟩
 ·rw [if_neg c2] at H
  have c2b0 : decide (0 ≤ a0) = false := decide_eq_false c2
  clear c2
  obtain rfl := Option.some.inj H
  go_enter Try.func46, Try.ntmps46
  go_wp2
  go_ret
  exact ⟨by first | rfl | (simp; done) | (simp [*]; done), by repeat (first | exact Drawn0.refl _ | apply Drawn0.step)⟩
end
section
mutual
def cohousingref29_Parts.j0 : Nat → Int → List (S38) → Bool → Option (Bool)
 | 0, _, _, _ => none
 | k + 1, x0, x1, x16 => if x16 = true then (some false) else (cohousingref29_Parts.l0 k x0 x1 0)
def cohousingref29_Parts.l0 : Nat → Int → List (S38) → Int → Option (Bool)
 | 0, _, _, _ => none
 | k + 1, x0, x1, x5 => if x5 < (x1.length : Int) then (if 0 ≤ x5 then (if ((rd_T38 x1 x5).f0) < 0 then (some false) else (if ((rd_T38 x1 x5).f0) > ((rd_T38 x1 x5).f1) then (some false) else (if ((rd_T38 x1 x5).f1) > x0 then (some false) else (cohousingref29_Parts.l0 k x0 x1 (wrap64 (x5 + 1)))))) else (none)) else (some true)
end
def cohousingref29_Parts.f (k : Nat) (a0 : Int) (l1 : List (S38)) : Option (Bool) := if a0 < 1 then (cohousingref29_Parts.j0 k a0 l1 true) else (if a0 > 1000000000 then (cohousingref29_Parts.j0 k a0 l1 true) else (cohousingref29_Parts.j0 k a0 l1 (decide ((l1.length : Int) > 200))))
theorem cohousingref29_Parts.mono_l : ∀ k, (∀ y0 y1 y2, LeO (cohousingref29_Parts.j0 k y0 y1 y2) (cohousingref29_Parts.j0 (k + 1) y0 y1 y2)) ∧ (∀ y0 y1 y2, LeO (cohousingref29_Parts.l0 k y0 y1 y2) (cohousingref29_Parts.l0 (k + 1) y0 y1 y2))
 | 0 => ⟨fun _ _ _ r h => by simp [cohousingref29_Parts.j0] at h, fun _ _ _ r h => by simp [cohousingref29_Parts.l0] at h⟩
 | k + 1 => by
  obtain ⟨ih0, ih1⟩ := cohousingref29_Parts.mono_l k
  refine ⟨?_, ?_⟩
  ·intro y0 y1 y2
   unfold cohousingref29_Parts.j0
   repeat' first
   | (with_reducible exact ih0 _ _ _)
   | (with_reducible exact ih1 _ _ _)
   | (with_reducible exact LeO.refl _)
   | (with_reducible exact LeO.none _)
   | (with_reducible refine LeO.ite ?_ ?_)
   | (with_reducible refine LeO.bind ?_ (fun _ => ?_))
   | exact ih0 _ _ _
   | exact ih1 _ _ _
   | exact LeO.none _
   | refine LeO.ite ?_ ?_
   | refine LeO.bind ?_ (fun _ => ?_)
  ·intro y0 y1 y2
   unfold cohousingref29_Parts.l0
   repeat' first
   | (with_reducible exact ih0 _ _ _)
   | (with_reducible exact ih1 _ _ _)
   | (with_reducible exact LeO.refl _)
   | (with_reducible exact LeO.none _)
   | (with_reducible refine LeO.ite ?_ ?_)
   | (with_reducible refine LeO.bind ?_ (fun _ => ?_))
   | exact ih0 _ _ _
   | exact ih1 _ _ _
   | exact LeO.none _
   | refine LeO.ite ?_ ?_
   | refine LeO.bind ?_ (fun _ => ?_)
theorem cohousingref29_Parts.mono : ∀ a0 a1 k, LeO (cohousingref29_Parts.f k a0 a1) (cohousingref29_Parts.f (k + 1) a0 a1) := by
 intro a0 a1 k
 obtain ⟨ih0, ih1⟩ := cohousingref29_Parts.mono_l k
 unfold cohousingref29_Parts.f
 repeat' first
   | (with_reducible exact ih0 _ _ _)
   | (with_reducible exact ih1 _ _ _)
   | (with_reducible exact LeO.refl _)
   | (with_reducible exact LeO.none _)
   | (with_reducible refine LeO.ite ?_ ?_)
   | (with_reducible refine LeO.bind ?_ (fun _ => ?_))
   | exact ih0 _ _ _
   | exact ih1 _ _ _
   | exact LeO.none _
   | refine LeO.ite ?_ ?_
   | refine LeO.bind ?_ (fun _ => ?_)
theorem cohousingref29_Parts.calls (k : Nat) (a0 : Int) (A1 : Option Addr) (c1 : Nat) (l1 : List (S38)) (r : Bool) (w : World) (hr1 : Kd.C k38 w A1 l1.length l1) (hc1 : l1.length ≤ c1) (h : cohousingref29_Parts.f k a0 l1 = some r) :
  Calls Try.prog 47 #[.int .i64 a0, .slice A1 l1.length c1] w fun e w' => e = .returned (.bool r) ∧ Drawn0 w w' := by
 have HR1 := Aside0.mk hr1
 have HC1 := Aside0.mk hc1
 clear hr1 hc1
 have H : (if a0 < 1 then (cohousingref29_Parts.j0 k a0 l1 true) else (if a0 > 1000000000 then (cohousingref29_Parts.j0 k a0 l1 true) else (cohousingref29_Parts.j0 k a0 l1 (decide ((l1.length : Int) > 200))))) = some r := h
 clear h
 have HC3 := Aside0.mk H
 clear H
 go_enter Try.func47, Try.ntmps47
 go_upto_region 1 with (fail)
 repeat (go_quiet (fail); go_upto_region 1 with (fail))
 go_cut [16] (fun v16 wc => ∃ (kq : Nat) (x16_2 : Bool), v16 = .bool x16_2 ∧ Aside0 (cohousingref29_Parts.j0 kq a0 l1 x16_2 = some r) ∧ Aside0 (kq ≤ k) ∧ Drawn0 w wc)
 case first =>
  have H := HC3.out
  clear HC3
  by_cases c4 : a0 < 1
  ·rw [if_pos c4] at H
   have c4b0 : decide (a0 < 1) = true := decide_eq_true c4
   clear c4
   (first | rw [c4b0] | (simp only [i64_w, i32_w]; rw [c4b0]) | skip)
   have H' := Aside0.mk H
   clear H
   go_wp2
   repeat (go_quiet (fail); try go_wp2)
   go_meet
   case rel => exact ⟨_, (true), sd_, H', ⟨by first | omega | exact Nat.le_refl _⟩, by repeat (first | exact Drawn0.refl _ | apply Drawn0.step)⟩
  ·rw [if_neg c4] at H
   have c4b0 : decide (a0 < 1) = false := decide_eq_false c4
   clear c4
   (first | rw [c4b0] | (simp only [i64_w, i32_w]; rw [c4b0]) | skip)
   by_cases c5 : a0 > 1000000000
   ·rw [if_pos c5] at H
    have c5b0 : decide (1000000000 < a0) = true := decide_eq_true c5
    clear c5
    have H' := Aside0.mk H
    clear H
    go_wp2
    repeat (go_quiet (fail); try go_wp2)
    go_meet
    case rel => exact ⟨_, (true), sd_, H', ⟨by first | omega | exact Nat.le_refl _⟩, by repeat (first | exact Drawn0.refl _ | apply Drawn0.step)⟩
   ·rw [if_neg c5] at H
    have c5b0 : decide (1000000000 < a0) = false := decide_eq_false c5
    clear c5
    have H' := Aside0.mk H
    clear H
    go_wp2
    repeat (go_quiet (fail); try go_wp2)
    go_meet
    case rel => exact ⟨_, (decide ((l1.length : Int) > 200)), sd_, H', ⟨by first | omega | exact Nat.le_refl _⟩, by repeat (first | exact Drawn0.refl _ | apply Drawn0.step)⟩
 case rest =>
  clear HC3
  try clear c1
  try clear p2
  try clear c4
  try clear c4b0
  try clear c5
  try clear c5b0
  obtain ⟨kq, x16_2, rfl, HA, HJ2, ⟨mc2, rfl⟩⟩ := hcut
  cases kq with
  | zero => exact absurd HA.out (by simp [cohousingref29_Parts.j0])
  | succ kj2 =>
   have H := HA.out
   clear HA
   simp only [cohousingref29_Parts.j0] at H
   by_cases c6 : x16_2 = true
   ·subst c6
    have H1 : (some false) = some r := by rw [if_pos rfl] at H; exact H
    clear H
    have H := H1
    clear H1
    obtain rfl := Option.some.inj H
    go_wp2
    repeat (go_quiet (fail); try go_wp2)
    go_ret
    exact ⟨by first | rfl | (simp; done) | (simp [*]; done), by repeat (first | exact Drawn0.refl _ | apply Drawn0.step)⟩
   ·replace c6 := Bool.eq_false_iff.mpr c6
    subst c6
    have H1 : (cohousingref29_Parts.l0 kj2 a0 l1 0) = some r := by rw [if_neg (show ¬ (false = true) by decide)] at H; exact H
    clear H
    have H := H1
    clear H1
    have H' := Aside0.mk H
    clear H
    go_wp2
    repeat (go_quiet (fail); try go_wp2)
    go_loopg [5] kj2 (fun kq v5 w' => ∃ (x5_2 : Int), v5 = .int .i64 x5_2 ∧ Aside0 (cohousingref29_Parts.l0 kq a0 l1 x5_2 = some r) ∧ Aside0 (kq ≤ kj2) ∧ Drawn0 w w')
    case atStart => exact ⟨(0), sd_, H', ⟨Nat.le_refl _⟩, by repeat (first | exact Drawn0.refl _ | apply Drawn0.step)⟩
    case round =>
     clear H'
     try clear c1
     try clear c2
     try clear p2
     try clear c4
     try clear c4b0
     try clear c5
     try clear c5b0
     try clear c6
     try clear p2
     obtain ⟨x5_2, rfl, HA, HK2, ⟨m2, rfl⟩⟩ := hrel
     cases gk with
     | zero => exact absurd HA.out (by simp [cohousingref29_Parts.l0])
     | succ k2 =>
      have H := HA.out
      clear HA
      simp only [cohousingref29_Parts.l0] at H
      by_cases c7 : x5_2 < (l1.length : Int)
      ·rw [if_pos c7] at H
       have c7b0 : decide (x5_2 < (l1.length : Int)) = true := decide_eq_true c7
       clear c7
       by_cases c8 : 0 ≤ x5_2
       ·rw [if_pos c8] at H
        have c8b0 : decide (0 ≤ x5_2) = true := decide_eq_true c8
        clear c8
        by_cases c9 : ((rd_T38 l1 x5_2).f0) < 0
        ·rw [if_pos c9] at H
         have c9b0 : decide (((rd_T38 l1 x5_2).f0) < 0) = true := decide_eq_true c9
         clear c9
         obtain rfl := Option.some.inj H
         have p217 : 0 ≤ (x5_2 : Int) := od_
         have q217 : x5_2 < (l1.length : Int) := od_
         obtain ⟨ad217, e217, hx217_0, hx217_1⟩ := at_T38 HR1.out x5_2 p217 q217
         cases e217
         replace p217 := eq_true p217
         replace q217 := eq_true q217
         go_wp2
         repeat (go_quiet (fail); try go_wp2)
         go_ret
         exact ⟨by first | rfl | (simp; done) | (simp [*]; done), by repeat (first | exact Drawn0.refl _ | apply Drawn0.step)⟩
        ·rw [if_neg c9] at H
         have c9b0 : decide (((rd_T38 l1 x5_2).f0) < 0) = false := decide_eq_false c9
         clear c9
         by_cases c10 : ((rd_T38 l1 x5_2).f0) > ((rd_T38 l1 x5_2).f1)
         ·rw [if_pos c10] at H
          have c10b0 : decide (((rd_T38 l1 x5_2).f1) < ((rd_T38 l1 x5_2).f0)) = true := decide_eq_true c10
          clear c10
          obtain rfl := Option.some.inj H
          have p217 : 0 ≤ (x5_2 : Int) := od_
          have q217 : x5_2 < (l1.length : Int) := od_
          obtain ⟨ad217, e217, hx217_0, hx217_1⟩ := at_T38 HR1.out x5_2 p217 q217
          cases e217
          replace p217 := eq_true p217
          replace q217 := eq_true q217
          have p218 : 0 ≤ (x5_2 : Int) := od_
          have q218 : x5_2 < (l1.length : Int) := od_
          obtain ⟨ad218, e218, hx218_0, hx218_1⟩ := at_T38 HR1.out x5_2 p218 q218
          obtain rfl : ad217 = ad218 := (by injection e218)
          replace p218 := eq_true p218
          replace q218 := eq_true q218
          have p219 : 0 ≤ (x5_2 : Int) := od_
          have q219 : x5_2 < (l1.length : Int) := od_
          obtain ⟨ad219, e219, hx219_0, hx219_1⟩ := at_T38 HR1.out x5_2 p219 q219
          obtain rfl : ad217 = ad219 := (by injection e219)
          replace p219 := eq_true p219
          replace q219 := eq_true q219
          go_wp2
          repeat (go_quiet (fail); try go_wp2)
          go_ret
          exact ⟨by first | rfl | (simp; done) | (simp [*]; done), by repeat (first | exact Drawn0.refl _ | apply Drawn0.step)⟩
         ·rw [if_neg c10] at H
          have c10b0 : decide (((rd_T38 l1 x5_2).f1) < ((rd_T38 l1 x5_2).f0)) = false := decide_eq_false c10
          clear c10
          by_cases c11 : ((rd_T38 l1 x5_2).f1) > a0
          ·rw [if_pos c11] at H
           have c11b0 : decide (a0 < ((rd_T38 l1 x5_2).f1)) = true := decide_eq_true c11
           clear c11
           obtain rfl := Option.some.inj H
           have p217 : 0 ≤ (x5_2 : Int) := od_
           have q217 : x5_2 < (l1.length : Int) := od_
           obtain ⟨ad217, e217, hx217_0, hx217_1⟩ := at_T38 HR1.out x5_2 p217 q217
           cases e217
           replace p217 := eq_true p217
           replace q217 := eq_true q217
           have p218 : 0 ≤ (x5_2 : Int) := od_
           have q218 : x5_2 < (l1.length : Int) := od_
           obtain ⟨ad218, e218, hx218_0, hx218_1⟩ := at_T38 HR1.out x5_2 p218 q218
           obtain rfl : ad217 = ad218 := (by injection e218)
           replace p218 := eq_true p218
           replace q218 := eq_true q218
           have p219 : 0 ≤ (x5_2 : Int) := od_
           have q219 : x5_2 < (l1.length : Int) := od_
           obtain ⟨ad219, e219, hx219_0, hx219_1⟩ := at_T38 HR1.out x5_2 p219 q219
           obtain rfl : ad217 = ad219 := (by injection e219)
           replace p219 := eq_true p219
           replace q219 := eq_true q219
           have p220 : 0 ≤ (x5_2 : Int) := od_
           have q220 : x5_2 < (l1.length : Int) := od_
           obtain ⟨ad220, e220, hx220_0, hx220_1⟩ := at_T38 HR1.out x5_2 p220 q220
           obtain rfl : ad217 = ad220 := (by injection e220)
           replace p220 := eq_true p220
           replace q220 := eq_true q220
           go_wp2
           repeat (go_quiet (fail); try go_wp2)
           go_ret
           exact ⟨by first | rfl | (simp; done) | (simp [*]; done), by repeat (first | exact Drawn0.refl _ | apply Drawn0.step)⟩
          ·rw [if_neg c11] at H
           have c11b0 : decide (a0 < ((rd_T38 l1 x5_2).f1)) = false := decide_eq_false c11
           clear c11
           have H' := Aside0.mk H
           clear H
           have p217 : 0 ≤ (x5_2 : Int) := od_
           have q217 : x5_2 < (l1.length : Int) := od_
           obtain ⟨ad217, e217, hx217_0, hx217_1⟩ := at_T38 HR1.out x5_2 p217 q217
           cases e217
           replace p217 := eq_true p217
           replace q217 := eq_true q217
           have p218 : 0 ≤ (x5_2 : Int) := od_
           have q218 : x5_2 < (l1.length : Int) := od_
           obtain ⟨ad218, e218, hx218_0, hx218_1⟩ := at_T38 HR1.out x5_2 p218 q218
           obtain rfl : ad217 = ad218 := (by injection e218)
           replace p218 := eq_true p218
           replace q218 := eq_true q218
           have p219 : 0 ≤ (x5_2 : Int) := od_
           have q219 : x5_2 < (l1.length : Int) := od_
           obtain ⟨ad219, e219, hx219_0, hx219_1⟩ := at_T38 HR1.out x5_2 p219 q219
           obtain rfl : ad217 = ad219 := (by injection e219)
           replace p219 := eq_true p219
           replace q219 := eq_true q219
           have p220 : 0 ≤ (x5_2 : Int) := od_
           have q220 : x5_2 < (l1.length : Int) := od_
           obtain ⟨ad220, e220, hx220_0, hx220_1⟩ := at_T38 HR1.out x5_2 p220 q220
           obtain rfl : ad217 = ad220 := (by injection e220)
           replace p220 := eq_true p220
           replace q220 := eq_true q220
           go_wp2
           repeat (go_quiet (fail); try go_wp2)
           go_roundg k2
           case measure => have := HJ2.out; have := HK2.out; omega
           case rel => exact ⟨(wrap64 (x5_2 + 1)), sd_, H', ⟨by have := HJ2.out; have := HK2.out; omega⟩, by repeat (first | exact Drawn0.refl _ | apply Drawn0.step)⟩
       ·rw [if_neg c8] at H
        exact absurd H (by simp)
      ·rw [if_neg c7] at H
       have c7b0 : decide (x5_2 < (l1.length : Int)) = false := decide_eq_false c7
       clear c7
       obtain rfl := Option.some.inj H
       go_wp2
       repeat (go_quiet (fail); try go_wp2)
       go_ret
       exact ⟨by first | rfl | (simp; done) | (simp [*]; done), by repeat (first | exact Drawn0.refl _ | apply Drawn0.step)⟩
end
end Go.Proofs.Ytbgchacafglcpaa.P
end
