/- Part 4 of the base that the seat's proofs share: words, walks and plain laws. -/
import Derived.ArgAppend
import Derived.Below
import Derived.BigQuiet
import Derived.ChangeOld
import Derived.ChangeSlices
import Derived.Deep.AppendLies
import Derived.Deep.CutBlock
import Derived.Deep.DeepCutAuto
import Derived.Deep.Draws
import Derived.Deep.LoopGhost
import Derived.Deep.OwnRows
import Derived.Deep.QuietTactic
import Derived.Deep.RegionHeld3
import Derived.Deep.Slices
import Derived.KernelRfl
import Derived.Laws.BitsLemmas
import Derived.Laws.BytesArg
import Derived.Laws.IdiomCopy
import Derived.Laws.MakeOwn
import Derived.Laws.OwnMore
import Derived.Laws.Rows
import Derived.Laws.Slices
import Derived.Laws.StructEq
import Derived.Lib.AppendStr
import Derived.Lib.ConvBytes
import Derived.LoopIn
import Derived.LoopNIn
import Derived.Maps.AppendAt
import Derived.Maps.Own
import Derived.OpenShut
import Derived.OrdersHeld
import Derived.OwnWalk
import Derived.OwnWalkIn
import Derived.ProofKit
import Derived.RangeFuncBound
import Derived.RangeFuncCalls
import Derived.RangeFuncLeaves
import Derived.RangeFuncNested
import Derived.RowKit
import Derived.RowKit3
import Derived.ShutString
import Derived.SizedLaws
import Derived.Tactics
import Derived.TacticsInMore
import Derived.Test.YtbgchacafglcpaaProg
import Derived.WalkKit
import Derived.WideLaws
import Derived.Test.YtbgchacafglcpaaCTc
set_option linter.unusedVariables false
set_option linter.unusedSimpArgs false
section
namespace Go.Proofs.Ytbgchacafglcpaa.P
open Go.RowKit Go.Proofs.YtbgchacafglcpaaW.PrintWords Go.Proofs.YtbgchacafglcpaaW.PrintLast Go.Proofs.YtbgchacafglcpaaW.PrintMore
attribute [local go_sem] max2_int min2_int max_two min_two max_three min_three max_four min_four
set_option linter.unusedVariables false
set_option linter.unusedSimpArgs false
set_option maxHeartbeats 8000000
set_option maxRecDepth 100000
section
open Go.Proofs.YtbgchacafglcpaaH
def stateStep (l : List S63) (kids : List (List Int)) (p : List Int × List S74) (k : Nat) : List Int × List S74 :=
 (p.1.set k (rd_T74 p.2 k).f0, (boundsF l kids (p.2.set k ⟨(rd_T74 p.2 k).f0, (rd_T74 p.2 k).f0⟩)).2)
def stateFold (l : List S63) (kids : List (List Int)) (r : List S74) (n : Nat) : List Int × List S74 := (List.range n).foldl (stateStep l kids) (List.replicate l.length 0, r)
theorem stateFold_succ (l : List S63) (kids : List (List Int)) (r : List S74) (n : Nat) : stateFold l kids r (n + 1) = stateStep l kids (stateFold l kids r n) n := foldl_range_succ _ _ _
theorem stateFold_len (l : List S63) (kids : List (List Int)) (r : List S74) (n : Nat) : (stateFold l kids r n).1.length = l.length ∧ (stateFold l kids r n).2.length = r.length := by
 induction n with
 | zero => exact ⟨by simp [stateFold], rfl⟩
 | succ n ih =>
  rw [stateFold_succ]
  unfold stateStep
  exact ⟨by simp [ih.1], by simp [boundsF_len, ih.2]⟩
def stateR (l0 : List S63) (l1 : List S38) (i v : Int) : List Int × Int :=
 match netOk l0 with
 | none => ([], 1)
 | some kids => if belongsB l0.length l1 = true then (if i < 0 then ([], 1) else if (l0.length : Int) ≤ i then ([], 1) else
   if emptyI (cutI (rd_T74 (l1.map toI) i) v v) = true then ([], 30) else
   if (boundsF l0 kids ((l1.map toI).set i.toNat (cutI (rd_T74 (l1.map toI) i) v v))).1 = true then
    ((stateFold l0 kids (boundsF l0 kids ((l1.map toI).set i.toNat (cutI (rd_T74 (l1.map toI) i) v v))).2 l0.length).1, 0) else ([], 30)) else ([], 1)
def flow_State.f (l0 : List S63) (l1 : List S38) (i v : Int) : Option (List Int × Int) := if l0.length ≤ 5864062014805 ∧ l1.length ≤ 140737488355328 then some (stateR l0 l1 i v) else none
theorem rdOf_set_self (xs : List Int) (i : Int) (y : Int) (h : i.toNat < xs.length) : rdOf 0 (xs.set i.toNat y) i = y := by
 simp [rdOf, List.getD_eq_getElem?_getD, h]
theorem rd_set_self (xs : List S74) (i : Int) (y : S74) (h : i.toNat < xs.length) : rd_T74 (xs.set i.toNat y) i = y := by
 simp [rd_T74, List.getD_eq_getElem?_getD, h]
theorem cut_f {x y : S74} {lo hi : Int} (h : y = cutI x lo hi) : flow_interval_cut.f x.f0 x.f1 lo hi = some (y.f0, y.f1) := by
 subst h
 rfl
theorem flow_State.calls (A0 : Option Addr) (c0 : Nat) (l0 : List (S63)) (A1 : Option Addr) (c1 : Nat) (l1 : List (S38)) (a2 : Int) (a3 : Int) (r1 : List Int) (r2 : Int) (w : World) (hr0 : Kd.C k63 w A0 l0.length l0) (hc0 : l0.length ≤ c0) (hr1 : Kd.C k38 w A1 l1.length l1) (hc1 : l1.length ≤ c1) (h : flow_State.f l0 l1 a2 a3 = some (r1, r2)) :
  Calls Try.prog 29 #[.slice A0 l0.length c0, .slice A1 l1.length c1, .int .i64 a2, .int .i64 a3] w fun e w' => ∃ v0_ : Value, e = .returned (.tuple #[v0_, .int .i64 r2]) ∧ Kd.R (Kd.int .i64) 3 w' w.heap.size (fun _ => True) v0_ r1 ∧ Below w.heap.size w w' := by
 have hu67 := Try.underlying67
 have hu74 := Try.underlying74
 have hu38 := Try.underlying38
 unfold flow_State.f at h
 by_cases hsz : l0.length ≤ 5864062014805 ∧ l1.length ≤ 140737488355328
 case neg =>
  rw [if_neg hsz] at h
  cases h
 rw [if_pos hsz] at h
 injection h with h
 have HSZ := Aside0.mk hsz.1
 have HSZ1 := Aside0.mk hsz.2
 have HR0 := Aside0.mk hr0
 have HC0 := Aside0.mk hc0
 have HR1 := Aside0.mk hr1
 have HC1 := Aside0.mk hc1
 clear hsz hr0 hc0 hr1 hc1
 have HB := Aside0.mk (Below.refl w.heap.size w)
 cases ho : openK l0 with
 | none =>
  have HO := Aside0.mk ho
  have e : stateR l0 l1 a2 a3 = ([], 1) := by unfold stateR netOk; rw [ho]; split <;> simp_all
  rw [e] at h
  injection h with e1 e2
  subst e1
  subst e2
  clear ho e
  go_enter Try.func29, Try.ntmps29
  go_wp2_with (first | (go_at_call 31; (with_reducible refine (open_none A0 c0 l0 _ HR0.out HC0.out HSZ.out HO.out).mono ?_); rintro e w1 ⟨rfl, hb⟩; have n0_ := Aside0.mk (below_step HB.out hb); clear HB hb; have HB := n0_; clear n0_) | ((with_reducible refine gate_dst (N := 10) rfl ?_); refine box_event ?hg (N := 10) ?hd (cs := #[.slice none 0 0, .slice none 0 0]) (t := 67) ?hr ?_; (case hd => rfl); (case hg => rfl); (case hr => first | (go_simp; done) | (go_simp; rfl)); intro gn hgn w3 hbn hb3; have hcn0 : w3.cell? ⟨gn, 0, none⟩ = some (.slice none 0 0) := (blk_cell hbn 0).trans rfl; have hcn1 : w3.cell? ⟨gn, 1, none⟩ = some (.slice none 0 0) := (blk_cell hbn 1).trans rfl; have hfn0 := blk_frozen hbn 0; have hfn1 := blk_frozen hbn 1; have BN := Aside0.mk hbn; have n0_ := Aside0.mk (below_step HB.out hb3); have GN := Aside0.mk (show w.heap.size ≤ gn by rw [hgn]; exact below_size HB.out); have GE := Aside0.mk hgn; (try have HK := Aside0.mk (Kd.S_below HK.out hb3)); clear HB hbn hb3 hgn; have HB := n0_; clear n0_) | ((with_reducible refine gate_store (t := 67) (p := 10) (v := .tmp 18) rfl ?_); refine store_event rfl (t := 67) (p := 10) (v := .tmp 18) rfl rfl (by first | (go_simp; done) | (go_simp; rfl)) ?_; intro w4 hw4; have BN4 := Aside0.mk (show w4.heap[gn]? = some (.cells #[.slice none 0 0, .slice none 0 0] 67 (0, 0)) by rw [hw4]; exact blk_put (blk_put BN.out 0 _ rfl) 1 _ rfl); have n0_ := Aside0.mk (show Below w.heap.size w w4 by rw [hw4]; exact below_set (below_set HB.out GN.out) GN.out); clear hw4 BN HB hcn0 hcn1 hfn0 hfn1; have HB := n0_; clear n0_; have hcn0 : w4.cell? ⟨gn, 0, none⟩ = some (.slice none 0 0) := (blk_cell BN4.out 0).trans rfl; have hcn1 : w4.cell? ⟨gn, 1, none⟩ = some (.slice none 0 0) := (blk_cell BN4.out 1).trans rfl))
  go_ret2
  exact ⟨_, rfl, Kd.R_nil _ _ _ _ _, HB.out⟩
 | some kids =>
  have HO := Aside0.mk ho
  by_cases hl : l0.length ≤ 200
  case neg =>
   have e : stateR l0 l1 a2 a3 = ([], 1) := by unfold stateR netOk; rw [if_neg hl]
   rw [e] at h
   injection h with e1 e2
   subst e1
   subst e2
   have d1 : decide (l0.length ≤ 200) = false := decide_eq_false hl
   clear ho hl e
   go_enter Try.func29, Try.ntmps29
   go_wp2_with (first | (go_at_call 31; (with_reducible refine (open_some A0 c0 l0 _ HR0.out HC0.out HSZ.out HO.out).mono ?_); rintro e w1 ⟨A2, c2, rfl, hS, hb⟩; have n0_ := Aside0.mk (below_step HB.out hb); have HK := Aside0.mk hS; clear HB hb hS; have HB := n0_; clear n0_) | ((with_reducible refine gate_dst (N := 10) rfl ?_); refine box_event ?hg (N := 10) ?hd (cs := #[.slice none 0 0, .slice none 0 0]) (t := 67) ?hr ?_; (case hd => rfl); (case hg => rfl); (case hr => first | (go_simp; done) | (go_simp; rfl)); intro gn hgn w3 hbn hb3; have hcn0 : w3.cell? ⟨gn, 0, none⟩ = some (.slice none 0 0) := (blk_cell hbn 0).trans rfl; have hcn1 : w3.cell? ⟨gn, 1, none⟩ = some (.slice none 0 0) := (blk_cell hbn 1).trans rfl; have hfn0 := blk_frozen hbn 0; have hfn1 := blk_frozen hbn 1; have BN := Aside0.mk hbn; have n0_ := Aside0.mk (below_step HB.out hb3); have GN := Aside0.mk (show w.heap.size ≤ gn by rw [hgn]; exact below_size HB.out); have GE := Aside0.mk hgn; (try have HK := Aside0.mk (Kd.S_below HK.out hb3)); clear HB hbn hb3 hgn; have HB := n0_; clear n0_) | ((with_reducible refine gate_store (t := 67) (p := 10) (v := .tmp 18) rfl ?_); refine store_event rfl (t := 67) (p := 10) (v := .tmp 18) rfl rfl (by first | (go_simp; done) | (go_simp; rfl)) ?_; intro w4 hw4; have BN4 := Aside0.mk (show w4.heap[gn]? = some (.cells #[.slice A0 l0.length c0, .slice A2 l0.length c2] 67 (0, 0)) by rw [hw4]; exact blk_put (blk_put BN.out 0 _ rfl) 1 _ rfl); have n0_ := Aside0.mk (show Below w.heap.size w w4 by rw [hw4]; exact below_set (below_set HB.out GN.out) GN.out); have HK := Aside0.mk (show Kd.S (Kd.slice 3 (Kd.int .i64)) 24 w4 w.heap.size (fun _ => True) (.slice A2 l0.length c2) kids by rw [hw4]; have ht := Kd.S_far (p := ⟨gn, 0, none⟩) (Kd.S_types HK.out BN.out (by decide)) (fun _ hk => hk.2) (.slice A0 l0.length c0); exact Kd.S_mono (Kd.S_far (p := ⟨gn, 1, none⟩) ht (fun _ hk => hk.2) (.slice A2 l0.length c2)) (fun _ hk => hk.1)); clear hw4 BN HB hcn0 hcn1 hfn0 hfn1; have HB := n0_; clear n0_; have hcn0 : w4.cell? ⟨gn, 0, none⟩ = some (.slice A0 l0.length c0) := (blk_cell BN4.out 0).trans rfl; have hcn1 : w4.cell? ⟨gn, 1, none⟩ = some (.slice A2 l0.length c2) := (blk_cell BN4.out 1).trans rfl))
   go_ret2
   exact ⟨_, rfl, Kd.R_nil _ _ _ _ _, HB.out⟩
  have d1 : decide (l0.length ≤ 200) = true := decide_eq_true hl
  cases hbel : belongsB l0.length l1 with
  | false =>
   have HBEL := Aside0.mk hbel
   have e : stateR l0 l1 a2 a3 = ([], 1) := by unfold stateR netOk; rw [if_pos hl, ho]; simp [hbel]
   rw [e] at h
   injection h with e1 e2
   subst e1
   subst e2
   clear ho hl hbel e
   go_enter Try.func29, Try.ntmps29
   go_wp2_with (first | (go_at_call 31; (with_reducible refine (open_some A0 c0 l0 _ HR0.out HC0.out HSZ.out HO.out).mono ?_); rintro e w1 ⟨A2, c2, rfl, hS, hb⟩; have n0_ := Aside0.mk (below_step HB.out hb); have HK := Aside0.mk hS; clear HB hb hS; have HB := n0_; clear n0_) | ((with_reducible refine gate_dst (N := 10) rfl ?_); refine box_event ?hg (N := 10) ?hd (cs := #[.slice none 0 0, .slice none 0 0]) (t := 67) ?hr ?_; (case hd => rfl); (case hg => rfl); (case hr => first | (go_simp; done) | (go_simp; rfl)); intro gn hgn w3 hbn hb3; have hcn0 : w3.cell? ⟨gn, 0, none⟩ = some (.slice none 0 0) := (blk_cell hbn 0).trans rfl; have hcn1 : w3.cell? ⟨gn, 1, none⟩ = some (.slice none 0 0) := (blk_cell hbn 1).trans rfl; have hfn0 := blk_frozen hbn 0; have hfn1 := blk_frozen hbn 1; have BN := Aside0.mk hbn; have n0_ := Aside0.mk (below_step HB.out hb3); have GN := Aside0.mk (show w.heap.size ≤ gn by rw [hgn]; exact below_size HB.out); have GE := Aside0.mk hgn; (try have HK := Aside0.mk (Kd.S_below HK.out hb3)); clear HB hbn hb3 hgn; have HB := n0_; clear n0_) | ((with_reducible refine gate_store (t := 67) (p := 10) (v := .tmp 18) rfl ?_); refine store_event rfl (t := 67) (p := 10) (v := .tmp 18) rfl rfl (by first | (go_simp; done) | (go_simp; rfl)) ?_; intro w4 hw4; have BN4 := Aside0.mk (show w4.heap[gn]? = some (.cells #[.slice A0 l0.length c0, .slice A2 l0.length c2] 67 (0, 0)) by rw [hw4]; exact blk_put (blk_put BN.out 0 _ rfl) 1 _ rfl); have n0_ := Aside0.mk (show Below w.heap.size w w4 by rw [hw4]; exact below_set (below_set HB.out GN.out) GN.out); have HK := Aside0.mk (show Kd.S (Kd.slice 3 (Kd.int .i64)) 24 w4 w.heap.size (fun _ => True) (.slice A2 l0.length c2) kids by rw [hw4]; have ht := Kd.S_far (p := ⟨gn, 0, none⟩) (Kd.S_types HK.out BN.out (by decide)) (fun _ hk => hk.2) (.slice A0 l0.length c0); exact Kd.S_mono (Kd.S_far (p := ⟨gn, 1, none⟩) ht (fun _ hk => hk.2) (.slice A2 l0.length c2)) (fun _ hk => hk.1)); clear hw4 BN HB hcn0 hcn1 hfn0 hfn1; have HB := n0_; clear n0_; have hcn0 : w4.cell? ⟨gn, 0, none⟩ = some (.slice A0 l0.length c0) := (blk_cell BN4.out 0).trans rfl; have hcn1 : w4.cell? ⟨gn, 1, none⟩ = some (.slice A2 l0.length c2) := (blk_cell BN4.out 1).trans rfl) | (go_at_call 32; (with_reducible refine (belongs_calls A0 l0.length c0 A2 l0.length c2 A1 c1 l1 _ (Kd.C_below HR1.out HB.out) HC1.out (by have := HSZ1.out; omega) (by have := HSZ.out; omega)).mono ?_); rw [HBEL.out]; rintro e w5 ⟨rfl, hb⟩; have n0_ := Aside0.mk (below_step HB.out hb); have HK := Aside0.mk (Kd.S_below HK.out hb); replace hcn0 := (hb.cell (World.block_lt_of_cell? _ _ hcn0)).trans hcn0; replace hcn1 := (hb.cell (World.block_lt_of_cell? _ _ hcn1)).trans hcn1; have BN4 := Aside0.mk (blk_below BN4.out hb); clear HB hb; have HB := n0_; clear n0_))
   go_ret2
   exact ⟨_, rfl, Kd.R_nil _ _ _ _ _, HB.out⟩
  | true =>
   have HBEL := Aside0.mk hbel
   have HLL := Aside0.mk (show l1.length = l0.length by unfold belongsB at hbel; simp at hbel; exact hbel.1)
   by_cases hi0 : a2 < 0
   ·have e : stateR l0 l1 a2 a3 = ([], 1) := by unfold stateR netOk; rw [if_pos hl, ho]; simp only []; rw [if_pos hbel, if_pos hi0]
    rw [e] at h
    injection h with e1 e2
    subst e1
    subst e2
    have d2 : decide (a2 < 0) = true := decide_eq_true hi0
    clear ho hl hbel e hi0
    go_enter Try.func29, Try.ntmps29
    go_wp2_with (first | (go_at_call 31; (with_reducible refine (open_some A0 c0 l0 _ HR0.out HC0.out HSZ.out HO.out).mono ?_); rintro e w1 ⟨A2, c2, rfl, hS, hb⟩; have n0_ := Aside0.mk (below_step HB.out hb); have HK := Aside0.mk hS; clear HB hb hS; have HB := n0_; clear n0_) | ((with_reducible refine gate_dst (N := 10) rfl ?_); refine box_event ?hg (N := 10) ?hd (cs := #[.slice none 0 0, .slice none 0 0]) (t := 67) ?hr ?_; (case hd => rfl); (case hg => rfl); (case hr => first | (go_simp; done) | (go_simp; rfl)); intro gn hgn w3 hbn hb3; have hcn0 : w3.cell? ⟨gn, 0, none⟩ = some (.slice none 0 0) := (blk_cell hbn 0).trans rfl; have hcn1 : w3.cell? ⟨gn, 1, none⟩ = some (.slice none 0 0) := (blk_cell hbn 1).trans rfl; have hfn0 := blk_frozen hbn 0; have hfn1 := blk_frozen hbn 1; have BN := Aside0.mk hbn; have n0_ := Aside0.mk (below_step HB.out hb3); have GN := Aside0.mk (show w.heap.size ≤ gn by rw [hgn]; exact below_size HB.out); have GE := Aside0.mk hgn; (try have HK := Aside0.mk (Kd.S_below HK.out hb3)); clear HB hbn hb3 hgn; have HB := n0_; clear n0_) | ((with_reducible refine gate_store (t := 67) (p := 10) (v := .tmp 18) rfl ?_); refine store_event rfl (t := 67) (p := 10) (v := .tmp 18) rfl rfl (by first | (go_simp; done) | (go_simp; rfl)) ?_; intro w4 hw4; have BN4 := Aside0.mk (show w4.heap[gn]? = some (.cells #[.slice A0 l0.length c0, .slice A2 l0.length c2] 67 (0, 0)) by rw [hw4]; exact blk_put (blk_put BN.out 0 _ rfl) 1 _ rfl); have n0_ := Aside0.mk (show Below w.heap.size w w4 by rw [hw4]; exact below_set (below_set HB.out GN.out) GN.out); have HK := Aside0.mk (show Kd.S (Kd.slice 3 (Kd.int .i64)) 24 w4 w.heap.size (fun _ => True) (.slice A2 l0.length c2) kids by rw [hw4]; have ht := Kd.S_far (p := ⟨gn, 0, none⟩) (Kd.S_types HK.out BN.out (by decide)) (fun _ hk => hk.2) (.slice A0 l0.length c0); exact Kd.S_mono (Kd.S_far (p := ⟨gn, 1, none⟩) ht (fun _ hk => hk.2) (.slice A2 l0.length c2)) (fun _ hk => hk.1)); clear hw4 BN HB hcn0 hcn1 hfn0 hfn1; have HB := n0_; clear n0_; have hcn0 : w4.cell? ⟨gn, 0, none⟩ = some (.slice A0 l0.length c0) := (blk_cell BN4.out 0).trans rfl; have hcn1 : w4.cell? ⟨gn, 1, none⟩ = some (.slice A2 l0.length c2) := (blk_cell BN4.out 1).trans rfl) | (go_at_call 32; (with_reducible refine (belongs_calls A0 l0.length c0 A2 l0.length c2 A1 c1 l1 _ (Kd.C_below HR1.out HB.out) HC1.out (by have := HSZ1.out; omega) (by have := HSZ.out; omega)).mono ?_); rw [HBEL.out]; rintro e w5 ⟨rfl, hb⟩; have n0_ := Aside0.mk (below_step HB.out hb); have HK := Aside0.mk (Kd.S_below HK.out hb); replace hcn0 := (hb.cell (World.block_lt_of_cell? _ _ hcn0)).trans hcn0; replace hcn1 := (hb.cell (World.block_lt_of_cell? _ _ hcn1)).trans hcn1; have BN4 := Aside0.mk (blk_below BN4.out hb); clear HB hb; have HB := n0_; clear n0_))
    go_ret2
    exact ⟨_, rfl, Kd.R_nil _ _ _ _ _, HB.out⟩
   have d2 : decide (a2 < 0) = false := decide_eq_false hi0
   by_cases hi1 : (l0.length : Int) ≤ a2
   ·have e : stateR l0 l1 a2 a3 = ([], 1) := by unfold stateR netOk; rw [if_pos hl, ho]; simp only []; rw [if_pos hbel, if_neg hi0, if_pos hi1]
    rw [e] at h
    injection h with e1 e2
    subst e1
    subst e2
    have d3 : decide ((l0.length : Int) ≤ a2) = true := decide_eq_true hi1
    clear ho hl hbel e hi0 hi1
    go_enter Try.func29, Try.ntmps29
    go_wp2_with (first | (go_at_call 31; (with_reducible refine (open_some A0 c0 l0 _ HR0.out HC0.out HSZ.out HO.out).mono ?_); rintro e w1 ⟨A2, c2, rfl, hS, hb⟩; have n0_ := Aside0.mk (below_step HB.out hb); have HK := Aside0.mk hS; clear HB hb hS; have HB := n0_; clear n0_) | ((with_reducible refine gate_dst (N := 10) rfl ?_); refine box_event ?hg (N := 10) ?hd (cs := #[.slice none 0 0, .slice none 0 0]) (t := 67) ?hr ?_; (case hd => rfl); (case hg => rfl); (case hr => first | (go_simp; done) | (go_simp; rfl)); intro gn hgn w3 hbn hb3; have hcn0 : w3.cell? ⟨gn, 0, none⟩ = some (.slice none 0 0) := (blk_cell hbn 0).trans rfl; have hcn1 : w3.cell? ⟨gn, 1, none⟩ = some (.slice none 0 0) := (blk_cell hbn 1).trans rfl; have hfn0 := blk_frozen hbn 0; have hfn1 := blk_frozen hbn 1; have BN := Aside0.mk hbn; have n0_ := Aside0.mk (below_step HB.out hb3); have GN := Aside0.mk (show w.heap.size ≤ gn by rw [hgn]; exact below_size HB.out); have GE := Aside0.mk hgn; (try have HK := Aside0.mk (Kd.S_below HK.out hb3)); clear HB hbn hb3 hgn; have HB := n0_; clear n0_) | ((with_reducible refine gate_store (t := 67) (p := 10) (v := .tmp 18) rfl ?_); refine store_event rfl (t := 67) (p := 10) (v := .tmp 18) rfl rfl (by first | (go_simp; done) | (go_simp; rfl)) ?_; intro w4 hw4; have BN4 := Aside0.mk (show w4.heap[gn]? = some (.cells #[.slice A0 l0.length c0, .slice A2 l0.length c2] 67 (0, 0)) by rw [hw4]; exact blk_put (blk_put BN.out 0 _ rfl) 1 _ rfl); have n0_ := Aside0.mk (show Below w.heap.size w w4 by rw [hw4]; exact below_set (below_set HB.out GN.out) GN.out); have HK := Aside0.mk (show Kd.S (Kd.slice 3 (Kd.int .i64)) 24 w4 w.heap.size (fun _ => True) (.slice A2 l0.length c2) kids by rw [hw4]; have ht := Kd.S_far (p := ⟨gn, 0, none⟩) (Kd.S_types HK.out BN.out (by decide)) (fun _ hk => hk.2) (.slice A0 l0.length c0); exact Kd.S_mono (Kd.S_far (p := ⟨gn, 1, none⟩) ht (fun _ hk => hk.2) (.slice A2 l0.length c2)) (fun _ hk => hk.1)); clear hw4 BN HB hcn0 hcn1 hfn0 hfn1; have HB := n0_; clear n0_; have hcn0 : w4.cell? ⟨gn, 0, none⟩ = some (.slice A0 l0.length c0) := (blk_cell BN4.out 0).trans rfl; have hcn1 : w4.cell? ⟨gn, 1, none⟩ = some (.slice A2 l0.length c2) := (blk_cell BN4.out 1).trans rfl) | (go_at_call 32; (with_reducible refine (belongs_calls A0 l0.length c0 A2 l0.length c2 A1 c1 l1 _ (Kd.C_below HR1.out HB.out) HC1.out (by have := HSZ1.out; omega) (by have := HSZ.out; omega)).mono ?_); rw [HBEL.out]; rintro e w5 ⟨rfl, hb⟩; have n0_ := Aside0.mk (below_step HB.out hb); have HK := Aside0.mk (Kd.S_below HK.out hb); replace hcn0 := (hb.cell (World.block_lt_of_cell? _ _ hcn0)).trans hcn0; replace hcn1 := (hb.cell (World.block_lt_of_cell? _ _ hcn1)).trans hcn1; have BN4 := Aside0.mk (blk_below BN4.out hb); clear HB hb; have HB := n0_; clear n0_))
    go_ret2
    exact ⟨_, rfl, Kd.R_nil _ _ _ _ _, HB.out⟩
   have d3 : decide ((l0.length : Int) ≤ a2) = false := decide_eq_false hi1
   have c02 : (0 ≤ a2) = True := eq_true (by omega)
   have c03 : (a2 < l0.length) = True := eq_true (by omega)
   have HA := Aside0.mk (show 0 ≤ a2 ∧ a2 < l0.length from ⟨by omega, by omega⟩)
   obtain ⟨r, hrr⟩ : ∃ r, r = l1.map toI := ⟨_, rfl⟩
   have HRL := Aside0.mk (show r.length = l0.length by rw [hrr, List.length_map, HLL.out])
   have HKO := Aside0.mk (openK_ok ho)
   obtain ⟨y, hy⟩ : ∃ y, y = cutI (rd_T74 r a2) a3 a3 := ⟨_, rfl⟩
   obtain ⟨rs, hrs⟩ : ∃ rs, rs = r.set a2.toNat y := ⟨_, rfl⟩
   have HRSL := Aside0.mk (show rs.length = l0.length by rw [hrs, List.length_set, HRL.out])
   have HI := Aside0.mk (hrr ▸ intervals_f l1 (by have := HLL.out; have := HSZ.out; omega))
   cases hem : emptyI y with
   | true =>
    have e : stateR l0 l1 a2 a3 = ([], 30) := by unfold stateR netOk; rw [if_pos hl, ho]; simp only []; rw [if_pos hbel, if_neg hi0, if_neg hi1, ← hrr, ← hy, if_pos hem]
    rw [e] at h
    injection h with e1 e2
    subst e1
    subst e2
    have HEM := Aside0.mk hem
    have HY := Aside0.mk hy
    clear ho hl hbel e hi0 hi1 hrr hrs hem hy
    go_enter Try.func29, Try.ntmps29
    go_upto_region 5 with (first | (go_at_call 31; (with_reducible refine (open_some A0 c0 l0 _ HR0.out HC0.out HSZ.out HO.out).mono ?_); rintro e w1 ⟨A2, c2, rfl, hS, hb⟩; have n0_ := Aside0.mk (below_step HB.out hb); have HK := Aside0.mk hS; clear HB hb hS; have HB := n0_; clear n0_) | ((with_reducible refine gate_dst (N := 10) rfl ?_); refine box_event ?hg (N := 10) ?hd (cs := #[.slice none 0 0, .slice none 0 0]) (t := 67) ?hr ?_; (case hd => rfl); (case hg => rfl); (case hr => first | (go_simp; done) | (go_simp; rfl)); intro gn hgn w3 hbn hb3; have hcn0 : w3.cell? ⟨gn, 0, none⟩ = some (.slice none 0 0) := (blk_cell hbn 0).trans rfl; have hcn1 : w3.cell? ⟨gn, 1, none⟩ = some (.slice none 0 0) := (blk_cell hbn 1).trans rfl; have hfn0 := blk_frozen hbn 0; have hfn1 := blk_frozen hbn 1; have BN := Aside0.mk hbn; have n0_ := Aside0.mk (below_step HB.out hb3); have GN := Aside0.mk (show w.heap.size ≤ gn by rw [hgn]; exact below_size HB.out); have GE := Aside0.mk hgn; (try have HK := Aside0.mk (Kd.S_below HK.out hb3)); clear HB hbn hb3 hgn; have HB := n0_; clear n0_) | ((with_reducible refine gate_store (t := 67) (p := 10) (v := .tmp 18) rfl ?_); refine store_event rfl (t := 67) (p := 10) (v := .tmp 18) rfl rfl (by first | (go_simp; done) | (go_simp; rfl)) ?_; intro w4 hw4; have BN4 := Aside0.mk (show w4.heap[gn]? = some (.cells #[.slice A0 l0.length c0, .slice A2 l0.length c2] 67 (0, 0)) by rw [hw4]; exact blk_put (blk_put BN.out 0 _ rfl) 1 _ rfl); have n0_ := Aside0.mk (show Below w.heap.size w w4 by rw [hw4]; exact below_set (below_set HB.out GN.out) GN.out); have HK := Aside0.mk (show Kd.S (Kd.slice 3 (Kd.int .i64)) 24 w4 w.heap.size (fun _ => True) (.slice A2 l0.length c2) kids by rw [hw4]; have ht := Kd.S_far (p := ⟨gn, 0, none⟩) (Kd.S_types HK.out BN.out (by decide)) (fun _ hk => hk.2) (.slice A0 l0.length c0); exact Kd.S_mono (Kd.S_far (p := ⟨gn, 1, none⟩) ht (fun _ hk => hk.2) (.slice A2 l0.length c2)) (fun _ hk => hk.1)); clear hw4 BN HB hcn0 hcn1 hfn0 hfn1; have HB := n0_; clear n0_; have hcn0 : w4.cell? ⟨gn, 0, none⟩ = some (.slice A0 l0.length c0) := (blk_cell BN4.out 0).trans rfl; have hcn1 : w4.cell? ⟨gn, 1, none⟩ = some (.slice A2 l0.length c2) := (blk_cell BN4.out 1).trans rfl) | (go_at_call 32; (with_reducible refine (belongs_calls A0 l0.length c0 A2 l0.length c2 A1 c1 l1 _ (Kd.C_below HR1.out HB.out) HC1.out (by have := HSZ1.out; omega) (by have := HSZ.out; omega)).mono ?_); rw [HBEL.out]; rintro e w5 ⟨rfl, hb⟩; have n0_ := Aside0.mk (below_step HB.out hb); have HK := Aside0.mk (Kd.S_below HK.out hb); replace hcn0 := (hb.cell (World.block_lt_of_cell? _ _ hcn0)).trans hcn0; replace hcn1 := (hb.cell (World.block_lt_of_cell? _ _ hcn1)).trans hcn1; have BN4 := Aside0.mk (blk_below BN4.out hb); clear HB hb; have HB := n0_; clear n0_) | (go_at_call 33; (with_reducible refine (flow_intervals.calls (l1.length + 1) A1 c1 l1 r _ (Kd.C_below HR1.out HB.out) HC1.out HI.out).mono ?_); rintro e w6 ⟨v6, rfl, hR, hb⟩; obtain ⟨A3, c3, rfl⟩ := Kd.R_slice hR; rw [HRL.out] at hR; have n0_ := Aside0.mk (below_step HB.out hb); have HRV := Aside0.mk (Kd.R_lower hR (below_size HB.out)); have HK := Aside0.mk (Kd.S_below HK.out hb); replace hcn0 := (hb.cell (World.block_lt_of_cell? _ _ hcn0)).trans hcn0; replace hcn1 := (hb.cell (World.block_lt_of_cell? _ _ hcn1)).trans hcn1; have BN4 := Aside0.mk (blk_below BN4.out hb); rw [HRL.out]; clear HB hb hR; have HB := n0_; clear n0_))
    obtain ⟨g3, cg3, e3, gb3, gl3, cl3, hcl3⟩ := Kd.R_form HRV.out (by have := HA.out; have := HRL.out; omega)
    injection e3 with ea en ec
    subst ea
    subst ec
    have GB3 := Aside0.mk gb3
    clear en gb3 gl3 hcl3
    have HIV0 := iv_elem HRV.out a2 HA.out.1 HA.out.2
    have hx0 := HIV0.1.1
    have hx1 := HIV0.1.2
    clear HIV0
    go_upto_region 6 with (first | (go_at_call 52; (with_reducible refine (flow_interval_cut.calls (rd_T74 r a2).f0 (rd_T74 r a2).f1 a3 a3 y.f0 y.f1 _ (cut_f HY.out)).mono ?_); rintro e w7 ⟨rfl, hb⟩; have n0_ := Aside0.mk (below_step HB.out hb); have HRV := Aside0.mk (Kd.R_below HRV.out hb); have HK := Aside0.mk (Kd.S_below HK.out hb); have HE := Aside0.mk (iv_elem HRV.out a2 HA.out.1 HA.out.2); replace hcn0 := (hb.cell (World.block_lt_of_cell? _ _ hcn0)).trans hcn0; replace hcn1 := (hb.cell (World.block_lt_of_cell? _ _ hcn1)).trans hcn1; have BN4 := Aside0.mk (blk_below BN4.out hb); have hxz0 := HE.out.1.1; have hxz1 := HE.out.1.2; have hfz0 := HE.out.2.1.1; have hfz1 := HE.out.2.1.2; clear HB hb hx0 hx1; have HB := n0_; clear n0_))
    obtain ⟨w75, hw75⟩ : ∃ w75, w75 = (w7.setCell ⟨g3, a2.toNat * 2, none⟩ (.int .i64 y.f0)).setCell ⟨g3, a2.toNat * 2 + 1, none⟩ (.int .i64 y.f1) := ⟨_, rfl⟩
    rw [← hw75]
    have hP := HE.out.2.2 y
    rw [← hw75] at hP
    obtain ⟨cl7, hcl7⟩ : ∃ cl7, w7.heap[g3]? = some (.cells cl7 74 (0, 0)) := Kd.R_typed HRV.out g3 (by simp [Value.ownBlock])
    have n0_ := Aside0.mk (show Below w.heap.size w w75 by rw [hw75]; exact below_set (below_set HB.out GB3.out) GB3.out)
    have n1_ := Aside0.mk (Kd.S_mono (Kd.S_grown (Kd.S_types HK.out hcl7 (by decide)) hP.2 (fun k hk e => hk.2 (by cases e; rfl))) (fun _ hk => hk.1))
    have n2_ := Aside0.mk (blk_grown BN4.out hP.2 (by have := blk_ne BN4.out hcl7 (by decide); simpa using this))
    have n3_ := Aside0.mk hP.1
    clear HB HK BN4 HRV hxz0 hxz1 hfz0 hfz1 hcn0 hcn1 hP hcl7 HE
    have HB := n0_
    have HK := n1_
    have BN4 := n2_
    have HRV := n3_
    clear n0_ n1_ n2_ n3_ hw75
    have hcn0 : w75.cell? ⟨gn, 0, none⟩ = some (.slice A0 l0.length c0) := (blk_cell BN4.out 0).trans rfl
    have hcn1 : w75.cell? ⟨gn, 1, none⟩ = some (.slice A2 l0.length c2) := (blk_cell BN4.out 1).trans rfl
    have HIV0 := iv_elem HRV.out a2 HA.out.1 HA.out.2
    have hx0 : w75.cell? ⟨g3, a2.toNat * 2, none⟩ = some (.int .i64 y.f0) := by rw [HIV0.1.1]; rw [rd_set_self _ _ _ (by have := HA.out; have := HRL.out; omega)]
    have hx1 : w75.cell? ⟨g3, a2.toNat * 2 + 1, none⟩ = some (.int .i64 y.f1) := by rw [HIV0.1.2]; rw [rd_set_self _ _ _ (by have := HA.out; have := HRL.out; omega)]
    clear HIV0
    go_wp2_with (first | (go_at_call 53; (with_reducible refine (flow_interval_empty.calls y.f0 y.f1 _ _ (emptyI_f HEM.out)).mono ?_); rintro e w8 ⟨rfl, hb⟩; have n0_ := Aside0.mk (below_step HB.out hb); have HRV := Aside0.mk (Kd.R_below HRV.out hb); have HK := Aside0.mk (Kd.S_below HK.out hb); replace hcn0 := (hb.cell (World.block_lt_of_cell? _ _ hcn0)).trans hcn0; replace hcn1 := (hb.cell (World.block_lt_of_cell? _ _ hcn1)).trans hcn1; have BN4 := Aside0.mk (blk_below BN4.out hb); clear HB hb; have HB := n0_; clear n0_))
    go_ret2
    exact ⟨_, rfl, Kd.R_nil _ _ _ _ _, HB.out⟩
   | false =>
    have HEM := Aside0.mk hem
    cases hbo : (boundsF l0 kids rs).1 with
    | false =>
     have HBO := Aside0.mk hbo
     have e : stateR l0 l1 a2 a3 = ([], 30) := by unfold stateR netOk; rw [if_pos hl, ho]; simp only []; rw [if_pos hbel, if_neg hi0, if_neg hi1, ← hrr, ← hy, if_neg (by rw [hem]; decide), ← hrs, if_neg (by rw [hbo]; decide)]
     rw [e] at h
     injection h with e1 e2
     subst e1
     subst e2
     have HY := Aside0.mk hy
     have HRS := Aside0.mk hrs
     clear ho hl hbel e hi0 hi1 hrr hrs hem hy hbo
     go_enter Try.func29, Try.ntmps29
     go_upto_region 5 with (first | (go_at_call 31; (with_reducible refine (open_some A0 c0 l0 _ HR0.out HC0.out HSZ.out HO.out).mono ?_); rintro e w1 ⟨A2, c2, rfl, hS, hb⟩; have n0_ := Aside0.mk (below_step HB.out hb); have HK := Aside0.mk hS; clear HB hb hS; have HB := n0_; clear n0_) | ((with_reducible refine gate_dst (N := 10) rfl ?_); refine box_event ?hg (N := 10) ?hd (cs := #[.slice none 0 0, .slice none 0 0]) (t := 67) ?hr ?_; (case hd => rfl); (case hg => rfl); (case hr => first | (go_simp; done) | (go_simp; rfl)); intro gn hgn w3 hbn hb3; have hcn0 : w3.cell? ⟨gn, 0, none⟩ = some (.slice none 0 0) := (blk_cell hbn 0).trans rfl; have hcn1 : w3.cell? ⟨gn, 1, none⟩ = some (.slice none 0 0) := (blk_cell hbn 1).trans rfl; have hfn0 := blk_frozen hbn 0; have hfn1 := blk_frozen hbn 1; have BN := Aside0.mk hbn; have n0_ := Aside0.mk (below_step HB.out hb3); have GN := Aside0.mk (show w.heap.size ≤ gn by rw [hgn]; exact below_size HB.out); have GE := Aside0.mk hgn; (try have HK := Aside0.mk (Kd.S_below HK.out hb3)); clear HB hbn hb3 hgn; have HB := n0_; clear n0_) | ((with_reducible refine gate_store (t := 67) (p := 10) (v := .tmp 18) rfl ?_); refine store_event rfl (t := 67) (p := 10) (v := .tmp 18) rfl rfl (by first | (go_simp; done) | (go_simp; rfl)) ?_; intro w4 hw4; have BN4 := Aside0.mk (show w4.heap[gn]? = some (.cells #[.slice A0 l0.length c0, .slice A2 l0.length c2] 67 (0, 0)) by rw [hw4]; exact blk_put (blk_put BN.out 0 _ rfl) 1 _ rfl); have n0_ := Aside0.mk (show Below w.heap.size w w4 by rw [hw4]; exact below_set (below_set HB.out GN.out) GN.out); have HK := Aside0.mk (show Kd.S (Kd.slice 3 (Kd.int .i64)) 24 w4 w.heap.size (fun _ => True) (.slice A2 l0.length c2) kids by rw [hw4]; have ht := Kd.S_far (p := ⟨gn, 0, none⟩) (Kd.S_types HK.out BN.out (by decide)) (fun _ hk => hk.2) (.slice A0 l0.length c0); exact Kd.S_mono (Kd.S_far (p := ⟨gn, 1, none⟩) ht (fun _ hk => hk.2) (.slice A2 l0.length c2)) (fun _ hk => hk.1)); clear hw4 BN HB hcn0 hcn1 hfn0 hfn1; have HB := n0_; clear n0_; have hcn0 : w4.cell? ⟨gn, 0, none⟩ = some (.slice A0 l0.length c0) := (blk_cell BN4.out 0).trans rfl; have hcn1 : w4.cell? ⟨gn, 1, none⟩ = some (.slice A2 l0.length c2) := (blk_cell BN4.out 1).trans rfl) | (go_at_call 32; (with_reducible refine (belongs_calls A0 l0.length c0 A2 l0.length c2 A1 c1 l1 _ (Kd.C_below HR1.out HB.out) HC1.out (by have := HSZ1.out; omega) (by have := HSZ.out; omega)).mono ?_); rw [HBEL.out]; rintro e w5 ⟨rfl, hb⟩; have n0_ := Aside0.mk (below_step HB.out hb); have HK := Aside0.mk (Kd.S_below HK.out hb); replace hcn0 := (hb.cell (World.block_lt_of_cell? _ _ hcn0)).trans hcn0; replace hcn1 := (hb.cell (World.block_lt_of_cell? _ _ hcn1)).trans hcn1; have BN4 := Aside0.mk (blk_below BN4.out hb); clear HB hb; have HB := n0_; clear n0_) | (go_at_call 33; (with_reducible refine (flow_intervals.calls (l1.length + 1) A1 c1 l1 r _ (Kd.C_below HR1.out HB.out) HC1.out HI.out).mono ?_); rintro e w6 ⟨v6, rfl, hR, hb⟩; obtain ⟨A3, c3, rfl⟩ := Kd.R_slice hR; rw [HRL.out] at hR; have n0_ := Aside0.mk (below_step HB.out hb); have HRV := Aside0.mk (Kd.R_lower hR (below_size HB.out)); have HK := Aside0.mk (Kd.S_below HK.out hb); replace hcn0 := (hb.cell (World.block_lt_of_cell? _ _ hcn0)).trans hcn0; replace hcn1 := (hb.cell (World.block_lt_of_cell? _ _ hcn1)).trans hcn1; have BN4 := Aside0.mk (blk_below BN4.out hb); rw [HRL.out]; clear HB hb hR; have HB := n0_; clear n0_))
     obtain ⟨g3, cg3, e3, gb3, gl3, cl3, hcl3⟩ := Kd.R_form HRV.out (by have := HA.out; have := HRL.out; omega)
     injection e3 with ea en ec
     subst ea
     subst ec
     have GB3 := Aside0.mk gb3
     clear en gb3 gl3 hcl3
     have HIV0 := iv_elem HRV.out a2 HA.out.1 HA.out.2
     have hx0 := HIV0.1.1
     have hx1 := HIV0.1.2
     clear HIV0
     go_upto_region 6 with (first | (go_at_call 52; (with_reducible refine (flow_interval_cut.calls (rd_T74 r a2).f0 (rd_T74 r a2).f1 a3 a3 y.f0 y.f1 _ (cut_f HY.out)).mono ?_); rintro e w7 ⟨rfl, hb⟩; have n0_ := Aside0.mk (below_step HB.out hb); have HRV := Aside0.mk (Kd.R_below HRV.out hb); have HK := Aside0.mk (Kd.S_below HK.out hb); have HE := Aside0.mk (iv_elem HRV.out a2 HA.out.1 HA.out.2); replace hcn0 := (hb.cell (World.block_lt_of_cell? _ _ hcn0)).trans hcn0; replace hcn1 := (hb.cell (World.block_lt_of_cell? _ _ hcn1)).trans hcn1; have BN4 := Aside0.mk (blk_below BN4.out hb); have hxz0 := HE.out.1.1; have hxz1 := HE.out.1.2; have hfz0 := HE.out.2.1.1; have hfz1 := HE.out.2.1.2; clear HB hb hx0 hx1; have HB := n0_; clear n0_))
     obtain ⟨w75, hw75⟩ : ∃ w75, w75 = (w7.setCell ⟨g3, a2.toNat * 2, none⟩ (.int .i64 y.f0)).setCell ⟨g3, a2.toNat * 2 + 1, none⟩ (.int .i64 y.f1) := ⟨_, rfl⟩
     rw [← hw75]
     have hP := HE.out.2.2 y
     rw [← hw75] at hP
     obtain ⟨cl7, hcl7⟩ : ∃ cl7, w7.heap[g3]? = some (.cells cl7 74 (0, 0)) := Kd.R_typed HRV.out g3 (by simp [Value.ownBlock])
     have n0_ := Aside0.mk (show Below w.heap.size w w75 by rw [hw75]; exact below_set (below_set HB.out GB3.out) GB3.out)
     have n1_ := Aside0.mk (Kd.S_mono (Kd.S_grown (Kd.S_types HK.out hcl7 (by decide)) hP.2 (fun k hk e => hk.2 (by cases e; rfl))) (fun _ hk => hk.1))
     have n2_ := Aside0.mk (blk_grown BN4.out hP.2 (by have := blk_ne BN4.out hcl7 (by decide); simpa using this))
     have n3_ := Aside0.mk hP.1
     clear HB HK BN4 HRV hxz0 hxz1 hfz0 hfz1 hcn0 hcn1 hP hcl7 HE
     have HB := n0_
     have HK := n1_
     have BN4 := n2_
     have HRV := n3_
     clear n0_ n1_ n2_ n3_ hw75
     have hcn0 : w75.cell? ⟨gn, 0, none⟩ = some (.slice A0 l0.length c0) := (blk_cell BN4.out 0).trans rfl
     have hcn1 : w75.cell? ⟨gn, 1, none⟩ = some (.slice A2 l0.length c2) := (blk_cell BN4.out 1).trans rfl
     have HIV0 := iv_elem HRV.out a2 HA.out.1 HA.out.2
     have hx0 : w75.cell? ⟨g3, a2.toNat * 2, none⟩ = some (.int .i64 y.f0) := by rw [HIV0.1.1]; rw [rd_set_self _ _ _ (by have := HA.out; have := HRL.out; omega)]
     have hx1 : w75.cell? ⟨g3, a2.toNat * 2 + 1, none⟩ = some (.int .i64 y.f1) := by rw [HIV0.1.2]; rw [rd_set_self _ _ _ (by have := HA.out; have := HRL.out; omega)]
     clear HIV0
     go_wp2_with (first | (go_at_call 53; (with_reducible refine (flow_interval_empty.calls y.f0 y.f1 _ _ (emptyI_f HEM.out)).mono ?_); rintro e w8 ⟨rfl, hb⟩; have n0_ := Aside0.mk (below_step HB.out hb); have HRV := Aside0.mk (Kd.R_below HRV.out hb); have HK := Aside0.mk (Kd.S_below HK.out hb); replace hcn0 := (hb.cell (World.block_lt_of_cell? _ _ hcn0)).trans hcn0; replace hcn1 := (hb.cell (World.block_lt_of_cell? _ _ hcn1)).trans hcn1; have BN4 := Aside0.mk (blk_below BN4.out hb); clear HB hb; have HB := n0_; clear n0_) | (go_at_call 34; (with_reducible refine (bounds_calls w _ A0 c0 l0 A2 c2 kids (some ⟨g3, 0, none⟩) c3 rs HB.out HR0.out HC0.out HSZ.out HK.out HKO.out (HRS.out ▸ HRV.out) HRSL.out).mono ?_); rw [HBO.out]; rintro e w7 ⟨rfl, hR, hg⟩; have n0_ := Aside0.mk (grown_below HB.out hg (Kd.R_base HRV.out)); have HRV := Aside0.mk (by first | (rw [← HBB.out] at hR; exact hR) | exact hR); clear HB hg hR; have HB := n0_; clear n0_))
     go_ret2
     exact ⟨_, rfl, Kd.R_nil _ _ _ _ _, HB.out⟩
    | true =>
     have HBO := Aside0.mk hbo
     obtain ⟨b, hb_⟩ : ∃ b, b = (boundsF l0 kids rs).2 := ⟨_, rfl⟩
     have HBL := Aside0.mk (show b.length = l0.length by rw [hb_, boundsF_len, HRSL.out])
     have e : stateR l0 l1 a2 a3 = ((stateFold l0 kids b l0.length).1, 0) := by unfold stateR netOk; rw [if_pos hl, ho]; simp only []; rw [if_pos hbel, if_neg hi0, if_neg hi1, ← hrr, ← hy, if_neg (by rw [hem]; decide), ← hrs, if_pos hbo, ← hb_]
     rw [e] at h
     injection h with e1 e2
     subst e1
     subst e2
     have HY := Aside0.mk hy
     have HRS := Aside0.mk hrs
     have HBB := Aside0.mk hb_
     clear ho hl hbel e hi0 hi1 hrr hrs hem hy hbo hb_
     go_enter Try.func29, Try.ntmps29
     go_upto_region 5 with (first | (go_at_call 31; (with_reducible refine (open_some A0 c0 l0 _ HR0.out HC0.out HSZ.out HO.out).mono ?_); rintro e w1 ⟨A2, c2, rfl, hS, hb⟩; have n0_ := Aside0.mk (below_step HB.out hb); have HK := Aside0.mk hS; clear HB hb hS; have HB := n0_; clear n0_) | ((with_reducible refine gate_dst (N := 10) rfl ?_); refine box_event ?hg (N := 10) ?hd (cs := #[.slice none 0 0, .slice none 0 0]) (t := 67) ?hr ?_; (case hd => rfl); (case hg => rfl); (case hr => first | (go_simp; done) | (go_simp; rfl)); intro gn hgn w3 hbn hb3; have hcn0 : w3.cell? ⟨gn, 0, none⟩ = some (.slice none 0 0) := (blk_cell hbn 0).trans rfl; have hcn1 : w3.cell? ⟨gn, 1, none⟩ = some (.slice none 0 0) := (blk_cell hbn 1).trans rfl; have hfn0 := blk_frozen hbn 0; have hfn1 := blk_frozen hbn 1; have BN := Aside0.mk hbn; have n0_ := Aside0.mk (below_step HB.out hb3); have GN := Aside0.mk (show w.heap.size ≤ gn by rw [hgn]; exact below_size HB.out); have GE := Aside0.mk hgn; (try have HK := Aside0.mk (Kd.S_below HK.out hb3)); clear HB hbn hb3 hgn; have HB := n0_; clear n0_) | ((with_reducible refine gate_store (t := 67) (p := 10) (v := .tmp 18) rfl ?_); refine store_event rfl (t := 67) (p := 10) (v := .tmp 18) rfl rfl (by first | (go_simp; done) | (go_simp; rfl)) ?_; intro w4 hw4; have BN4 := Aside0.mk (show w4.heap[gn]? = some (.cells #[.slice A0 l0.length c0, .slice A2 l0.length c2] 67 (0, 0)) by rw [hw4]; exact blk_put (blk_put BN.out 0 _ rfl) 1 _ rfl); have n0_ := Aside0.mk (show Below w.heap.size w w4 by rw [hw4]; exact below_set (below_set HB.out GN.out) GN.out); have HK := Aside0.mk (show Kd.S (Kd.slice 3 (Kd.int .i64)) 24 w4 w.heap.size (fun _ => True) (.slice A2 l0.length c2) kids by rw [hw4]; have ht := Kd.S_far (p := ⟨gn, 0, none⟩) (Kd.S_types HK.out BN.out (by decide)) (fun _ hk => hk.2) (.slice A0 l0.length c0); exact Kd.S_mono (Kd.S_far (p := ⟨gn, 1, none⟩) ht (fun _ hk => hk.2) (.slice A2 l0.length c2)) (fun _ hk => hk.1)); clear hw4 BN HB hcn0 hcn1 hfn0 hfn1; have HB := n0_; clear n0_; have hcn0 : w4.cell? ⟨gn, 0, none⟩ = some (.slice A0 l0.length c0) := (blk_cell BN4.out 0).trans rfl; have hcn1 : w4.cell? ⟨gn, 1, none⟩ = some (.slice A2 l0.length c2) := (blk_cell BN4.out 1).trans rfl) | (go_at_call 32; (with_reducible refine (belongs_calls A0 l0.length c0 A2 l0.length c2 A1 c1 l1 _ (Kd.C_below HR1.out HB.out) HC1.out (by have := HSZ1.out; omega) (by have := HSZ.out; omega)).mono ?_); rw [HBEL.out]; rintro e w5 ⟨rfl, hb⟩; have n0_ := Aside0.mk (below_step HB.out hb); have HK := Aside0.mk (Kd.S_below HK.out hb); replace hcn0 := (hb.cell (World.block_lt_of_cell? _ _ hcn0)).trans hcn0; replace hcn1 := (hb.cell (World.block_lt_of_cell? _ _ hcn1)).trans hcn1; have BN4 := Aside0.mk (blk_below BN4.out hb); clear HB hb; have HB := n0_; clear n0_) | (go_at_call 33; (with_reducible refine (flow_intervals.calls (l1.length + 1) A1 c1 l1 r _ (Kd.C_below HR1.out HB.out) HC1.out HI.out).mono ?_); rintro e w6 ⟨v6, rfl, hR, hb⟩; obtain ⟨A3, c3, rfl⟩ := Kd.R_slice hR; rw [HRL.out] at hR; have n0_ := Aside0.mk (below_step HB.out hb); have HRV := Aside0.mk (Kd.R_lower hR (below_size HB.out)); have HK := Aside0.mk (Kd.S_below HK.out hb); replace hcn0 := (hb.cell (World.block_lt_of_cell? _ _ hcn0)).trans hcn0; replace hcn1 := (hb.cell (World.block_lt_of_cell? _ _ hcn1)).trans hcn1; have BN4 := Aside0.mk (blk_below BN4.out hb); rw [HRL.out]; clear HB hb hR; have HB := n0_; clear n0_))
     obtain ⟨g3, cg3, e3, gb3, gl3, cl3, hcl3⟩ := Kd.R_form HRV.out (by have := HA.out; have := HRL.out; omega)
     injection e3 with ea en ec
     subst ea
     subst ec
     have GB3 := Aside0.mk gb3
     clear en gb3 gl3 hcl3
     have HIV0 := iv_elem HRV.out a2 HA.out.1 HA.out.2
     have hx0 := HIV0.1.1
     have hx1 := HIV0.1.2
     clear HIV0
     go_upto_region 6 with (first | (go_at_call 52; (with_reducible refine (flow_interval_cut.calls (rd_T74 r a2).f0 (rd_T74 r a2).f1 a3 a3 y.f0 y.f1 _ (cut_f HY.out)).mono ?_); rintro e w7 ⟨rfl, hb⟩; have n0_ := Aside0.mk (below_step HB.out hb); have HRV := Aside0.mk (Kd.R_below HRV.out hb); have HK := Aside0.mk (Kd.S_below HK.out hb); have HE := Aside0.mk (iv_elem HRV.out a2 HA.out.1 HA.out.2); replace hcn0 := (hb.cell (World.block_lt_of_cell? _ _ hcn0)).trans hcn0; replace hcn1 := (hb.cell (World.block_lt_of_cell? _ _ hcn1)).trans hcn1; have BN4 := Aside0.mk (blk_below BN4.out hb); have hxz0 := HE.out.1.1; have hxz1 := HE.out.1.2; have hfz0 := HE.out.2.1.1; have hfz1 := HE.out.2.1.2; clear HB hb hx0 hx1; have HB := n0_; clear n0_))
     obtain ⟨w75, hw75⟩ : ∃ w75, w75 = (w7.setCell ⟨g3, a2.toNat * 2, none⟩ (.int .i64 y.f0)).setCell ⟨g3, a2.toNat * 2 + 1, none⟩ (.int .i64 y.f1) := ⟨_, rfl⟩
     rw [← hw75]
     have hP := HE.out.2.2 y
     rw [← hw75] at hP
     obtain ⟨cl7, hcl7⟩ : ∃ cl7, w7.heap[g3]? = some (.cells cl7 74 (0, 0)) := Kd.R_typed HRV.out g3 (by simp [Value.ownBlock])
     have n0_ := Aside0.mk (show Below w.heap.size w w75 by rw [hw75]; exact below_set (below_set HB.out GB3.out) GB3.out)
     have n1_ := Aside0.mk (Kd.S_mono (Kd.S_grown (Kd.S_types HK.out hcl7 (by decide)) hP.2 (fun k hk e => hk.2 (by cases e; rfl))) (fun _ hk => hk.1))
     have n2_ := Aside0.mk (blk_grown BN4.out hP.2 (by have := blk_ne BN4.out hcl7 (by decide); simpa using this))
     have n3_ := Aside0.mk hP.1
     clear HB HK BN4 HRV hxz0 hxz1 hfz0 hfz1 hcn0 hcn1 hP hcl7 HE
     have HB := n0_
     have HK := n1_
     have BN4 := n2_
     have HRV := n3_
     clear n0_ n1_ n2_ n3_ hw75
     have hcn0 : w75.cell? ⟨gn, 0, none⟩ = some (.slice A0 l0.length c0) := (blk_cell BN4.out 0).trans rfl
     have hcn1 : w75.cell? ⟨gn, 1, none⟩ = some (.slice A2 l0.length c2) := (blk_cell BN4.out 1).trans rfl
     have HIV0 := iv_elem HRV.out a2 HA.out.1 HA.out.2
     have hx0 : w75.cell? ⟨g3, a2.toNat * 2, none⟩ = some (.int .i64 y.f0) := by rw [HIV0.1.1]; rw [rd_set_self _ _ _ (by have := HA.out; have := HRL.out; omega)]
     have hx1 : w75.cell? ⟨g3, a2.toNat * 2 + 1, none⟩ = some (.int .i64 y.f1) := by rw [HIV0.1.2]; rw [rd_set_self _ _ _ (by have := HA.out; have := HRL.out; omega)]
     clear HIV0
     go_wp2_with (first | (go_at_call 53; (with_reducible refine (flow_interval_empty.calls y.f0 y.f1 _ _ (emptyI_f HEM.out)).mono ?_); rintro e w8 ⟨rfl, hb⟩; have n0_ := Aside0.mk (below_step HB.out hb); have HRV := Aside0.mk (Kd.R_below HRV.out hb); have HK := Aside0.mk (Kd.S_below HK.out hb); replace hcn0 := (hb.cell (World.block_lt_of_cell? _ _ hcn0)).trans hcn0; replace hcn1 := (hb.cell (World.block_lt_of_cell? _ _ hcn1)).trans hcn1; have BN4 := Aside0.mk (blk_below BN4.out hb); clear HB hb; have HB := n0_; clear n0_) | (go_at_call 34; (with_reducible refine (bounds_calls w _ A0 c0 l0 A2 c2 kids (some ⟨g3, 0, none⟩) c3 rs HB.out HR0.out HC0.out HSZ.out HK.out HKO.out (HRS.out ▸ HRV.out) HRSL.out).mono ?_); rw [HBO.out]; rintro e w7 ⟨rfl, hR, hg⟩; have n0_ := Aside0.mk (grown_below HB.out hg (Kd.R_base HRV.out)); have HRVo := HRV; clear HRV; have HRV := Aside0.mk (by first | (rw [← HBB.out] at hR; exact hR) | exact hR); have n1_ := Aside0.mk (Kd.S_mono (Kd.S_grown (Kd.S_apart' HK.out (Kd.R_typed HRVo.out) (by decide)) hg (fun _ hk => hk.2)) (fun _ hk => hk.1)); have n2_ := Aside0.mk (blk_grown BN4.out hg (Kd.R_ne HRVo.out BN4.out (by decide))); clear HK BN4 HRVo hcn0 hcn1; have HK := n1_; have BN4 := n2_; clear n1_ n2_; clear HB hg hR; have HB := n0_; clear n0_) | ((with_reducible refine gate_dst (N := 63) rfl ?_); refine Kd.R_make (Kd.int .i64) _ 3 rfl (N := 63) rfl 24 _ _ rfl (l0.length : Int) rfl rfl Try.underlying24 (.int .i64 0) 8 info3 rfl (by decide) (by omega) 0 (ok := fun _ => True) (okp := fun _ => True) rfl (fun _ hk => hk) trivial (by omega) (by have := HSZ.out; omega) (Below.refl _ _) (Nat.le_refl _) ?_; intro v1 w9 ho hb hg_ hnew_; have n0_ := Aside0.mk (below_step HB.out hb); have HO8 := Aside0.mk ho; have HN := Aside0.mk (below_size HB.out); have HRV := Aside0.mk (Kd.R_below HRV.out hb); have HK := Aside0.mk (Kd.S_old HK.out hb); have BN4 := Aside0.mk (blk_below BN4.out hb); clear HB hb ho hg_ hnew_; have HB := n0_; clear n0_))
     obtain ⟨Ao, co, eo⟩ := Kd.R_slice HO8.out
     subst eo
     rw [List.length_replicate, Int.toNat_natCast] at *
     have GV := Aside0.mk (Kd.R_base HRV.out)
     go_loopg [66] l0.length (fun kq v66 wr => ∃ (n : Nat) (x : List Int) (rr : List S74), v66 = .int .i64 n ∧ Aside0 (kq + n = l0.length) ∧ Aside0 ((x, rr) = stateFold l0 kids b n) ∧ Aside0 (Kd.R (Kd.int .i64) 3 wr w7.heap.size (fun _ => True) (.slice Ao l0.length co) x) ∧ Aside0 (Kd.R k74 74 wr w.heap.size (fun _ => True) (.slice (some ⟨g3, 0, none⟩) l0.length c3) rr)
      ∧ Aside0 (Kd.S (Kd.slice 3 (Kd.int .i64)) 24 wr w.heap.size (fun k => True ∧ k < w7.heap.size) (.slice A2 l0.length c2) kids) ∧ Aside0 (wr.heap[gn]? = some (.cells #[.slice A0 l0.length c0, .slice A2 l0.length c2] 67 (0, 0))) ∧ Aside0 (Below w.heap.size w wr))
     case atStart => exact ⟨0, _, b, rfl, ⟨by omega⟩, ⟨rfl⟩, HO8, HRV, HK, BN4, HB⟩
     case round =>
      clear HO8 HRV HB BN4 HK
      obtain ⟨n, x, rr, rfl, HM, HF, HX, HRV, HK, BN4, HB⟩ := hrel
      have HXL := Aside0.mk (show x.length = l0.length ∧ rr.length = l0.length by have h := stateFold_len l0 kids b n; rw [← HF.out] at h; exact ⟨h.1, h.2.trans HBL.out⟩)
      by_cases hlt : n < l0.length
      ·obtain ⟨i, hi⟩ : ∃ i : Int, i = (n : Int) := ⟨_, rfl⟩
       rw [← hi]
       have HI2 := Aside0.mk (show 0 ≤ i ∧ i < l0.length ∧ i = (n : Int) from ⟨by omega, by omega, hi⟩)
       have d2' : decide (i < (l0.length : Int)) = true := decide_eq_true HI2.out.2.1
       have ci2 : (0 ≤ i) = True := eq_true HI2.out.1
       have ci3 : (i < l0.length) = True := eq_true HI2.out.2.1
       have hIV := iv_elem HRV.out i HI2.out.1 HI2.out.2.1
       have hx0 := hIV.1.1
       obtain ⟨go, cgo, eo, gob, gol, ogl, hogl⟩ := Kd.R_form HX.out (by have := HI2.out; have := HXL.out; omega)
       injection eo with ea en ec
       subst ea
       subst ec
       have HGB := Aside0.mk gob
       obtain ⟨hy0, hfy0⟩ := Kd.R_celln 0 HX.out i HI2.out.1 HI2.out.2.1
       obtain ⟨v, hv⟩ : ∃ v, v = (rd_T74 rr i).f0 := ⟨_, rfl⟩
       have HV := Aside0.mk hv
       rw [← hv] at hx0
       have hX10 := Kd.R_putg HX.out i v
       have HG3 := Aside0.mk (show w.heap.size ≤ g3 from GV.out g3 (by simp [Value.ownBlock]))
       have HO1 := Aside0.mk hogl
       clear hi hlt en gob gol hogl hIV hv
       go_upto_region 13 with (first | (go_at_call 52; skip))
       obtain ⟨w10, hw10⟩ : ∃ w10, w10 = wr.setCell ⟨go, i.toNat, none⟩ (.int .i64 v) := ⟨_, rfl⟩
       rw [← hw10]
       have hX10' : Kd.R (Kd.int .i64) 3 w10 w7.heap.size (fun _ => True) (.slice (some ⟨go, 0, none⟩) l0.length co) (x.set i.toNat v) ∧ wr.grownBy w10 (some go) := by rw [hw10]; exact hX10
       have HX10 := Aside0.mk hX10'.1
       have n1_ := Aside0.mk (Kd.R_mono (Kd.R_grown (Kd.R_types HRV.out HO1.out (by decide)) hX10'.2 (fun k hk e => hk.2 (by cases e; rfl))) (fun _ hk => hk.1))
       have n2_ := Aside0.mk (Kd.S_grown HK.out hX10'.2 (fun k hk e => by cases e; have := hk.2; have := HGB.out; omega))
       have n3_ := Aside0.mk (blk_grown BN4.out hX10'.2 (by have := blk_ne BN4.out HO1.out (by decide); simpa using this))
       have n4_ := Aside0.mk (show Below w.heap.size w w10 by rw [hw10]; exact below_set HB.out (Nat.le_trans HN.out HGB.out))
       have hy1 : w10.drew.cell? ⟨go, i.toNat, none⟩ = some (.int .i64 v) := by have h := (Kd.R_celln 0 (Kd.R_drew HX10.out) i HI2.out.1 HI2.out.2.1).1; rw [rdOf_set_self _ _ _ (by have := HI2.out; have := HXL.out; omega)] at h; exact h
       clear hX10 hX10' hw10 HX HRV HK BN4 HB hy0 hfy0 hx0 HO1
       have HRV := n1_
       have HK := n2_
       have BN4 := n3_
       have HB := n4_
       clear n1_ n2_ n3_ n4_
       have HE := Aside0.mk (iv_elem HRV.out i HI2.out.1 HI2.out.2.1)
       have hxz0 := HE.out.1.1
       have hxz1 := HE.out.1.2
       have hfz0 := HE.out.2.1.1
       have hfz1 := HE.out.2.1.2
       go_wp2
       refine start_ (n := 13) (S := fun w' => w'.cell? ⟨go, i.toNat, none⟩ = some (.int .i64 v)) (ds := [12]) #[n_, n_, n_, n_, n_, n_, n_, n_, n_, n_, n_, n_, n_] (by kernel_rfl) rfl rfl (hy1) (fun hHeld => ?_)
       refine pv_ 0 77 (w_ 13 1) rfl ?_
       refine pv_ 1 78 (w_ 13 3) rfl ?_
       refine pv_ 2 79 (w_ 13 7) rfl ?_
       refine pv_ 3 80 (w_ 13 15) rfl ?_
       refine pv_ 4 81 (w_ 13 31) rfl ?_
       refine pv_ 6 83 (w_ 13 95) rfl ?_
       refine pv_ 7 84 (w_ 13 223) rfl ?_
       refine pv_ 8 85 (w_ 13 479) rfl ?_
       refine take_ (i := 5) (N := some 82) (v := ?_) (a' := ?_) #[y_, y_, y_, y_, y_, y_, y_, y_, y_, n_, n_, n_, n_] rfl rfl (by kernel_rfl) (fun _ _ _ h => h) (Or.inl ⟨by rfl, ?_⟩) hHeld ?_ ?_
       rotate_left
       ·intro w' s0
        go_simp
        with_reducible rfl
       rotate_left
       ·simp only [Act.put, sI_, s0_, sS_, i64_w, i32_w]
        rfl
       refine take_ (i := 9) (N := some 86) (v := ?_) (a' := ?_) #[y_, y_, y_, y_, y_, y_, y_, y_, y_, y_, n_, n_, n_] rfl rfl (by kernel_rfl) (fun _ _ _ h => h) (Or.inl ⟨by rfl, ?_⟩) hHeld ?_ ?_
       rotate_left
       ·intro w' s0
        go_simp
        with_reducible rfl
       rotate_left
       ·simp only [Act.put, sI_, s0_, sS_, i64_w, i32_w]
        rfl
       refine pv_ 10 87 (w_ 13 2047) rfl ?_
       refine pv_ 11 88 (w_ 13 4095) rfl ?_
       refine last_ (i := 12) (N := none) (w_ 13 8191) rfl rfl (by kernel_rfl) (by decide) (fun K hK => ?_)
       refine skip_ (w1 := ?_) (by rfl) rfl ?_ ?_
       rotate_left
       ·go_simp
        rfl
       refine hK.out _ _ ?_
       clear hK K
       refine done_ (by kernel_rfl) ?_
       obtain ⟨w12, hw12⟩ : ∃ w12, w12 = ((w10.setCell ⟨g3, i.toNat * 2, none⟩ (.int .i64 v)).setCell ⟨g3, i.toNat * 2 + 1, none⟩ (.int .i64 v)).drew := ⟨_, rfl⟩
       rw [← hw12]
       have hP := HE.out.2.2 ⟨v, v⟩
       have hgw : w10.grownBy w12 (some g3) := by rw [hw12]; exact grown_drew hP.2
       obtain ⟨cl10, hcl10⟩ : ∃ cl10, w10.heap[g3]? = some (.cells cl10 74 (0, 0)) := Kd.R_typed HRV.out g3 (by simp [Value.ownBlock])
       have n1_ := Aside0.mk (show Kd.R k74 74 w12 w.heap.size (fun _ => True) (.slice (some ⟨g3, 0, none⟩) l0.length c3) (rr.set i.toNat ⟨v, v⟩) by rw [hw12]; exact Kd.R_drew hP.1)
       have n2_ := Aside0.mk (Kd.S_mono (Kd.S_grown (Kd.S_types HK.out hcl10 (by decide)) hgw (fun k hk e => hk.2 (by cases e; rfl))) (fun _ hk => hk.1))
       have n3_ := Aside0.mk (blk_grown BN4.out hgw (by have := blk_ne BN4.out hcl10 (by decide); simpa using this))
       have n4_ := Aside0.mk (show Below w.heap.size w w12 by rw [hw12]; exact below_drew (below_set (below_set HB.out HG3.out) HG3.out))
       have n5_ := Aside0.mk (Kd.R_mono (Kd.R_grown (Kd.R_types HX10.out hcl10 (by decide)) hgw (fun k hk e => hk.2 (by cases e; rfl))) (fun _ hk => hk.1))
       clear hHeld hxz0 hxz1 hfz0 hfz1 HE hP hgw hw12 hcl10 HRV HK BN4 HB HX10 hy1
       have HRV := n1_
       have HK := n2_
       have BN4 := n3_
       have HB := n4_
       have HX := n5_
       clear n1_ n2_ n3_ n4_ n5_
       have hcn0 : w12.cell? ⟨gn, 0, none⟩ = some (.slice A0 l0.length c0) := (blk_cell BN4.out 0).trans rfl
       have hcn1 : w12.cell? ⟨gn, 1, none⟩ = some (.slice A2 l0.length c2) := (blk_cell BN4.out 1).trans rfl
       have hz1 : i + 1 ≤ 9223372036854775807 := by have := HI2.out; have := HSZ.out; omega
       have hz2 : -9223372036854775808 ≤ i + 1 := by have := HI2.out; omega
       go_wp2_with (first | (go_at_call 34; (with_reducible refine (bounds_calls w _ A0 c0 l0 A2 c2 kids (some ⟨g3, 0, none⟩) c3 (rr.set i.toNat ⟨v, v⟩) HB.out HR0.out HC0.out HSZ.out (Kd.S_mono HK.out (fun _ _ => trivial)) HKO.out HRV.out (by rw [List.length_set]; exact HXL.out.2)).mono ?_); rintro e w13 ⟨rfl, hR, hg⟩; have n0_ := Aside0.mk (grown_below HB.out hg (Kd.R_base HRV.out)); have n1_ := Aside0.mk (Kd.S_mono (Kd.S_grown (Kd.S_apart' HK.out (Kd.R_typed HRV.out) (by decide)) hg (fun _ hk => hk.2)) (fun _ hk => hk.1)); have n2_ := Aside0.mk (blk_grown BN4.out hg (Kd.R_ne HRV.out BN4.out (by decide))); have n3_ := Aside0.mk (Kd.R_mono (Kd.R_grown (Kd.R_apartR HX.out HRV.out (by decide)) hg (fun _ hk => hk.2)) (fun _ hk => hk.1)); have n4_ := Aside0.mk hR; clear HRV HK BN4 HB HX hcn0 hcn1; have HB := n0_; have HK := n1_; have BN4 := n2_; have HX := n3_; have HRV := n4_; clear n0_ n1_ n2_ n3_ n4_; clear hR hg))
       go_roundg (gk - 1)
       case measure => have := HM.out; have := HI2.out; omega
       case rel =>
        refine ⟨n + 1, x.set i.toNat v, (boundsF l0 kids (rr.set i.toNat ⟨v, v⟩)).2, ?_, ⟨by have := HM.out; have := HI2.out; omega⟩, ⟨?_⟩, HX, HRV, HK, BN4, HB⟩
        ·have := HI2.out
         first | (rw [show ((n + 1 : Nat) : Int) = i + 1 from by omega]; done) | (simp; omega)
        ·rw [stateFold_succ, ← HF.out]
         have e1 : i.toNat = n := by have := HI2.out; omega
         have e2 : i = (n : Int) := HI2.out.2.2
         unfold stateStep
         rw [HV.out, e1, e2]
      ·have d2' : decide ((n : Int) < (l0.length : Int)) = false := decide_eq_false (by omega)
       have d2'' : decide (n < l0.length) = false := decide_eq_false hlt
       have HNL := Aside0.mk (show n = l0.length by have := HM.out; omega)
       clear hlt
       go_wp2
       go_ret2
       refine ⟨_, rfl, ?_, HB.out⟩
       have e1 : (stateFold l0 kids b l0.length).1 = x := by rw [← HNL.out, ← HF.out]
       rw [e1]
       exact Kd.R_lower HX.out HN.out
end
section
open Go.Proofs.YtbgchacafglcpaaH
def mkI (v : Int) : S74 := ⟨v, v⟩
def okIn (l1 : List S38) (x : List Int) (i : Nat) : Bool := !decide (rd x i < (rd_T38 l1 i).f0) && !decide ((rd_T38 l1 i).f1 < rd x i)
def lostI (kids : List (List Int)) (x : List Int) (i : Nat) : Int := wrap64 (rd x i - totalF S74.f0 (belowI kids (x.map mkI) i))
def okEq (l0 : List S63) (kids : List (List Int)) (x : List Int) (i : Nat) : Bool := decide ((belowI kids (x.map mkI) i).length = 0) || (!decide (lostI kids x i < 0) && !decide ((rd_T63 l0 i).f2 < lostI kids x i))
def consR (l0 : List S63) (l1 : List S38) (x : List Int) : Bool × Int :=
 match netOk l0 with
 | none => (false, 1)
 | some kids => if belongsB l0.length l1 = true then (if x.length = l0.length then ((List.range l0.length).all (okIn l1 x) && (List.range l0.length).all (okEq l0 kids x), 0) else (false, 1)) else (false, 1)
def flow_Consistent.f (l0 : List S63) (l1 : List S38) (x : List Int) : Option (Bool × Int) := if l0.length ≤ 5864062014805 ∧ l1.length ≤ 140737488355328 ∧ x.length ≤ 17592186044416 then some (consR l0 l1 x) else none
theorem all_false {p : Nat → Bool} {n i : Nat} (hi : i < n) (h : p i = false) : (List.range n).all p = false := by
 rw [List.all_eq_false]
 exact ⟨i, List.mem_range.2 hi, by rw [h]; decide⟩
theorem all_true {p : Nat → Bool} {n : Nat} (h : ∀ i, i < n → p i = true) : (List.range n).all p = true := by
 rw [List.all_eq_true]
 intro i hi
 exact h i (List.mem_range.1 hi)
theorem flow_Consistent.calls (A0 : Option Addr) (c0 : Nat) (l0 : List (S63)) (A1 : Option Addr) (c1 : Nat) (l1 : List (S38)) (A2_ : Option Addr) (c2_ : Nat) (l2 : List Int) (r1 : Bool) (r2 : Int) (w : World) (hr0 : Kd.C k63 w A0 l0.length l0) (hc0 : l0.length ≤ c0) (hr1 : Kd.C k38 w A1 l1.length l1) (hc1 : l1.length ≤ c1) (hr2 : Kd.C (Kd.int .i64) w A2_ l2.length l2) (hc2 : l2.length ≤ c2_) (h : flow_Consistent.f l0 l1 l2 = some (r1, r2)) :
  Calls Try.prog 16 #[.slice A0 l0.length c0, .slice A1 l1.length c1, .slice A2_ l2.length c2_] w fun e w' => e = .returned (.tuple #[.bool r1, .int .i64 r2]) ∧ Below w.heap.size w w' := by
 have hu67 := Try.underlying67
 have hu74 := Try.underlying74
 have hu38 := Try.underlying38
 have hu63 := Try.underlying63
 unfold flow_Consistent.f at h
 by_cases hsz : l0.length ≤ 5864062014805 ∧ l1.length ≤ 140737488355328 ∧ l2.length ≤ 17592186044416
 case neg =>
  rw [if_neg hsz] at h
  cases h
 rw [if_pos hsz] at h
 injection h with h
 have HSZ := Aside0.mk hsz.1
 have HSZ1 := Aside0.mk hsz.2.1
 have HSZ2 := Aside0.mk hsz.2.2
 have HR0 := Aside0.mk hr0
 have HC0 := Aside0.mk hc0
 have HR1 := Aside0.mk hr1
 have HC1 := Aside0.mk hc1
 have HR2 := Aside0.mk hr2
 have HC2 := Aside0.mk hc2
 clear hsz hr0 hc0 hr1 hc1 hr2 hc2
 have HB := Aside0.mk (Below.refl w.heap.size w)
 cases ho : openK l0 with
 | none =>
  have HO := Aside0.mk ho
  have e : consR l0 l1 l2 = (false, 1) := by unfold consR netOk; rw [ho]; split <;> simp_all
  rw [e] at h
  injection h with e1 e2
  subst e1
  subst e2
  clear ho e
  go_enter Try.func16, Try.ntmps16
  go_wp2_with (first | (go_at_call 31; (with_reducible refine (open_none A0 c0 l0 _ HR0.out HC0.out HSZ.out HO.out).mono ?_); rintro e w1 ⟨rfl, hb⟩; have n0_ := Aside0.mk (below_step HB.out hb); clear HB hb; have HB := n0_; clear n0_) | ((with_reducible refine gate_dst (N := 8) rfl ?_); refine box_event ?hg (N := 8) ?hd (cs := #[.slice none 0 0, .slice none 0 0]) (t := 67) ?hr ?_; (case hd => rfl); (case hg => rfl); (case hr => first | (go_simp; done) | (go_simp; rfl)); intro gn hgn w3 hbn hb3; have hcn0 : w3.cell? ⟨gn, 0, none⟩ = some (.slice none 0 0) := (blk_cell hbn 0).trans rfl; have hcn1 : w3.cell? ⟨gn, 1, none⟩ = some (.slice none 0 0) := (blk_cell hbn 1).trans rfl; have hfn0 := blk_frozen hbn 0; have hfn1 := blk_frozen hbn 1; have BN := Aside0.mk hbn; have n0_ := Aside0.mk (below_step HB.out hb3); have GN := Aside0.mk (show w.heap.size ≤ gn by rw [hgn]; exact below_size HB.out); have GE := Aside0.mk hgn; (try have HK := Aside0.mk (Kd.S_below HK.out hb3)); clear HB hbn hb3 hgn; have HB := n0_; clear n0_) | ((with_reducible refine gate_store (t := 67) (p := 8) (v := .tmp 20) rfl ?_); refine store_event rfl (t := 67) (p := 8) (v := .tmp 20) rfl rfl (by first | (go_simp; done) | (go_simp; rfl)) ?_; intro w4 hw4; have BN4 := Aside0.mk (show w4.heap[gn]? = some (.cells #[.slice none 0 0, .slice none 0 0] 67 (0, 0)) by rw [hw4]; exact blk_put (blk_put BN.out 0 _ rfl) 1 _ rfl); have n0_ := Aside0.mk (show Below w.heap.size w w4 by rw [hw4]; exact below_set (below_set HB.out GN.out) GN.out); clear hw4 BN HB hcn0 hcn1 hfn0 hfn1; have HB := n0_; clear n0_; have hcn0 : w4.cell? ⟨gn, 0, none⟩ = some (.slice none 0 0) := (blk_cell BN4.out 0).trans rfl; have hcn1 : w4.cell? ⟨gn, 1, none⟩ = some (.slice none 0 0) := (blk_cell BN4.out 1).trans rfl))
  go_ret2
  exact ⟨rfl, HB.out⟩
 | some kids =>
  have HO := Aside0.mk ho
  by_cases hl : l0.length ≤ 200
  case neg =>
   have e : consR l0 l1 l2 = (false, 1) := by unfold consR netOk; rw [if_neg hl]
   rw [e] at h
   injection h with e1 e2
   subst e1
   subst e2
   have d1 : decide (l0.length ≤ 200) = false := decide_eq_false hl
   clear ho hl e
   go_enter Try.func16, Try.ntmps16
   go_wp2_with (first | (go_at_call 31; (with_reducible refine (open_some A0 c0 l0 _ HR0.out HC0.out HSZ.out HO.out).mono ?_); rintro e w1 ⟨A2, c2, rfl, hS, hb⟩; have n0_ := Aside0.mk (below_step HB.out hb); have HK := Aside0.mk hS; clear HB hb hS; have HB := n0_; clear n0_) | ((with_reducible refine gate_dst (N := 8) rfl ?_); refine box_event ?hg (N := 8) ?hd (cs := #[.slice none 0 0, .slice none 0 0]) (t := 67) ?hr ?_; (case hd => rfl); (case hg => rfl); (case hr => first | (go_simp; done) | (go_simp; rfl)); intro gn hgn w3 hbn hb3; have hcn0 : w3.cell? ⟨gn, 0, none⟩ = some (.slice none 0 0) := (blk_cell hbn 0).trans rfl; have hcn1 : w3.cell? ⟨gn, 1, none⟩ = some (.slice none 0 0) := (blk_cell hbn 1).trans rfl; have hfn0 := blk_frozen hbn 0; have hfn1 := blk_frozen hbn 1; have BN := Aside0.mk hbn; have n0_ := Aside0.mk (below_step HB.out hb3); have GN := Aside0.mk (show w.heap.size ≤ gn by rw [hgn]; exact below_size HB.out); have GE := Aside0.mk hgn; (try have HK := Aside0.mk (Kd.S_below HK.out hb3)); clear HB hbn hb3 hgn; have HB := n0_; clear n0_) | ((with_reducible refine gate_store (t := 67) (p := 8) (v := .tmp 20) rfl ?_); refine store_event rfl (t := 67) (p := 8) (v := .tmp 20) rfl rfl (by first | (go_simp; done) | (go_simp; rfl)) ?_; intro w4 hw4; have BN4 := Aside0.mk (show w4.heap[gn]? = some (.cells #[.slice A0 l0.length c0, .slice A2 l0.length c2] 67 (0, 0)) by rw [hw4]; exact blk_put (blk_put BN.out 0 _ rfl) 1 _ rfl); have n0_ := Aside0.mk (show Below w.heap.size w w4 by rw [hw4]; exact below_set (below_set HB.out GN.out) GN.out); have HK := Aside0.mk (show Kd.S (Kd.slice 3 (Kd.int .i64)) 24 w4 w.heap.size (fun _ => True) (.slice A2 l0.length c2) kids by rw [hw4]; have ht := Kd.S_far (p := ⟨gn, 0, none⟩) (Kd.S_types HK.out BN.out (by decide)) (fun _ hk => hk.2) (.slice A0 l0.length c0); exact Kd.S_mono (Kd.S_far (p := ⟨gn, 1, none⟩) ht (fun _ hk => hk.2) (.slice A2 l0.length c2)) (fun _ hk => hk.1)); clear hw4 BN HB hcn0 hcn1 hfn0 hfn1; have HB := n0_; clear n0_; have hcn0 : w4.cell? ⟨gn, 0, none⟩ = some (.slice A0 l0.length c0) := (blk_cell BN4.out 0).trans rfl; have hcn1 : w4.cell? ⟨gn, 1, none⟩ = some (.slice A2 l0.length c2) := (blk_cell BN4.out 1).trans rfl))
   go_ret2
   exact ⟨rfl, HB.out⟩
  have d1 : decide (l0.length ≤ 200) = true := decide_eq_true hl
  cases hbel : belongsB l0.length l1 with
  | false =>
   have HBEL := Aside0.mk hbel
   have e : consR l0 l1 l2 = (false, 1) := by unfold consR netOk; rw [if_pos hl, ho]; simp [hbel]
   rw [e] at h
   injection h with e1 e2
   subst e1
   subst e2
   clear ho hl hbel e
   go_enter Try.func16, Try.ntmps16
   go_wp2_with (first | (go_at_call 31; (with_reducible refine (open_some A0 c0 l0 _ HR0.out HC0.out HSZ.out HO.out).mono ?_); rintro e w1 ⟨A2, c2, rfl, hS, hb⟩; have n0_ := Aside0.mk (below_step HB.out hb); have HK := Aside0.mk hS; clear HB hb hS; have HB := n0_; clear n0_) | ((with_reducible refine gate_dst (N := 8) rfl ?_); refine box_event ?hg (N := 8) ?hd (cs := #[.slice none 0 0, .slice none 0 0]) (t := 67) ?hr ?_; (case hd => rfl); (case hg => rfl); (case hr => first | (go_simp; done) | (go_simp; rfl)); intro gn hgn w3 hbn hb3; have hcn0 : w3.cell? ⟨gn, 0, none⟩ = some (.slice none 0 0) := (blk_cell hbn 0).trans rfl; have hcn1 : w3.cell? ⟨gn, 1, none⟩ = some (.slice none 0 0) := (blk_cell hbn 1).trans rfl; have hfn0 := blk_frozen hbn 0; have hfn1 := blk_frozen hbn 1; have BN := Aside0.mk hbn; have n0_ := Aside0.mk (below_step HB.out hb3); have GN := Aside0.mk (show w.heap.size ≤ gn by rw [hgn]; exact below_size HB.out); have GE := Aside0.mk hgn; (try have HK := Aside0.mk (Kd.S_below HK.out hb3)); clear HB hbn hb3 hgn; have HB := n0_; clear n0_) | ((with_reducible refine gate_store (t := 67) (p := 8) (v := .tmp 20) rfl ?_); refine store_event rfl (t := 67) (p := 8) (v := .tmp 20) rfl rfl (by first | (go_simp; done) | (go_simp; rfl)) ?_; intro w4 hw4; have BN4 := Aside0.mk (show w4.heap[gn]? = some (.cells #[.slice A0 l0.length c0, .slice A2 l0.length c2] 67 (0, 0)) by rw [hw4]; exact blk_put (blk_put BN.out 0 _ rfl) 1 _ rfl); have n0_ := Aside0.mk (show Below w.heap.size w w4 by rw [hw4]; exact below_set (below_set HB.out GN.out) GN.out); have HK := Aside0.mk (show Kd.S (Kd.slice 3 (Kd.int .i64)) 24 w4 w.heap.size (fun _ => True) (.slice A2 l0.length c2) kids by rw [hw4]; have ht := Kd.S_far (p := ⟨gn, 0, none⟩) (Kd.S_types HK.out BN.out (by decide)) (fun _ hk => hk.2) (.slice A0 l0.length c0); exact Kd.S_mono (Kd.S_far (p := ⟨gn, 1, none⟩) ht (fun _ hk => hk.2) (.slice A2 l0.length c2)) (fun _ hk => hk.1)); clear hw4 BN HB hcn0 hcn1 hfn0 hfn1; have HB := n0_; clear n0_; have hcn0 : w4.cell? ⟨gn, 0, none⟩ = some (.slice A0 l0.length c0) := (blk_cell BN4.out 0).trans rfl; have hcn1 : w4.cell? ⟨gn, 1, none⟩ = some (.slice A2 l0.length c2) := (blk_cell BN4.out 1).trans rfl) | (go_at_call 32; (with_reducible refine (belongs_calls A0 l0.length c0 A2 l0.length c2 A1 c1 l1 _ (Kd.C_below HR1.out HB.out) HC1.out (by have := HSZ1.out; omega) (by have := HSZ.out; omega)).mono ?_); rw [HBEL.out]; rintro e w5 ⟨rfl, hb⟩; have n0_ := Aside0.mk (below_step HB.out hb); have HK := Aside0.mk (Kd.S_below HK.out hb); replace hcn0 := (hb.cell (World.block_lt_of_cell? _ _ hcn0)).trans hcn0; replace hcn1 := (hb.cell (World.block_lt_of_cell? _ _ hcn1)).trans hcn1; have BN4 := Aside0.mk (blk_below BN4.out hb); clear HB hb; have HB := n0_; clear n0_))
   go_ret2
   exact ⟨rfl, HB.out⟩
  | true =>
   have HBEL := Aside0.mk hbel
   have HLL := Aside0.mk (show l1.length = l0.length by unfold belongsB at hbel; simp at hbel; exact hbel.1)
   by_cases hx : l2.length = l0.length
   case neg =>
    have e : consR l0 l1 l2 = (false, 1) := by unfold consR netOk; rw [if_pos hl, ho]; simp only []; rw [if_pos hbel, if_neg hx]
    rw [e] at h
    injection h with e1 e2
    subst e1
    subst e2
    have d2 : ((l2.length : Int) == (l0.length : Int)) = false := beq_eq_false_iff_ne.2 (by omega)
    have d2' : ((l2.length : Int) != (l0.length : Int)) = true := bne_iff_ne.2 (by omega)
    clear ho hl hbel e hx
    go_enter Try.func16, Try.ntmps16
    go_wp2_with (first | (go_at_call 31; (with_reducible refine (open_some A0 c0 l0 _ HR0.out HC0.out HSZ.out HO.out).mono ?_); rintro e w1 ⟨A2, c2, rfl, hS, hb⟩; have n0_ := Aside0.mk (below_step HB.out hb); have HK := Aside0.mk hS; clear HB hb hS; have HB := n0_; clear n0_) | ((with_reducible refine gate_dst (N := 8) rfl ?_); refine box_event ?hg (N := 8) ?hd (cs := #[.slice none 0 0, .slice none 0 0]) (t := 67) ?hr ?_; (case hd => rfl); (case hg => rfl); (case hr => first | (go_simp; done) | (go_simp; rfl)); intro gn hgn w3 hbn hb3; have hcn0 : w3.cell? ⟨gn, 0, none⟩ = some (.slice none 0 0) := (blk_cell hbn 0).trans rfl; have hcn1 : w3.cell? ⟨gn, 1, none⟩ = some (.slice none 0 0) := (blk_cell hbn 1).trans rfl; have hfn0 := blk_frozen hbn 0; have hfn1 := blk_frozen hbn 1; have BN := Aside0.mk hbn; have n0_ := Aside0.mk (below_step HB.out hb3); have GN := Aside0.mk (show w.heap.size ≤ gn by rw [hgn]; exact below_size HB.out); have GE := Aside0.mk hgn; (try have HK := Aside0.mk (Kd.S_below HK.out hb3)); clear HB hbn hb3 hgn; have HB := n0_; clear n0_) | ((with_reducible refine gate_store (t := 67) (p := 8) (v := .tmp 20) rfl ?_); refine store_event rfl (t := 67) (p := 8) (v := .tmp 20) rfl rfl (by first | (go_simp; done) | (go_simp; rfl)) ?_; intro w4 hw4; have BN4 := Aside0.mk (show w4.heap[gn]? = some (.cells #[.slice A0 l0.length c0, .slice A2 l0.length c2] 67 (0, 0)) by rw [hw4]; exact blk_put (blk_put BN.out 0 _ rfl) 1 _ rfl); have n0_ := Aside0.mk (show Below w.heap.size w w4 by rw [hw4]; exact below_set (below_set HB.out GN.out) GN.out); have HK := Aside0.mk (show Kd.S (Kd.slice 3 (Kd.int .i64)) 24 w4 w.heap.size (fun _ => True) (.slice A2 l0.length c2) kids by rw [hw4]; have ht := Kd.S_far (p := ⟨gn, 0, none⟩) (Kd.S_types HK.out BN.out (by decide)) (fun _ hk => hk.2) (.slice A0 l0.length c0); exact Kd.S_mono (Kd.S_far (p := ⟨gn, 1, none⟩) ht (fun _ hk => hk.2) (.slice A2 l0.length c2)) (fun _ hk => hk.1)); clear hw4 BN HB hcn0 hcn1 hfn0 hfn1; have HB := n0_; clear n0_; have hcn0 : w4.cell? ⟨gn, 0, none⟩ = some (.slice A0 l0.length c0) := (blk_cell BN4.out 0).trans rfl; have hcn1 : w4.cell? ⟨gn, 1, none⟩ = some (.slice A2 l0.length c2) := (blk_cell BN4.out 1).trans rfl) | (go_at_call 32; (with_reducible refine (belongs_calls A0 l0.length c0 A2 l0.length c2 A1 c1 l1 _ (Kd.C_below HR1.out HB.out) HC1.out (by have := HSZ1.out; omega) (by have := HSZ.out; omega)).mono ?_); rw [HBEL.out]; rintro e w5 ⟨rfl, hb⟩; have n0_ := Aside0.mk (below_step HB.out hb); have HK := Aside0.mk (Kd.S_below HK.out hb); replace hcn0 := (hb.cell (World.block_lt_of_cell? _ _ hcn0)).trans hcn0; replace hcn1 := (hb.cell (World.block_lt_of_cell? _ _ hcn1)).trans hcn1; have BN4 := Aside0.mk (blk_below BN4.out hb); clear HB hb; have HB := n0_; clear n0_))
    go_ret2
    exact ⟨rfl, HB.out⟩
   have d2 : ((l2.length : Int) == (l0.length : Int)) = true := beq_iff_eq.2 (by omega)
   have d2' : ((l2.length : Int) != (l0.length : Int)) = false := by rw [bne, d2]; rfl
   have HXL := Aside0.mk hx
   have HKO := Aside0.mk (openK_ok ho)
   obtain ⟨R, hR⟩ : ∃ R, R = consR l0 l1 l2 := ⟨_, rfl⟩
   have e : consR l0 l1 l2 = ((List.range l0.length).all (okIn l1 l2) && (List.range l0.length).all (okEq l0 kids l2), 0) := by unfold consR netOk; rw [if_pos hl, ho]; simp only []; rw [if_pos hbel, if_pos hx]
   rw [e] at h
   injection h with e1 e2
   subst e2
   have HE1 := Aside0.mk e1
   clear ho hl hbel e hx e1 hR
   go_enter Try.func16, Try.ntmps16
   go_wp2_with (first | (go_at_call 31; (with_reducible refine (open_some A0 c0 l0 _ HR0.out HC0.out HSZ.out HO.out).mono ?_); rintro e w1 ⟨A2, c2, rfl, hS, hb⟩; have n0_ := Aside0.mk (below_step HB.out hb); have HK := Aside0.mk hS; clear HB hb hS; have HB := n0_; clear n0_) | ((with_reducible refine gate_dst (N := 8) rfl ?_); refine box_event ?hg (N := 8) ?hd (cs := #[.slice none 0 0, .slice none 0 0]) (t := 67) ?hr ?_; (case hd => rfl); (case hg => rfl); (case hr => first | (go_simp; done) | (go_simp; rfl)); intro gn hgn w3 hbn hb3; have hcn0 : w3.cell? ⟨gn, 0, none⟩ = some (.slice none 0 0) := (blk_cell hbn 0).trans rfl; have hcn1 : w3.cell? ⟨gn, 1, none⟩ = some (.slice none 0 0) := (blk_cell hbn 1).trans rfl; have hfn0 := blk_frozen hbn 0; have hfn1 := blk_frozen hbn 1; have BN := Aside0.mk hbn; have n0_ := Aside0.mk (below_step HB.out hb3); have GN := Aside0.mk (show w.heap.size ≤ gn by rw [hgn]; exact below_size HB.out); have GE := Aside0.mk hgn; (try have HK := Aside0.mk (Kd.S_below HK.out hb3)); clear HB hbn hb3 hgn; have HB := n0_; clear n0_) | ((with_reducible refine gate_store (t := 67) (p := 8) (v := .tmp 20) rfl ?_); refine store_event rfl (t := 67) (p := 8) (v := .tmp 20) rfl rfl (by first | (go_simp; done) | (go_simp; rfl)) ?_; intro w4 hw4; have BN4 := Aside0.mk (show w4.heap[gn]? = some (.cells #[.slice A0 l0.length c0, .slice A2 l0.length c2] 67 (0, 0)) by rw [hw4]; exact blk_put (blk_put BN.out 0 _ rfl) 1 _ rfl); have n0_ := Aside0.mk (show Below w.heap.size w w4 by rw [hw4]; exact below_set (below_set HB.out GN.out) GN.out); have HK := Aside0.mk (show Kd.S (Kd.slice 3 (Kd.int .i64)) 24 w4 w.heap.size (fun _ => True) (.slice A2 l0.length c2) kids by rw [hw4]; have ht := Kd.S_far (p := ⟨gn, 0, none⟩) (Kd.S_types HK.out BN.out (by decide)) (fun _ hk => hk.2) (.slice A0 l0.length c0); exact Kd.S_mono (Kd.S_far (p := ⟨gn, 1, none⟩) ht (fun _ hk => hk.2) (.slice A2 l0.length c2)) (fun _ hk => hk.1)); clear hw4 BN HB hcn0 hcn1 hfn0 hfn1; have HB := n0_; clear n0_; have hcn0 : w4.cell? ⟨gn, 0, none⟩ = some (.slice A0 l0.length c0) := (blk_cell BN4.out 0).trans rfl; have hcn1 : w4.cell? ⟨gn, 1, none⟩ = some (.slice A2 l0.length c2) := (blk_cell BN4.out 1).trans rfl) | (go_at_call 32; (with_reducible refine (belongs_calls A0 l0.length c0 A2 l0.length c2 A1 c1 l1 _ (Kd.C_below HR1.out HB.out) HC1.out (by have := HSZ1.out; omega) (by have := HSZ.out; omega)).mono ?_); rw [HBEL.out]; rintro e w5 ⟨rfl, hb⟩; have n0_ := Aside0.mk (below_step HB.out hb); have HK := Aside0.mk (Kd.S_below HK.out hb); replace hcn0 := (hb.cell (World.block_lt_of_cell? _ _ hcn0)).trans hcn0; replace hcn1 := (hb.cell (World.block_lt_of_cell? _ _ hcn1)).trans hcn1; have BN4 := Aside0.mk (blk_below BN4.out hb); clear HB hb; have HB := n0_; clear n0_) | ((with_reducible refine gate_dst (N := 39) rfl ?_); refine Kd.R_make k74 _ 74 rfl (N := 39) rfl 71 _ _ rfl (l2.length : Int) rfl rfl Try.underlying71 (.agg #[(.int .i64 0), (.int .i64 0)]) 16 info74 rfl (by decide) (by omega) z74 (ok := fun _ => True) (okp := fun _ => True) (k74_mkM _ _ _ z74) (fun _ hk => hk) trivial (by omega) (by have := HSZ.out; have := HXL.out; omega) (Below.refl _ _) (Nat.le_refl _) ?_; intro v1 w8 ho hb hg_ hnew_; have n0_ := Aside0.mk (below_step HB.out hb); have HRV := Aside0.mk (Kd.R_lower ho (below_size HB.out)); have HK := Aside0.mk (Kd.S_below HK.out hb); have BN4 := Aside0.mk (blk_below BN4.out hb); clear HB hb ho hg_ hnew_ hcn0 hcn1; have HB := n0_; clear n0_))
   obtain ⟨A3, c3, e3⟩ := Kd.R_slice HRV.out
   subst e3
   have hrv := HRV.out
   clear HRV
   rw [List.length_replicate, Int.toNat_natCast, HXL.out] at hrv ⊢
   have HRV := Aside0.mk hrv
   clear hrv
   go_loopg [42] l0.length (fun kq v42 wr => ∃ (n : Nat) (y : List S74), v42 = .int .i64 n ∧ Aside0 (kq + n = l0.length) ∧ Aside0 (y = (List.range n).foldl (fun y (j : Nat) => y.set j (mkI (rd l2 j))) (List.replicate l0.length z74)) ∧ Aside0 (∀ j, j < n → okIn l1 l2 j = true) ∧ Aside0 (Kd.R k74 74 wr w.heap.size (fun _ => True) (.slice A3 l0.length c3) y)
    ∧ Aside0 (Kd.S (Kd.slice 3 (Kd.int .i64)) 24 wr w.heap.size (fun _ => True) (.slice A2 l0.length c2) kids) ∧ Aside0 (wr.heap[gn]? = some (.cells #[.slice A0 l0.length c0, .slice A2 l0.length c2] 67 (0, 0))) ∧ Aside0 (Below w.heap.size w wr))
   case atStart => exact ⟨0, _, rfl, ⟨by omega⟩, ⟨rfl⟩, ⟨fun j hj => absurd hj (Nat.not_lt_zero _)⟩, HRV, HK, BN4, HB⟩
   case round =>
    clear HRV HB BN4 HK
    obtain ⟨n, y, rfl, HM, HY, HOK, HRV, HK, BN4, HB⟩ := hrel
    have HYL := Aside0.mk (show y.length = l0.length by rw [HY.out, fold_len, List.length_replicate])
    by_cases hlt : n < l0.length
    ·obtain ⟨i, hi⟩ : ∃ i : Int, i = (n : Int) := ⟨_, rfl⟩
     rw [← hi]
     have HI2 := Aside0.mk (show 0 ≤ i ∧ i < l0.length ∧ i = (n : Int) from ⟨by omega, by omega, hi⟩)
     have q2' : decide (i < (l0.length : Int)) = true := decide_eq_true HI2.out.2.1
     have ci2 : (0 ≤ i) = True := eq_true HI2.out.1
     have ci3 : (i < l0.length) = True := eq_true HI2.out.2.1
     have ci4 : (i < l1.length) = True := eq_true (by have := HI2.out; have := HLL.out; omega)
     obtain ⟨adx, ex, hxx⟩ := Kd.at_int (Kd.C_below HR2.out HB.out) i HI2.out.1 (by have := HI2.out; have := HXL.out; omega)
     subst ex
     obtain ⟨adr, er, hrr0, hrr1⟩ := at_T38 (Kd.C_below HR1.out HB.out) i HI2.out.1 (by have := HI2.out; have := HLL.out; omega)
     subst er
     obtain ⟨v, hv⟩ : ∃ v, v = rd l2 i := ⟨_, rfl⟩
     rw [← hv] at hxx
     have HV := Aside0.mk hv
     have HOKI : okIn l1 l2 n = (!decide (v < (rd_T38 l1 i).f0) && !decide ((rd_T38 l1 i).f1 < v)) := by unfold okIn; rw [hv, HI2.out.2.2]
     have HO2 := Aside0.mk HOKI
     clear hi hv HOKI
     by_cases ht1 : v < (rd_T38 l1 i).f0
     ·have t1 : decide (v < (rd_T38 l1 i).f0) = true := decide_eq_true ht1
      have HF := Aside0.mk (show r1 = false by rw [← HE1.out, all_false (show n < l0.length from hlt) (show okIn l1 l2 n = false by rw [HO2.out, t1]; rfl)]; rfl)
      clear ht1 hlt
      go_wp2
      go_ret2
      exact ⟨by rw [HF.out]; rfl, HB.out⟩
     have t1 : decide (v < (rd_T38 l1 i).f0) = false := decide_eq_false ht1
     by_cases ht2 : (rd_T38 l1 i).f1 < v
     ·have t2 : decide ((rd_T38 l1 i).f1 < v) = true := decide_eq_true ht2
      have HF := Aside0.mk (show r1 = false by rw [← HE1.out, all_false (show n < l0.length from hlt) (show okIn l1 l2 n = false by rw [HO2.out, t1, t2]; rfl)]; rfl)
      clear ht1 ht2 hlt
      go_wp2
      go_ret2
      exact ⟨by rw [HF.out]; rfl, HB.out⟩
     have t2 : decide ((rd_T38 l1 i).f1 < v) = false := decide_eq_false ht2
     have HNX := Aside0.mk (show okIn l1 l2 n = true by rw [HO2.out, t1, t2]; rfl)
     obtain ⟨go, cgo, eo, gob, gol, ogl, hogl⟩ := Kd.R_form HRV.out (by have := HI2.out; have := HYL.out; omega)
     injection eo with ea en ec
     subst ea
     subst ec
     have HGB := Aside0.mk gob
     have HGO := Aside0.mk hogl
     have HE := Aside0.mk (iv_elem HRV.out i HI2.out.1 HI2.out.2.1)
     have hxz0 := HE.out.1.1
     have hxz1 := HE.out.1.2
     have hfz0 := HE.out.2.1.1
     have hfz1 := HE.out.2.1.2
     clear ht1 ht2 hlt en gob gol hogl
     have hz1 : i + 1 ≤ 9223372036854775807 := by have := HI2.out; have := HSZ.out; omega
     have hz2 : -9223372036854775808 ≤ i + 1 := by have := HI2.out; omega
     go_wp2
     have hP := HE.out.2.2 (mkI v)
     go_roundg (gk - 1)
     case measure => have := HM.out; have := HI2.out; omega
     case rel =>
      refine ⟨n + 1, _, ?_, ⟨by have := HM.out; have := HI2.out; omega⟩, ⟨?_⟩, ⟨fun j hj => ?_⟩, ⟨hP.1⟩, ⟨Kd.S_mono (Kd.S_grown (Kd.S_types HK.out HGO.out (by decide)) hP.2 (fun k hk e => hk.2 (by cases e; rfl))) (fun _ hk => hk.1)⟩, ⟨blk_grown BN4.out hP.2 (by have := blk_ne BN4.out HGO.out (by decide); simpa using this)⟩, ⟨below_set (below_set HB.out HGB.out) HGB.out⟩⟩
      ·have := HI2.out
       first | (rw [show ((n + 1 : Nat) : Int) = i + 1 from by omega]; done) | (simp; omega)
      ·rw [foldl_range_succ, ← HY.out, ← HI2.out.2.2, ← HV.out, show i.toNat = n by have := HI2.out; omega]
      ·by_cases hj' : j < n
       ·exact HOK.out j hj'
       ·rw [show j = n by omega]
        exact HNX.out
    ·have q2' : decide ((n : Int) < (l0.length : Int)) = false := decide_eq_false (by omega)
     have q2'' : decide (n < l0.length) = false := decide_eq_false hlt
     have HNL := Aside0.mk (show n = l0.length by have := HM.out; omega)
     clear hlt
     have HYX := Aside0.mk (show y = l2.map mkI by
      rw [HY.out, HNL.out, fold_set _ _ _ (by simp), List.drop_of_length_le (by simp), List.append_nil, ← HXL.out]
      exact fold_map (0 : Int) mkI l2)
     have HALL := Aside0.mk (show (List.range l0.length).all (okIn l1 l2) = true from all_true (fun i hi => HOK.out i (by have := HNL.out; omega)))
     have HE2 := Aside0.mk (show (List.range l0.length).all (okEq l0 kids l2) = r1 by have := HE1.out; rw [HALL.out] at this; exact this)
     clear HOK HE1 HALL HM HY
     have hyx := HYX.out
     subst hyx
     clear HYX
     go_wp2
     go_loopg [72] l0.length (fun kq v72 wr => ∃ (n : Nat), v72 = .int .i64 n ∧ Aside0 (kq + n = l0.length) ∧ Aside0 (∀ j, j < n → okEq l0 kids l2 j = true) ∧ Aside0 (Kd.R k74 74 wr w.heap.size (fun _ => True) (.slice A3 l0.length c3) (l2.map mkI))
      ∧ Aside0 (Kd.S (Kd.slice 3 (Kd.int .i64)) 24 wr w.heap.size (fun _ => True) (.slice A2 l0.length c2) kids) ∧ Aside0 (wr.heap[gn]? = some (.cells #[.slice A0 l0.length c0, .slice A2 l0.length c2] 67 (0, 0))) ∧ Aside0 (Below w.heap.size w wr))
     case atStart => exact ⟨0, rfl, ⟨by omega⟩, ⟨fun j hj => absurd hj (Nat.not_lt_zero _)⟩, HRV, HK, BN4, HB⟩
     case round =>
      clear HRV HB BN4 HK
      obtain ⟨n, rfl, HM, HOK, HRV, HK, BN4, HB⟩ := hrel
      by_cases hlt : n < l0.length
      ·obtain ⟨i, hi⟩ : ∃ i : Int, i = (n : Int) := ⟨_, rfl⟩
       rw [← hi]
       have HI2 := Aside0.mk (show 0 ≤ i ∧ i < l0.length ∧ i = (n : Int) ∧ n < l0.length from ⟨by omega, by omega, hi, hlt⟩)
       have q2' : decide (i < (l0.length : Int)) = true := decide_eq_true HI2.out.2.1
       have ci2 : (0 ≤ i) = True := eq_true HI2.out.1
       have ci3 : (i < l0.length) = True := eq_true HI2.out.2.1
       obtain ⟨adp, ep, hp0, hp1, hp2⟩ := at_T63 (Kd.C_below HR0.out HB.out) i HI2.out.1 HI2.out.2.1
       subst ep
       clear hi hlt
       go_upto_region 15 with (first | ((with_reducible refine gate_dst (N := 14) rfl ?_); refine box_event ?hg (N := 14) ?hd (cs := #[.int .i64 0, .int .i64 0, .int .i64 0]) (t := 63) ?hr ?_; (case hd => rfl); (case hg => rfl); (case hr => first | (go_simp; done) | (go_simp; rfl)); intro gp hgp w9 hbp hb; have hcp0 : w9.cell? ⟨gp, 0, none⟩ = some (.int .i64 0) := (blk_cell hbp 0).trans rfl; have hcp1 : w9.cell? ⟨gp, 1, none⟩ = some (.int .i64 0) := (blk_cell hbp 1).trans rfl; have hcp2 : w9.cell? ⟨gp, 2, none⟩ = some (.int .i64 0) := (blk_cell hbp 2).trans rfl; have hfp0 := blk_frozen hbp 0; have hfp1 := blk_frozen hbp 1; have hfp2 := blk_frozen hbp 2; have BP := Aside0.mk hbp; have HB9 := Aside0.mk hb; have GP := Aside0.mk hgp; clear hbp hb hgp))
       obtain ⟨w10, hw10⟩ : ∃ w10, w10 = ((w9.setCell ⟨gp, 0, none⟩ (.int .i64 (rd_T63 l0 i).f0)).setCell ⟨gp, 1, none⟩ (.int .i64 (rd_T63 l0 i).f1)).setCell ⟨gp, 2, none⟩ (.int .i64 (rd_T63 l0 i).f2) := ⟨_, rfl⟩
       rw [← hw10]
       have BP10 := Aside0.mk (show w10.heap[gp]? = some (.cells #[.int .i64 (rd_T63 l0 i).f0, .int .i64 (rd_T63 l0 i).f1, .int .i64 (rd_T63 l0 i).f2] 63 (0, 0)) by rw [hw10]; exact blk_put3 BP.out _ _ _)
       have HB10 := Aside0.mk (below_new3 GP.out HB9.out hw10)
       clear hw10 hcp0 hcp1 hcp2 hfp0 hfp1 hfp2 hp0 hp1 hp2
       have HBW := Aside0.mk (below_step HB.out HB10.out)
       have hcn0 : w10.cell? ⟨gn, 0, none⟩ = some (.slice (some adp) l0.length c0) := (blk_cell (blk_below BN4.out HB10.out) 0).trans rfl
       have hcn1 : w10.cell? ⟨gn, 1, none⟩ = some (.slice A2 l0.length c2) := (blk_cell (blk_below BN4.out HB10.out) 1).trans rfl
       have hlo : w10.cell? ⟨gp, 2, none⟩ = some (.int .i64 (rd_T63 l0 i).f2) := (blk_cell BP10.out 2).trans rfl
       have hSr := Kd.S_reads' (Kd.S_below HK.out HB10.out)
       have hRr := Kd.R_reads' (Kd.R_below HRV.out HB10.out)
       obtain ⟨bl, hbl⟩ : ∃ bl, bl = belowI kids (l2.map mkI) i := ⟨_, rfl⟩
       have HCALL := Aside0.mk (below_calls (some adp) l0.length c0 l0 A2 l0.length c2 kids A3 l0.length c3 (l2.map mkI) i w10 rfl hSr.1 hRr.1 (Kd.C_below HR0.out HBW.out) HC0.out hSr.2.2 (hSr.1 ▸ hSr.2.1) hRr.2.2 (hRr.1 ▸ hRr.2.1) HI2.out.1 (hSr.1 ▸ HI2.out.2.1) (hRr.1.symm.trans hSr.1) (hSr.1 ▸ HKO.out) (hSr.1 ▸ HSZ.out))
       rw [← hbl] at HCALL
       have HBLN := Aside0.mk (show bl.length ≤ 140737488355328 by rw [hbl]; unfold belowI; rw [List.length_map]; have := (HKO.out.2 i).1; have := HSZ.out; omega)
       have HBL := Aside0.mk (show belowI kids (l2.map mkI) ((n : Nat) : Int) = bl by rw [hbl, HI2.out.2.2.1])
       clear hSr hRr hbl
       have hz1 : i + 1 ≤ 9223372036854775807 := by have := HI2.out; have := HSZ.out; omega
       have hz2 : -9223372036854775808 ≤ i + 1 := by have := HI2.out; omega
       by_cases hz : 0 < bl.length
       ·have z1 : decide (0 < (bl.length : Int)) = true := decide_eq_true (by omega)
        have z2 : decide (0 < bl.length) = true := decide_eq_true hz
        have HZ := Aside0.mk hz
        clear hz
        go_wp2_with (first | (go_at_call 37; (with_reducible refine HCALL.out.mono ?_); rintro e w11 ⟨Ab, cb, rfl, hRb, hb⟩; have HRB := Aside0.mk (Kd.R_reads' hRb).2; have HB11 := Aside0.mk hb; replace hcn0 := (hb.cell (World.block_lt_of_cell? _ _ hcn0)).trans hcn0; replace hcn1 := (hb.cell (World.block_lt_of_cell? _ _ hcn1)).trans hcn1; replace hlo := (hb.cell (World.block_lt_of_cell? _ _ hlo)).trans hlo; clear hRb hb))
        obtain ⟨adx, ex, hxx⟩ := Kd.at_int (Kd.C_below HR2.out ((below_step HBW.out HB11.out).drew)) i HI2.out.1 (by have := HI2.out; have := HXL.out; omega)
        subst ex
        obtain ⟨v, hv⟩ : ∃ v, v = rd l2 i := ⟨_, rfl⟩
        rw [← hv] at hxx
        have HV := Aside0.mk hv
        clear hv
        refine start_ (n := 8) (S := fun w' => w'.cell? (adx.add i.toNat) = some (.int .i64 v)) (ds := []) #[n_, n_, n_, n_, n_, n_, n_, n_] (by kernel_rfl) rfl rfl (hxx) (fun hHeld => ?_)
        refine pv_ 0 84 (w_ 8 1) rfl ?_
        refine pv_ 1 85 (w_ 8 3) rfl ?_
        refine pv_ 2 86 (w_ 8 7) rfl ?_
        refine pv_ 4 88 (w_ 8 23) rfl ?_
        refine take_ (i := 3) (N := some 87) (v := ?_) (a' := ?_) #[y_, y_, y_, y_, y_, n_, n_, n_] rfl rfl (by kernel_rfl) (fun _ _ _ h => h) (Or.inl ⟨by rfl, ?_⟩) hHeld ?_ ?_
        rotate_left
        ·intro w' s0
         go_simp
         with_reducible rfl
        rotate_left
        ·simp only [Act.put, sI_, s0_, sS_, i64_w, i32_w]
         rfl
        refine one_ (i := 5) (N := some 89) (w_ 8 63) rfl rfl (by kernel_rfl) (by decide) (fun K hK => ?_)
        refine goes_ Try.func38 (by kernel_rfl) rfl #[.slice Ab bl.length cb, .func (.func 39) #[] #[]] (by rfl) rfl rfl (by simp only [List.map_toArray, List.map_cons, List.map_nil]; rfl) ?_
        with_reducible refine (flow_total_low Ab cb bl _ (Kd.C_below HRB.out.2 (below_drew (Below.refl _ _))) HRB.out.1 HBLN.out).mono ?_
        rintro e w12 ⟨rfl, hb⟩
        refine ⟨_, rfl, ?_⟩
        have HB12 := Aside0.mk (below_step (below_drew HB11.out) hb)
        have HBX := Aside0.mk (below_step (below_drew (Below.refl _ _)) hb)
        refine hK.out _ _ ((hb.cell (World.block_lt_of_cell? _ _ hHeld)).trans hHeld) (fun hHeld => ?_)
        clear hK K
        refine norm_ (a' := ?_) ?_ ?_
        rotate_left
        ·show Act.put _ (some 89) _ = _
         simp only [Act.put, sI_, s0_, sS_, i64_w, i32_w]
         rfl
        refine pv_ 6 90 (w_ 8 127) rfl ?_
        refine pv_ 7 16 (w_ 8 255) rfl ?_
        refine done_ (by kernel_rfl) ?_
        obtain ⟨lost, hlost⟩ : ∃ lost, lost = wrap64 (v - totalF S74.f0 bl) := ⟨_, rfl⟩
        rw [← hlost]
        have HLOST := Aside0.mk (show lostI kids l2 n = lost by unfold lostI; rw [HBL.out, hlost, HV.out, HI2.out.2.2.1])
        replace hlo := (HBX.out.cell (World.block_lt_of_cell? _ _ hlo)).trans hlo
        have HOKI := Aside0.mk (show okEq l0 kids l2 n = (!decide (lost < 0) && !decide ((rd_T63 l0 i).f2 < lost)) by unfold okEq; rw [HBL.out, HLOST.out, decide_eq_false (show ¬ bl.length = 0 from by have := HZ.out; omega), Bool.false_or, HI2.out.2.2.1])
        clear hlost
        by_cases ht1 : lost < 0
        ·have t1 : decide (lost < 0) = true := decide_eq_true ht1
         have HF := Aside0.mk (show r1 = false by rw [← HE2.out]; exact all_false HI2.out.2.2.2 (by rw [HOKI.out, t1]; rfl))
         clear ht1
         go_wp2
         go_ret2
         exact ⟨by rw [HF.out]; rfl, below_step HBW.out HB12.out⟩
        have t1 : decide (lost < 0) = false := decide_eq_false ht1
        by_cases ht2 : (rd_T63 l0 i).f2 < lost
        ·have t2 : decide ((rd_T63 l0 i).f2 < lost) = true := decide_eq_true ht2
         have HF := Aside0.mk (show r1 = false by rw [← HE2.out]; exact all_false HI2.out.2.2.2 (by rw [HOKI.out, t1, t2]; rfl))
         clear ht1 ht2
         go_wp2
         go_ret2
         exact ⟨by rw [HF.out]; rfl, below_step HBW.out HB12.out⟩
        have t2 : decide ((rd_T63 l0 i).f2 < lost) = false := decide_eq_false ht2
        have HNX := Aside0.mk (show okEq l0 kids l2 n = true by rw [HOKI.out, t1, t2]; rfl)
        have HBA := Aside0.mk (below_step HB10.out HB12.out)
        clear ht1 ht2
        go_wp2
        go_roundg (gk - 1)
        case measure => have := HM.out; have := HI2.out; omega
        case rel =>
         refine ⟨n + 1, ?_, ⟨by have := HM.out; have := HI2.out; omega⟩, ⟨fun j hj => ?_⟩, ⟨Kd.R_below HRV.out HBA.out⟩, ⟨Kd.S_below HK.out HBA.out⟩, ⟨blk_below BN4.out HBA.out⟩, ⟨below_step HB.out HBA.out⟩⟩
         ·have := HI2.out
          first | (rw [show ((n + 1 : Nat) : Int) = i + 1 from by omega]; done) | (simp; omega)
         ·by_cases hj' : j < n
          ·exact HOK.out j hj'
          ·rw [show j = n by omega]
           exact HNX.out
       ·have z1 : decide (0 < (bl.length : Int)) = false := decide_eq_false (by omega)
        have z2 : decide (0 < bl.length) = false := decide_eq_false hz
        have HNX := Aside0.mk (show okEq l0 kids l2 n = true by unfold okEq; rw [HBL.out, decide_eq_true (show bl.length = 0 by omega), Bool.true_or])
        clear hz
        go_wp2_with (first | (go_at_call 37; (with_reducible refine HCALL.out.mono ?_); rintro e w11 ⟨Ab, cb, rfl, hRb, hb⟩; have HRB := Aside0.mk (Kd.R_reads' hRb).2; have HB11 := Aside0.mk hb; replace hcn0 := (hb.cell (World.block_lt_of_cell? _ _ hcn0)).trans hcn0; replace hcn1 := (hb.cell (World.block_lt_of_cell? _ _ hcn1)).trans hcn1; replace hlo := (hb.cell (World.block_lt_of_cell? _ _ hlo)).trans hlo; clear hRb hb))
        have HBA := Aside0.mk (below_step HB10.out HB11.out)
        go_roundg (gk - 1)
        case measure => have := HM.out; have := HI2.out; omega
        case rel =>
         refine ⟨n + 1, ?_, ⟨by have := HM.out; have := HI2.out; omega⟩, ⟨fun j hj => ?_⟩, ⟨Kd.R_below HRV.out HBA.out⟩, ⟨Kd.S_below HK.out HBA.out⟩, ⟨blk_below BN4.out HBA.out⟩, ⟨below_step HB.out HBA.out⟩⟩
         ·have := HI2.out
          first | (rw [show ((n + 1 : Nat) : Int) = i + 1 from by omega]; done) | (simp; omega)
         ·by_cases hj' : j < n
          ·exact HOK.out j hj'
          ·rw [show j = n by omega]
           exact HNX.out
      ·have q2' : decide ((n : Int) < (l0.length : Int)) = false := decide_eq_false (by omega)
       have q2'' : decide (n < l0.length) = false := decide_eq_false hlt
       have HF := Aside0.mk (show r1 = true by rw [← HE2.out]; exact all_true (fun j hj => HOK.out j (by have := HM.out; omega)))
       clear hlt
       go_wp2
       go_ret2
       exact ⟨by rw [HF.out]; rfl, HB.out⟩
end
end Go.Proofs.Ytbgchacafglcpaa.P
end
section
namespace Go.Proofs.FlowTree
def sm (f : Nat → Int) (ks : List Nat) : Int := (ks.map f).foldl (· + ·) 0
theorem foldl_add (l : List Int) : ∀ a : Int, l.foldl (· + ·) a = a + l.foldl (· + ·) 0 := by
 induction l with
 | nil => intro a; simp
 | cons x l ih => intro a; rw [List.foldl_cons, List.foldl_cons, ih (a + x), ih (0 + x)]; omega
theorem sm_nil (f : Nat → Int) : sm f [] = 0 := rfl
theorem sm_cons (f : Nat → Int) (k : Nat) (ks : List Nat) : sm f (k :: ks) = f k + sm f ks := by
 unfold sm
 rw [List.map_cons, List.foldl_cons, foldl_add]; omega
theorem sm_congr {f g : Nat → Int} {ks : List Nat} (h : ∀ k ∈ ks, f k = g k) : sm f ks = sm g ks := by
 induction ks with
 | nil => rfl
 | cons k ks ih => rw [sm_cons, sm_cons, h k (by simp), ih (fun j hj => h j (by simp [hj]))]
theorem sm_le {f g : Nat → Int} {ks : List Nat} (h : ∀ k ∈ ks, f k ≤ g k) : sm f ks ≤ sm g ks := by
 induction ks with
 | nil => exact Int.le_refl _
 | cons k ks ih => rw [sm_cons, sm_cons]; have := h k (by simp); have := ih (fun j hj => h j (by simp [hj])); omega
theorem sm_bound {f : Nat → Int} {ks : List Nat} {a b : Int} (h : ∀ k ∈ ks, a ≤ f k ∧ f k ≤ b) : a * ks.length ≤ sm f ks ∧ sm f ks ≤ b * ks.length := by
 induction ks with
 | nil => simp [sm_nil]
 | cons k ks ih =>
  rw [sm_cons]
  have h1 := h k (by simp)
  have h2 := ih (fun j hj => h j (by simp [hj]))
  simp only [List.length_cons, Int.natCast_add, Int.natCast_one, Int.mul_add, Int.mul_one]
  omega
theorem sm_nonneg {f : Nat → Int} {ks : List Nat} (h : ∀ k ∈ ks, 0 ≤ f k) : 0 ≤ sm f ks := by
 induction ks with
 | nil => exact Int.le_refl _
 | cons k ks ih => rw [sm_cons]; have := h k (by simp); have := ih (fun j hj => h j (by simp [hj])); omega
theorem sm_append (f : Nat → Int) (a b : List Nat) : sm f (a ++ b) = sm f a + sm f b := by
 induction a with
 | nil => simp [sm_nil]
 | cons x a ih => rw [List.cons_append, sm_cons, sm_cons, ih]; omega
theorem sm_split (f : Nat → Int) {ks : List Nat} {k : Nat} (hk : k ∈ ks) : ∃ a b, ks = a ++ k :: b ∧ sm f ks = f k + sm f (a ++ b) := by
 obtain ⟨a, b, rfl⟩ := List.append_of_mem hk
 exact ⟨a, b, rfl, by rw [sm_append, sm_append, sm_cons]; omega⟩
theorem fill (lo hi : Nat → Int) (ks : List Nat) (hn : ks.Nodup) (h : ∀ k ∈ ks, lo k ≤ hi k) : ∀ s, sm lo ks ≤ s → s ≤ sm hi ks → ∃ c : Nat → Int, (∀ k ∈ ks, lo k ≤ c k ∧ c k ≤ hi k) ∧ sm c ks = s := by
 induction ks with
 | nil => intro s h1 h2; exact ⟨fun _ => 0, (fun k hk => by cases hk), (by rw [sm_nil] at *; omega)⟩
 | cons k ks ih =>
  intro s h1 h2
  rw [sm_cons] at h1 h2
  have hk := h k (by simp)
  have hle := sm_le (fun j hj => h j (List.mem_cons_of_mem _ hj))
  rw [List.nodup_cons] at hn
  have key : ∃ v, lo k ≤ v ∧ v ≤ hi k ∧ sm lo ks ≤ s - v ∧ s - v ≤ sm hi ks := by
   by_cases hc : s - lo k ≤ sm hi ks
   ·exact ⟨lo k, by omega, by omega, by omega, by omega⟩
   ·exact ⟨s - sm hi ks, by omega, by omega, by omega, by omega⟩
  obtain ⟨v, hv1, hv2, hv3, hv4⟩ := key
  obtain ⟨c, hc, hs⟩ := ih hn.2 (fun j hj => h j (List.mem_cons_of_mem _ hj)) (s - v) hv3 hv4
  refine ⟨fun j => if j = k then v else c j, ?_, ?_⟩
  ·intro j hj
   rcases List.mem_cons.1 hj with rfl | hj
   ·simp only [if_true]; exact ⟨hv1, hv2⟩
   ·have : j ≠ k := fun e => hn.1 (e ▸ hj)
    simp only [this, if_false]; exact hc j hj
  ·rw [sm_cons]
   simp only [if_true]
   rw [sm_congr (g := c) (fun j hj => by have : j ≠ k := fun e => hn.1 (e ▸ hj); simp [this]), hs]; omega
structure Net where
 n : Nat
 kid : Nat → List Nat
 loss : Nat → Int
structure Net.Ok (T : Net) : Prop where
 lt : ∀ i k, k ∈ T.kid i → i < k ∧ k < T.n
 nodup : ∀ i, (T.kid i).Nodup
 one : ∀ i j k, k ∈ T.kid i → k ∈ T.kid j → i = j
 loss0 : ∀ i, i < T.n → 0 ≤ T.loss i
def Net.eq (T : Net) (x : Nat → Int) (i : Nat) : Prop := T.kid i ≠ [] → 0 ≤ x i - sm x (T.kid i) ∧ x i - sm x (T.kid i) ≤ T.loss i
def Sol (T : Net) (lo hi : Nat → Int) (x : Nat → Int) : Prop := (∀ i, i < T.n → lo i ≤ x i ∧ x i ≤ hi i) ∧ ∀ i, i < T.n → T.eq x i
theorem eq_congr {T : Net} {x y : Nat → Int} {i : Nat} (h0 : x i = y i) (h : ∀ k ∈ T.kid i, x k = y k) (hx : T.eq x i) : T.eq y i := by
 intro hk
 have := hx hk
 rw [sm_congr h, h0] at this
 exact this
theorem extend (T : Net) (hT : T.Ok) (lo hi : Nat → Int) (hne : ∀ i, i < T.n → lo i ≤ hi i) (hup : ∀ i, i < T.n → T.kid i ≠ [] → sm lo (T.kid i) ≤ lo i ∧ hi i ≤ sm hi (T.kid i) + T.loss i) :
  ∀ (d m : Nat), m + d = T.n → ∀ x : Nat → Int, (∀ i, i < T.n → lo i ≤ x i ∧ x i ≤ hi i) → (∀ i, i < m → T.eq x i) →
   ∃ y, Sol T lo hi y ∧ ∀ j, (∀ i, m ≤ i → j ∉ T.kid i) → y j = x j := by
 intro d
 induction d with
 | zero =>
  intro m hm x hx he
  exact ⟨x, ⟨hx, fun i hi => he i (by omega)⟩, fun _ _ => rfl⟩
 | succ d ih =>
  intro m hm x hx he
  have hmn : m < T.n := by omega
  have key : ∃ x', (∀ i, i < T.n → lo i ≤ x' i ∧ x' i ≤ hi i) ∧ (∀ i, i < m + 1 → T.eq x' i) ∧ ∀ j, j ∉ T.kid m → x' j = x j := by
   by_cases hk : T.kid m = []
   ·refine ⟨x, hx, fun i hi => ?_, fun _ _ => rfl⟩
    by_cases h : i < m
    ·exact he i h
    ·rw [show i = m by omega]; intro h'; exact absurd hk h'
   ·have h1 := hup m hmn hk
    have h2 := hx m hmn
    have hle : sm lo (T.kid m) ≤ sm hi (T.kid m) := sm_le (fun k hk' => hne k (hT.lt m k hk').2)
    have hl0 := hT.loss0 m hmn
    have hs : ∃ s, sm lo (T.kid m) ≤ s ∧ s ≤ sm hi (T.kid m) ∧ 0 ≤ x m - s ∧ x m - s ≤ T.loss m := by
     by_cases hc : x m ≤ sm hi (T.kid m)
     ·exact ⟨x m, by omega, by omega, by omega, by omega⟩
     ·exact ⟨sm hi (T.kid m), by omega, by omega, by omega, by omega⟩
    obtain ⟨s, hs1, hs2, hs3, hs4⟩ := hs
    obtain ⟨c, hc, hcs⟩ := fill lo hi (T.kid m) (hT.nodup m) (fun k hk' => hne k (hT.lt m k hk').2) s hs1 hs2
    refine ⟨fun j => if j ∈ T.kid m then c j else x j, ?_, ?_, ?_⟩
    ·intro i hi'
     by_cases h : i ∈ T.kid m
     ·simp only [h, if_true]; exact hc i h
     ·simp only [h, if_false]; exact hx i hi'
    ·intro i hi'
     by_cases h : i < m
     ·refine eq_congr (x := x) ?_ ?_ (he i h)
      ·have : i ∉ T.kid m := fun hm' => by have := (hT.lt m i hm').1; omega
       simp [this]
      ·intro k hk'
       have : k ∉ T.kid m := fun hm' => by have := hT.one i m k hk' hm'; omega
       simp [this]
     ·have e : i = m := by omega
      subst e
      intro _
      have h3 : i ∉ T.kid i := fun hm' => by have := (hT.lt i i hm').1; omega
      rw [sm_congr (g := c) (fun k hk' => by simp [hk'])]
      simp only [h3, if_false]
      rw [hcs]
      exact ⟨hs3, hs4⟩
    ·intro j hj
     simp [hj]
  obtain ⟨x', hx', he', hk'⟩ := key
  obtain ⟨y, hy, hyx⟩ := ih (m + 1) (by omega) x' hx' he'
  refine ⟨y, hy, fun j hj => ?_⟩
  rw [hyx j (fun i hi' => hj i (by omega)), hk' j (hj m (Nat.le_refl _))]
theorem exact (T : Net) (hT : T.Ok) (lo hi dl dh : Nat → Int) (hne : ∀ i, i < T.n → lo i ≤ hi i)
  (hup : ∀ i, i < T.n → T.kid i ≠ [] → sm lo (T.kid i) ≤ lo i ∧ hi i ≤ sm hi (T.kid i) + T.loss i)
  (hsub : ∀ i, i < T.n → lo i ≤ dl i ∧ dl i ≤ dh i ∧ dh i ≤ hi i)
  (hdn : ∀ i, i < T.n → ∀ k ∈ T.kid i, dl i - T.loss i - (sm hi (T.kid i) - hi k) ≤ dl k ∧ dh k ≤ dh i - (sm lo (T.kid i) - lo k)) :
  ∀ (k : Nat), k < T.n → ∀ v, dl k ≤ v → v ≤ dh k → ∃ x, Sol T lo hi x ∧ x k = v := by
 intro k
 induction k using Nat.strongRecOn with
 | ind k ih =>
  intro hk v hv1 hv2
  by_cases hp : ∃ i, i < T.n ∧ k ∈ T.kid i
  ·obtain ⟨i, hi', hki⟩ := hp
   have hik := (hT.lt i k hki).1
   have hne' : T.kid i ≠ [] := fun h => by rw [h] at hki; cases hki
   have h1 := hdn i hi' k hki
   have h2 := hsub i hi'
   have h3 := hup i hi' hne'
   have h4 := hsub k hk
   have hl0 := hT.loss0 i hi'
   obtain ⟨a, b, hab, hlo⟩ := sm_split lo hki
   have hhi : sm hi (T.kid i) = hi k + sm hi (a ++ b) := by rw [hab, sm_append, sm_append, sm_cons]; omega
   have hnd : (a ++ b).Nodup ∧ k ∉ a ++ b := by
    have := hT.nodup i
    rw [hab] at this
    rw [List.nodup_append] at this
    obtain ⟨ha, hb, hd⟩ := this
    rw [List.nodup_cons] at hb
    refine ⟨List.nodup_append.2 ⟨ha, hb.2, fun x hx y hy => hd x hx y (List.mem_cons_of_mem _ hy)⟩, fun h => ?_⟩
    rcases List.mem_append.1 h with h | h
    ·exact hd k h k (by simp) rfl
    ·exact hb.1 h
   have hmem : ∀ j ∈ a ++ b, j ∈ T.kid i := by
    intro j hj
    rw [hab]
    rcases List.mem_append.1 hj with h | h
    ·exact List.mem_append.2 (.inl h)
    ·exact List.mem_append.2 (.inr (List.mem_cons_of_mem _ h))
   have hle : sm lo (a ++ b) ≤ sm hi (a ++ b) := sm_le (fun j hj => hne j (hT.lt i j (hmem j hj)).2)
   have hw : ∃ w s, dl i ≤ w ∧ w ≤ dh i ∧ sm lo (a ++ b) ≤ s ∧ s ≤ sm hi (a ++ b) ∧ 0 ≤ w - (v + s) ∧ w - (v + s) ≤ T.loss i := by
    by_cases hc : dl i ≤ sm lo (a ++ b) + v
    ·exact ⟨sm lo (a ++ b) + v, sm lo (a ++ b), by omega, by omega, by omega, by omega, by omega, by omega⟩
    ·by_cases hc2 : dl i - v ≤ sm hi (a ++ b)
     ·exact ⟨dl i, dl i - v, by omega, by omega, by omega, by omega, by omega, by omega⟩
     ·exact ⟨dl i, sm hi (a ++ b), by omega, by omega, by omega, by omega, by omega, by omega⟩
   obtain ⟨w, s, hw1, hw2, hs1, hs2, hs3, hs4⟩ := hw
   obtain ⟨y, hy, hyi⟩ := ih i hik hi' w hw1 hw2
   obtain ⟨c, hc, hcs⟩ := fill lo hi (a ++ b) hnd.1 (fun j hj => hne j (hT.lt i j (hmem j hj)).2) s hs1 hs2
   let c' : Nat → Int := fun j => if j = k then v else c j
   have hc' : ∀ j ∈ T.kid i, lo j ≤ c' j ∧ c' j ≤ hi j := by
    intro j hj
    by_cases h : j = k
    ·subst h; simp only [c', if_true]; omega
    ·simp only [c', h, if_false]
     refine hc j ?_
     rw [hab] at hj
     rcases List.mem_append.1 hj with h' | h'
     ·exact List.mem_append.2 (.inl h')
     ·rcases List.mem_cons.1 h' with h' | h'
      ·exact absurd h' h
      ·exact List.mem_append.2 (.inr h')
   have hcs' : sm c' (T.kid i) = v + s := by
    have : sm c' (T.kid i) = c' k + sm c' (a ++ b) := by rw [hab, sm_append, sm_append, sm_cons]; omega
    rw [this, sm_congr (f := c') (g := c) (fun j hj => by have : j ≠ k := fun e => hnd.2 (e ▸ hj); simp [c', this]), hcs]
    simp [c']
   obtain ⟨z, hz, hzx⟩ := extend T hT lo hi hne hup (T.n - (i + 1)) (i + 1) (by omega) (fun j => if j ∈ T.kid i then c' j else y j)
    (fun j hj => by
     by_cases h : j ∈ T.kid i
     ·simp only [h, if_true]; exact hc' j h
     ·simp only [h, if_false]; exact hy.1 j hj)
    (fun j hj => by
     by_cases h : j < i
     ·refine eq_congr (x := y) ?_ ?_ (hy.2 j (by omega))
      ·have : j ∉ T.kid i := fun hm' => by have := (hT.lt i j hm').1; omega
       simp [this]
      ·intro q hq
       have : q ∉ T.kid i := fun hm' => by have := hT.one j i q hq hm'; omega
       simp [this]
     ·have e : j = i := by omega
      subst e
      intro _
      have h3 : j ∉ T.kid j := fun hm' => by have := (hT.lt j j hm').1; omega
      rw [sm_congr (g := c') (fun q hq => by simp [hq])]
      simp only [h3, if_false]
      rw [hcs', hyi]
      exact ⟨hs3, hs4⟩)
   refine ⟨z, hz, ?_⟩
   rw [hzx k (fun j hj hk' => by have := hT.one i j k hki hk'; omega)]
   simp [hki, c']
  ·have h4 := hsub k hk
   obtain ⟨z, hz, hzx⟩ := extend T hT lo hi hne hup T.n 0 (by omega) (fun j => if j = k then v else lo j)
    (fun j hj => by
     by_cases h : j = k
     ·subst h; simp only [if_true]; omega
     ·simp only [h, if_false]; exact ⟨Int.le_refl _, hne j hj⟩)
    (fun j hj => absurd hj (Nat.not_lt_zero _))
   refine ⟨z, hz, ?_⟩
   rw [hzx k (fun j _ hk' => hp ⟨j, by have := hT.lt j k hk'; omega, hk'⟩)]
   simp
end Go.Proofs.FlowTree
end
section
namespace Go.Proofs.Ytbgchacafglcpaa.P
open Go.RowKit Go.Proofs.YtbgchacafglcpaaW.PrintWords Go.Proofs.YtbgchacafglcpaaW.PrintLast Go.Proofs.YtbgchacafglcpaaW.PrintMore Go.Proofs.YtbgchacafglcpaaH Go.Proofs.FlowTree
abbrev CH := S43
abbrev RGE := S38
theorem right_mono {c t v v' : Int} (hc : 0 ≤ c) (ht : 1 ≤ t) (h : v ≤ v') : rightV c t v ≤ rightV c t v' := by
 unfold rightV
 have := Int.mul_le_mul_of_nonneg_left h hc
 exact Int.ediv_le_ediv (by omega) (by omega)
theorem right_bd {c t v : Int} (hc : 0 ≤ c) (ht : 1 ≤ t) (h0 : 0 ≤ v) (h : v ≤ t) : 0 ≤ rightV c t v ∧ rightV c t v ≤ c := by
 have h1 := Int.mul_nonneg hc h0
 have h2 := Int.mul_le_mul_of_nonneg_left h hc
 constructor
 ·unfold rightV
  exact Int.ediv_nonneg (by omega) (by omega)
 ·have : rightV c t v < c + 1 := by
   unfold rightV
   refine Int.ediv_lt_of_lt_mul (by omega) ?_
   have : (c + 1) * (2 * t) = 2 * (c * t) + 2 * t := by rw [Int.add_mul, Int.one_mul, ← Int.mul_assoc, Int.mul_comm c 2, Int.mul_assoc]
   omega
  omega
abbrev cc (bs : List CH) (j : Nat) : CH := rd_T43 bs (j : Int)
abbrev qq (l : List RGE) (j : Nat) : RGE := rd_T38 l (j : Int)
theorem cc_set (bs : List CH) (i j : Nat) (y : CH) (hi : i < bs.length) : cc (bs.set i y) j = if i = j then y else cc bs j := by
 simp only [cc, rd_T43, List.getD_eq_getElem?_getD, Int.toNat_natCast, List.getElem?_set]
 by_cases e : i = j
 ·subst e; simp [hi]
 ·simp [e]
theorem qq_map (f : RGE → RGE) (l : List RGE) (j : Nat) (h : j < l.length) : qq (l.map f) j = f (qq l j) := by
 simp [qq, rd_T38, List.getD_eq_getElem?_getD, h]
theorem qq_mem (l : List RGE) (j : Nat) (h : j < l.length) : qq l j ∈ l := by
 simp [qq, rd_T38, List.getD_eq_getElem?_getD, h]
theorem foldl_rng {α : Type} (g : α → Nat → α) (x : α) (n : Nat) : (List.range (n + 1)).foldl g x = g ((List.range n).foldl g x) n := by
 rw [List.range_succ, List.foldl_append]; rfl
def PartsOk (c t : Int) (l : List RGE) : Prop := 0 ≤ c ∧ c ≤ 1000000000 ∧ 1 ≤ t ∧ t ≤ 1000000000 ∧ l.length ≤ 200 ∧ ∀ j, j < l.length → 0 ≤ (qq l j).f0 ∧ (qq l j).f0 ≤ (qq l j).f1 ∧ (qq l j).f1 ≤ t
theorem outR_iff (t : Int) (r : RGE) : outR t r = false ↔ 0 ≤ r.f0 ∧ r.f0 ≤ r.f1 ∧ r.f1 ≤ t := by
 simp only [outR, Bool.or_eq_false_iff, decide_eq_false_iff_not]
 omega
theorem parts_iff (c t : Int) (l : List RGE) : (c < 0 ∨ 1000000000 < c ∨ t < 1 ∨ 1000000000 < t ∨ 200 < l.length ∨ l.any (outR t) = true) ↔ ¬ PartsOk c t l := by
 have hany : l.any (outR t) = false ↔ ∀ j, j < l.length → 0 ≤ (qq l j).f0 ∧ (qq l j).f0 ≤ (qq l j).f1 ∧ (qq l j).f1 ≤ t := by
  rw [List.any_eq_false]
  constructor
  ·intro h j hj
   exact (outR_iff t _).1 (by have := h _ (qq_mem l j hj); simpa using this)
  ·intro h x hx
   obtain ⟨j, hj, rfl⟩ := List.mem_iff_getElem.1 hx
   have e : qq l j = l[j] := by simp [qq, rd_T38, List.getD_eq_getElem?_getD, hj]
   have := (outR_iff t (qq l j)).2 (h j hj)
   rw [e] at this
   simp [this]
 constructor
 ·rintro h ⟨h1, h2, h3, h4, h5, h6⟩
  rcases h with h | h | h | h | h | h
  ·omega
  ·omega
  ·omega
  ·omega
  ·omega
  ·rw [hany.2 h6] at h; cases h
 ·intro h
  by_cases a1 : c < 0
  ·exact .inl a1
  by_cases a2 : 1000000000 < c
  ·exact .inr (.inl a2)
  by_cases a3 : t < 1
  ·exact .inr (.inr (.inl a3))
  by_cases a4 : 1000000000 < t
  ·exact .inr (.inr (.inr (.inl a4)))
  by_cases a5 : 200 < l.length
  ·exact .inr (.inr (.inr (.inr (.inl a5))))
  refine .inr (.inr (.inr (.inr (.inr ?_))))
  cases hx : l.any (outR t) with
  | true => rfl
  | false => exact absurd ⟨by omega, by omega, by omega, by omega, by omega, hany.1 hx⟩ h
theorem boundsC_ok {c t : Int} {l : List RGE} (h : PartsOk c t l) : boundsC c t l = (l.map (chgR c t), 0) := by
 unfold boundsC
 rw [if_neg (fun hh => (parts_iff c t l).1 hh h)]
theorem boundsC_no {c t : Int} {l : List RGE} (h : ¬ PartsOk c t l) : boundsC c t l = ([], 1) := by
 unfold boundsC
 rw [if_pos ((parts_iff c t l).2 h)]
section
variable {c t : Int} {l : List RGE}
def bLo (c t : Int) (l : List RGE) (j : Nat) : Int := rightV c t (qq l j).f0
def bHi (c t : Int) (l : List RGE) (j : Nat) : Int := rightV c t (qq l j).f1
theorem b_bd (h : PartsOk c t l) (j : Nat) (hj : j < l.length) : 0 ≤ bLo c t l j ∧ bLo c t l j ≤ bHi c t l j ∧ bHi c t l j ≤ c := by
 obtain ⟨h1, h2, h3, h4, h5, h6⟩ := h
 have := h6 j hj
 exact ⟨(right_bd h1 h3 (by omega) (by omega)).1, right_mono h1 h3 (by omega), (right_bd h1 h3 (by omega) (by omega)).2⟩
theorem wrap_id' {n : Int} (h1 : -9223372036854775808 ≤ n) (h2 : n ≤ 9223372036854775807) : wrap64 n = n := by unfold wrap64; omega
structure Form (homes : List Int) (c t : Int) (l : List RGE) (j : Nat) (b : CH) : Prop where
 home : b.f0 = rd homes (j : Int)
 lo : b.f2.f0 = bLo c t l j
 hi : b.f2.f1 = bHi c t l j
 sure : b.f3 = (bLo c t l j == bHi c t l j)
 ge : bLo c t l j ≤ b.f1
 le : b.f1 ≤ bHi c t l j
theorem bill_form (homes : List Int) (h : PartsOk c t l) (j : Nat) (hj : j < l.length) : Form homes c t l j (billOf (rd homes (j : Int)) (qq (l.map (chgR c t)) j)) ∧ (billOf (rd homes (j : Int)) (qq (l.map (chgR c t)) j)).f1 = (bLo c t l j + bHi c t l j) / 2 := by
 have hb := b_bd h j hj
 have hc := h.2.1
 rw [qq_map _ _ _ hj]
 have e : (billOf (rd homes (j : Int)) (chgR c t (qq l j))).f1 = (bLo c t l j + bHi c t l j) / 2 := by
  show wrap64 (Int.tdiv (wrap64 (bLo c t l j + bHi c t l j)) 2) = _
  rw [wrap_id' (n := bLo c t l j + bHi c t l j) (by omega) (by omega), Int.tdiv_eq_ediv_of_nonneg (by omega), wrap_id' (by omega) (by omega)]
 refine ⟨⟨rfl, rfl, rfl, rfl, ?_, ?_⟩, e⟩
 ·rw [e]; omega
 ·rw [e]; omega
theorem bills_at (homes : List Int) (bs : List RGE) (n : Nat) : ∀ i, i ≤ n → ∀ j, j < n → cc (billsN homes bs n i) j = if j < i then billOf (rd homes (j : Int)) (qq bs j) else z43 := by
 intro i
 induction i with
 | zero =>
  intro _ j hj
  simp [billsN, cc, rd_T43, List.getD_eq_getElem?_getD, List.getElem?_replicate, hj]
 | succ i ih =>
  intro hi j hj
  have e : billsN homes bs n (i + 1) = (billsN homes bs n i).set i (billOf (rd homes (i : Int)) (qq bs i)) := foldl_rng _ _ _
  rw [e, cc_set _ _ _ _ (by rw [billsN_len]; omega)]
  by_cases h : i = j
  ·subst h; rw [if_pos rfl, if_pos (by omega)]
  ·rw [if_neg h, ih (by omega) j hj]
   by_cases h2 : j < i
   ·rw [if_pos h2, if_pos (by omega)]
   ·rw [if_neg h2, if_neg (by omega)]
theorem sum_at (h : PartsOk c t l) : ∀ i, i ≤ l.length → sumN (l.map (chgR c t)) i = sm (fun j => (bLo c t l j + bHi c t l j) / 2) (List.range i) ∧ 0 ≤ sumN (l.map (chgR c t)) i ∧ sumN (l.map (chgR c t)) i ≤ 1000000000 * i := by
 intro i
 induction i with
 | zero => intro _; exact ⟨rfl, Int.le_refl _, by simp [sumN]⟩
 | succ i ih =>
  intro hi
  obtain ⟨h1, h2, h3⟩ := ih (by omega)
  have hb := b_bd h i (by omega)
  have hc := h.2.1
  have hn := h.2.2.2.2.1
  have e : sumN (l.map (chgR c t)) (i + 1) = wrap64 (sumN (l.map (chgR c t)) i + (billOf 0 (qq (l.map (chgR c t)) i)).f1) := foldl_rng _ _ _
  have e2 : (billOf 0 (qq (l.map (chgR c t)) i)).f1 = (bLo c t l i + bHi c t l i) / 2 := (bill_form [] h i (by omega)).2
  rw [e, e2, wrap_id' (by omega) (by omega)]
  refine ⟨?_, by omega, by omega⟩
  rw [List.range_succ, sm_append, sm_cons, sm_nil, h1]
  omega
theorem least_at (h : PartsOk c t l) : ∀ i, i ≤ l.length → leastN l i = sm (fun j => (qq l j).f0) (List.range i) ∧ 0 ≤ leastN l i ∧ leastN l i ≤ 1000000000 * i := by
 intro i
 induction i with
 | zero => intro _; exact ⟨rfl, Int.le_refl _, by simp [leastN]⟩
 | succ i ih =>
  intro hi
  obtain ⟨h1, h2, h3⟩ := ih (by omega)
  have hb := h.2.2.2.2.2 i (by omega)
  have ht := h.2.2.2.1
  have hn := h.2.2.2.2.1
  have e : leastN l (i + 1) = wrap64 (leastN l i + (qq l i).f0) := foldl_rng _ _ _
  rw [e, wrap_id' (by omega) (by omega)]
  refine ⟨?_, by omega, by omega⟩
  rw [List.range_succ, sm_append, sm_cons, sm_nil, h1]
  omega
theorem sm_upd (f g : Nat → Int) (i : Nat) (d : Int) (hg : ∀ j, j ≠ i → g j = f j) (hi : g i = f i + d) : ∀ n, sm g (List.range n) = sm f (List.range n) + if i < n then d else 0 := by
 intro n
 induction n with
 | zero => simp [sm_nil]
 | succ n ih =>
  rw [List.range_succ, sm_append, sm_append, sm_cons, sm_cons, sm_nil, sm_nil, ih]
  by_cases e : n = i
  ·subst e
   rw [hi, if_neg (Nat.lt_irrefl _), if_pos (Nat.lt_succ_self _)]; omega
  ·rw [hg n e]
   by_cases h : i < n
   ·rw [if_pos h, if_pos (by omega)]; omega
   ·rw [if_neg h, if_neg (by omega)]; omega
structure LowAt (homes : List Int) (c t : Int) (l : List RGE) (k : Nat) (p : List CH × Int) : Prop where
 len : p.1.length = l.length
 form : ∀ j, j < l.length → Form homes c t l j (cc p.1 j)
 sum : p.2 = sm (fun j => (cc p.1 j).f1) (List.range l.length)
 bd : 0 ≤ p.2 ∧ p.2 ≤ 200000000000
 low : c < p.2 → ∀ j, j < l.length → l.length ≤ j + k → (cc p.1 j).f1 = bLo c t l j
theorem low_start (homes : List Int) (h : PartsOk c t l) : LowAt homes c t l 0 (billsN homes (l.map (chgR c t)) l.length l.length, sumN (l.map (chgR c t)) l.length) := by
 have hs := sum_at h l.length (Nat.le_refl _)
 have hn := h.2.2.2.2.1
 have hat : ∀ j, j < l.length → cc (billsN homes (l.map (chgR c t)) l.length l.length) j = billOf (rd homes (j : Int)) (qq (l.map (chgR c t)) j) := fun j hj => by
  rw [bills_at homes _ _ _ (Nat.le_refl _) j hj, if_pos hj]
 refine ⟨billsN_len _ _ _ _, fun j hj => ?_, ?_, ⟨hs.2.1, by have := hs.2.2; show sumN _ _ ≤ _; omega⟩, fun _ j h1 h2 => by omega⟩
 ·show Form homes c t l j (cc (billsN homes (l.map (chgR c t)) l.length l.length) j)
  rw [hat j hj]
  exact (bill_form homes h j hj).1
 ·show sumN _ _ = _
  rw [hs.1]
  refine sm_congr (fun j hj => ?_)
  have hj' := List.mem_range.1 hj
  show _ = (cc (billsN homes (l.map (chgR c t)) l.length l.length) j).f1
  rw [hat j hj']
  exact (bill_form homes h j hj').2.symm
theorem mx_max' (a b : Int) : mx a b = max a b := by unfold mx; split <;> omega
theorem mn_min' (a b : Int) : mn a b = min a b := by unfold mn; split <;> omega
theorem sm_cents {homes : List Int} (h : PartsOk c t l) {bs : List CH} (hf : ∀ j, j < l.length → Form homes c t l j (cc bs j)) : 0 ≤ sm (fun j => (cc bs j).f1) (List.range l.length) ∧ sm (fun j => (cc bs j).f1) (List.range l.length) ≤ 200000000000 := by
 have hn := h.2.2.2.2.1
 have hc := h.2.1
 have := sm_bound (f := fun j => (cc bs j).f1) (ks := List.range l.length) (a := 0) (b := 1000000000) (fun j hj => by
  have hj' := List.mem_range.1 hj
  have h1 := hf j hj'
  have h2 := b_bd h j hj'
  have := h1.ge
  have := h1.le
  show 0 ≤ (cc bs j).f1 ∧ (cc bs j).f1 ≤ 1000000000
  omega)
 rw [List.length_range] at this
 omega
theorem low_step {homes : List Int} (h : PartsOk c t l) {k : Nat} (hk : k < l.length) {p : List CH × Int} (hp : LowAt homes c t l k p) :
  LowAt homes c t l (k + 1) (lowStep c p (l.length - 1 - k)) ∧ (lowBy (wrap64 (p.2 - c)) (cc p.1 (l.length - 1 - k)).f1 (cc p.1 (l.length - 1 - k)).f2.f0 = max 0 (min (p.2 - c) ((cc p.1 (l.length - 1 - k)).f1 - bLo c t l (l.length - 1 - k)))) ∧
   lowStep c p (l.length - 1 - k) = (p.1.set (l.length - 1 - k) ⟨(cc p.1 (l.length - 1 - k)).f0, (cc p.1 (l.length - 1 - k)).f1 - max 0 (min (p.2 - c) ((cc p.1 (l.length - 1 - k)).f1 - bLo c t l (l.length - 1 - k))), (cc p.1 (l.length - 1 - k)).f2, (cc p.1 (l.length - 1 - k)).f3⟩, p.2 - max 0 (min (p.2 - c) ((cc p.1 (l.length - 1 - k)).f1 - bLo c t l (l.length - 1 - k)))) := by
 obtain ⟨i, hi⟩ : ∃ i, i = l.length - 1 - k := ⟨_, rfl⟩
 rw [← hi]
 have hil : i < l.length := by omega
 have hf := hp.form i hil
 have hb := b_bd h i hil
 have hc0 := h.1
 have hc := h.2.1
 have hs := hp.bd
 have g1 := hf.ge
 have g2 := hf.le
 have e1 : lowBy (wrap64 (p.2 - c)) (cc p.1 i).f1 (cc p.1 i).f2.f0 = max 0 (min (p.2 - c) ((cc p.1 i).f1 - bLo c t l i)) := by
  unfold lowBy
  rw [mx_max', mn_min', hf.lo, wrap_id' (n := p.2 - c) (by omega) (by omega), wrap_id' (n := (cc p.1 i).f1 - bLo c t l i) (by omega) (by omega)]
 obtain ⟨d, hd⟩ : ∃ d, d = max 0 (min (p.2 - c) ((cc p.1 i).f1 - bLo c t l i)) := ⟨_, rfl⟩
 rw [← hd] at e1 ⊢
 have e2 : lowStep c p i = (p.1.set i ⟨(cc p.1 i).f0, (cc p.1 i).f1 - d, (cc p.1 i).f2, (cc p.1 i).f3⟩, p.2 - d) := by
  show (p.1.set i ⟨(cc p.1 i).f0, wrap64 ((cc p.1 i).f1 - lowBy (wrap64 (p.2 - c)) (cc p.1 i).f1 (cc p.1 i).f2.f0), (cc p.1 i).f2, (cc p.1 i).f3⟩, wrap64 (p.2 - lowBy (wrap64 (p.2 - c)) (cc p.1 i).f1 (cc p.1 i).f2.f0)) = _
  rw [e1, wrap_id' (n := (cc p.1 i).f1 - d) (by omega) (by omega), wrap_id' (n := p.2 - d) (by omega) (by omega)]
 refine ⟨?_, e1, e2⟩
 rw [e2]
 have hset : ∀ j, cc (p.1.set i ⟨(cc p.1 i).f0, (cc p.1 i).f1 - d, (cc p.1 i).f2, (cc p.1 i).f3⟩) j = if i = j then ⟨(cc p.1 i).f0, (cc p.1 i).f1 - d, (cc p.1 i).f2, (cc p.1 i).f3⟩ else cc p.1 j := fun j => cc_set _ _ _ _ (by rw [hp.len]; exact hil)
 have hform : ∀ j, j < l.length → Form homes c t l j (cc (p.1.set i ⟨(cc p.1 i).f0, (cc p.1 i).f1 - d, (cc p.1 i).f2, (cc p.1 i).f3⟩) j) := fun j hj => by
  rw [hset j]
  by_cases e : i = j
  ·subst e
   rw [if_pos rfl]
   exact ⟨hf.home, hf.lo, hf.hi, hf.sure, by show bLo c t l i ≤ (cc p.1 i).f1 - d; omega, by show (cc p.1 i).f1 - d ≤ bHi c t l i; omega⟩
  ·rw [if_neg e]; exact hp.form j hj
 have hsum : p.2 - d = sm (fun j => (cc (p.1.set i ⟨(cc p.1 i).f0, (cc p.1 i).f1 - d, (cc p.1 i).f2, (cc p.1 i).f3⟩) j).f1) (List.range l.length) := by
  rw [sm_upd (fun j => (cc p.1 j).f1) _ i (-d) (fun j hj => by show (cc _ j).f1 = _; rw [hset j, if_neg (fun e => hj e.symm)]) (by show (cc _ i).f1 = _; rw [hset i, if_pos rfl]; show (cc p.1 i).f1 - d = _; omega) l.length, if_pos hil, ← hp.sum]
  omega
 refine ⟨by show (p.1.set _ _).length = _; rw [List.length_set, hp.len], hform, hsum, ?_, ?_⟩
 ·show 0 ≤ p.2 - d ∧ p.2 - d ≤ _
  rw [hsum]
  exact sm_cents h hform
 ·intro hlt j hj hjk
  have hlt' : c < p.2 - d := hlt
  show (cc (p.1.set _ _) j).f1 = _
  rw [hset j]
  by_cases e : i = j
  ·subst e
   rw [if_pos rfl]
   show (cc p.1 i).f1 - d = _
   omega
  ·rw [if_neg e]
   exact hp.low (by omega) j hj (by omega)
theorem low_all (homes : List Int) (h : PartsOk c t l) : ∀ k, k ≤ l.length → LowAt homes c t l k (lowAll c (downTo l.length k) (billsN homes (l.map (chgR c t)) l.length l.length, sumN (l.map (chgR c t)) l.length)) := by
 intro k
 induction k with
 | zero => intro _; exact low_start homes h
 | succ k ih =>
  intro hk
  have h1 := ih (by omega)
  have e : ∀ q, lowAll c (downTo l.length (k + 1)) q = lowStep c (lowAll c (downTo l.length k) q) (l.length - 1 - k) := fun q => by
   unfold lowAll
   rw [downTo_succ, List.foldl_append]
   rfl
  rw [e]
  exact (low_step h (by omega) h1).1
inductive ShareIs (c t : Int) (homes : List Int) (l : List RGE) : List CH × Int × Int → Prop
 | arg : ¬ (PartsOk c t l ∧ homes.length = l.length ∧ homesB 0 homes = true) → ShareIs c t homes l ([], 0, 1)
 | flow : PartsOk c t l → homes.length = l.length → homesB 0 homes = true → t < leastN l l.length → ShareIs c t homes l ([], 0, 30)
 | ok (p : List CH × Int) : PartsOk c t l → homes.length = l.length → homesB 0 homes = true → ¬ t < leastN l l.length → LowAt homes c t l l.length p →
   p = lowAll c (downTo l.length l.length) (billsN homes (l.map (chgR c t)) l.length l.length, sumN (l.map (chgR c t)) l.length) → ShareIs c t homes l (p.1, c - p.2, 0)
theorem shareC_is (c t : Int) (homes : List Int) (l : List RGE) : ShareIs c t homes l (shareC c t homes l) := by
 unfold shareC
 by_cases h : PartsOk c t l
 case neg =>
  rw [boundsC_no h, if_neg (by decide)]
  exact .arg (fun hh => h hh.1)
 rw [boundsC_ok h, if_pos rfl]
 by_cases hb : homes.length ≠ l.length ∨ homesB 0 homes = false
 ·rw [if_pos hb]
  refine .arg (fun hh => ?_)
  rcases hb with hb | hb
  ·exact hb hh.2.1
  ·rw [hh.2.2] at hb; cases hb
 rw [if_neg hb]
 have h1 : homes.length = l.length := Classical.byContradiction fun hn => hb (.inl hn)
 have h2 : homesB 0 homes = true := by
  cases hx : homesB 0 homes with
  | true => rfl
  | false => exact absurd (.inr hx) hb
 by_cases hl : t < leastN l l.length
 ·rw [if_pos hl]
  exact .flow h h1 h2 hl
 rw [if_neg hl]
 have hL := low_all homes h l.length (Nat.le_refl _)
 obtain ⟨p, hp⟩ : ∃ p, p = lowAll c (downTo l.length l.length) (billsN homes (l.map (chgR c t)) l.length l.length, sumN (l.map (chgR c t)) l.length) := ⟨_, rfl⟩
 show ShareIs c t homes l ((lowAll c (downTo l.length l.length) (billsN homes (l.map (chgR c t)) l.length l.length, sumN (l.map (chgR c t)) l.length)).1, wrap64 (c - (lowAll c (downTo l.length l.length) (billsN homes (l.map (chgR c t)) l.length l.length, sumN (l.map (chgR c t)) l.length)).2), 0)
 rw [← hp] at hL ⊢
 have hbd := hL.bd
 have hc := h.1
 have hc1 := h.2.1
 rw [wrap_id' (by omega) (by omega)]
 exact .ok p h h1 h2 hl hL hp
end
end Go.Proofs.Ytbgchacafglcpaa.P
end
section
namespace Go.Proofs.Ytbgchacafglcpaa.P
open Go.RowKit Go.Proofs.YtbgchacafglcpaaW.PrintWords Go.Proofs.YtbgchacafglcpaaW.PrintLast Go.Proofs.YtbgchacafglcpaaW.PrintMore
attribute [local go_sem] max2_int min2_int max_two min_two max_three min_three max_four min_four
set_option linter.unusedVariables false
set_option linter.unusedSimpArgs false
set_option maxHeartbeats 8000000
set_option maxRecDepth 100000
section
def cohousingref28_Volume.f (a0 : Int) : Option (Bool) := if a0 ≥ 0 then (some (decide (a0 ≤ 1000000000))) else (some false)
end
section
def cohousingref28_At.l0 : Nat → List (S63) → Int → Int → Option (Int)
 | 0, _, _, _ => none
 | k + 1, x0, x1, x5 => if x5 < (x0.length : Int) then (if 0 ≤ x5 then (if ((rd_T63 x0 x5).f0) = x1 then (some x5) else (cohousingref28_At.l0 k x0 x1 (wrap64 (x5 + 1)))) else (none)) else (some (-1))
def cohousingref28_At.f (k : Nat) (l0 : List (S63)) (a1 : Int) : Option (Int) := cohousingref28_At.l0 k l0 a1 0
theorem cohousingref28_At.mono_l : ∀ k, (∀ y0 y1 y2, LeO (cohousingref28_At.l0 k y0 y1 y2) (cohousingref28_At.l0 (k + 1) y0 y1 y2))
 | 0 => fun _ _ _ r h => by simp [cohousingref28_At.l0] at h
 | k + 1 => by
  have ih0 := cohousingref28_At.mono_l k
  ·intro y0 y1 y2
   unfold cohousingref28_At.l0
   repeat' first
   | (with_reducible exact ih0 _ _ _)
   | (with_reducible exact LeO.refl _)
   | (with_reducible exact LeO.none _)
   | (with_reducible refine LeO.ite ?_ ?_)
   | (with_reducible refine LeO.bind ?_ (fun _ => ?_))
   | exact ih0 _ _ _
   | exact LeO.none _
   | refine LeO.ite ?_ ?_
   | refine LeO.bind ?_ (fun _ => ?_)
theorem cohousingref28_At.mono : ∀ a0 a1 k, LeO (cohousingref28_At.f k a0 a1) (cohousingref28_At.f (k + 1) a0 a1) := by
 intro a0 a1 k
 have ih0 := cohousingref28_At.mono_l k
 unfold cohousingref28_At.f
 repeat' first
   | (with_reducible exact ih0 _ _ _)
   | (with_reducible exact LeO.refl _)
   | (with_reducible exact LeO.none _)
   | (with_reducible refine LeO.ite ?_ ?_)
   | (with_reducible refine LeO.bind ?_ (fun _ => ?_))
   | exact ih0 _ _ _
   | exact LeO.none _
   | refine LeO.ite ?_ ?_
   | refine LeO.bind ?_ (fun _ => ?_)
end
section
mutual
def cohousingref28_Valid.l0 : Nat → List (S63) → Int → Option (Bool)
 | 0, _, _ => none
 | k + 1, x0, x3 => if x3 < (x0.length : Int) then (if 0 ≤ x3 then (if ((rd_T63 x0 x3).f0) < 1 then (cohousingref28_Valid.j1 k x0 x3 true) else (if x3 > 0 then (if 0 ≤ (wrap64 (x3 - 1)) then (if (wrap64 (x3 - 1)) < (x0.length : Int) then (if ((rd_T63 x0 x3).f0) ≤ ((rd_T63 x0 (wrap64 (x3 - 1))).f0) then (cohousingref28_Valid.j1 k x0 x3 true) else ((cohousingref28_Volume.f ((rd_T63 x0 x3).f2)).bind fun t270 => (cohousingref28_Valid.j1 k x0 x3 (!t270)))) else (none)) else (none)) else ((cohousingref28_Volume.f ((rd_T63 x0 x3).f2)).bind fun t272 => (cohousingref28_Valid.j1 k x0 x3 (!t272))))) else (none)) else (some (decide ((x0.length : Int) ≤ 200)))
def cohousingref28_Valid.j1 : Nat → List (S63) → Int → Bool → Option (Bool)
 | 0, _, _, _ => none
 | k + 1, x0, x3, x42 => if x42 = true then (some false) else (if 0 ≤ x3 then (if x3 < (x0.length : Int) then (if ((rd_T63 x0 x3).f1) = 0 then (cohousingref28_Valid.l0 k x0 (wrap64 (x3 + 1))) else (if x3 ≤ (x0.length : Int) then ((cohousingref28_At.f k (x0.take (x3 : Int).toNat) ((rd_T63 x0 x3).f1)).bind fun t279 => (if t279 < 0 then (some false) else (cohousingref28_Valid.l0 k x0 (wrap64 (x3 + 1))))) else (none))) else (none)) else (none))
end
def cohousingref28_Valid.f (k : Nat) (l0 : List (S63)) : Option (Bool) := cohousingref28_Valid.l0 k l0 0
theorem cohousingref28_Valid.mono_l : ∀ k, (∀ y0 y1, LeO (cohousingref28_Valid.l0 k y0 y1) (cohousingref28_Valid.l0 (k + 1) y0 y1)) ∧ (∀ y0 y1 y2, LeO (cohousingref28_Valid.j1 k y0 y1 y2) (cohousingref28_Valid.j1 (k + 1) y0 y1 y2))
 | 0 => ⟨fun _ _ r h => by simp [cohousingref28_Valid.l0] at h, fun _ _ _ r h => by simp [cohousingref28_Valid.j1] at h⟩
 | k + 1 => by
  obtain ⟨ih0, ih1⟩ := cohousingref28_Valid.mono_l k
  refine ⟨?_, ?_⟩
  ·intro y0 y1
   unfold cohousingref28_Valid.l0
   repeat' first
   | (with_reducible exact ih0 _ _)
   | (with_reducible exact ih1 _ _ _)
   | (with_reducible exact cohousingref28_At.mono _ _ _)
   | (with_reducible exact LeO.refl _)
   | (with_reducible exact LeO.none _)
   | (with_reducible refine LeO.ite ?_ ?_)
   | (with_reducible refine LeO.bind ?_ (fun _ => ?_))
   | exact ih0 _ _
   | exact ih1 _ _ _
   | exact cohousingref28_At.mono _ _ _
   | exact LeO.none _
   | refine LeO.ite ?_ ?_
   | refine LeO.bind ?_ (fun _ => ?_)
  ·intro y0 y1 y2
   unfold cohousingref28_Valid.j1
   repeat' first
   | (with_reducible exact ih0 _ _)
   | (with_reducible exact ih1 _ _ _)
   | (with_reducible exact cohousingref28_At.mono _ _ _)
   | (with_reducible exact LeO.refl _)
   | (with_reducible exact LeO.none _)
   | (with_reducible refine LeO.ite ?_ ?_)
   | (with_reducible refine LeO.bind ?_ (fun _ => ?_))
   | exact ih0 _ _
   | exact ih1 _ _ _
   | exact cohousingref28_At.mono _ _ _
   | exact LeO.none _
   | refine LeO.ite ?_ ?_
   | refine LeO.bind ?_ (fun _ => ?_)
theorem cohousingref28_Valid.mono : ∀ a0 k, LeO (cohousingref28_Valid.f k a0) (cohousingref28_Valid.f (k + 1) a0) := by
 intro a0 k
 obtain ⟨ih0, ih1⟩ := cohousingref28_Valid.mono_l k
 unfold cohousingref28_Valid.f
 repeat' first
   | (with_reducible exact ih0 _ _)
   | (with_reducible exact ih1 _ _ _)
   | (with_reducible exact cohousingref28_At.mono _ _ _)
   | (with_reducible exact LeO.refl _)
   | (with_reducible exact LeO.none _)
   | (with_reducible refine LeO.ite ?_ ?_)
   | (with_reducible refine LeO.bind ?_ (fun _ => ?_))
   | exact ih0 _ _
   | exact ih1 _ _ _
   | exact cohousingref28_At.mono _ _ _
   | exact LeO.none _
   | refine LeO.ite ?_ ?_
   | refine LeO.bind ?_ (fun _ => ?_)
end
section
open Go.Proofs.YtbgchacafglcpaaH
def cohousingref28_Belongs.f (l0 : List S63) (l1 : List S38) : Option Bool := if l0.length ≤ 140737488355328 ∧ l1.length ≤ 140737488355328 then some (belongsB l0.length l1) else none
end
section
attribute [local go_sem high] eqA38
def cohousingref28_Same.l0 : Nat → List (S38) → List (S38) → Int → Option (Bool)
 | 0, _, _, _ => none
 | k + 1, x0, x1, x5 => if x5 < (x0.length : Int) then (if 0 ≤ x5 then (if x5 < (x1.length : Int) then (if (!(((rd_T38 x0 x5).f0) == ((rd_T38 x1 x5).f0)) || (!(((rd_T38 x0 x5).f1) == ((rd_T38 x1 x5).f1)))) = true then (some false) else (cohousingref28_Same.l0 k x0 x1 (wrap64 (x5 + 1)))) else (none)) else (none)) else (some true)
def cohousingref28_Same.f (k : Nat) (l0 : List (S38)) (l1 : List (S38)) : Option (Bool) := if (l0.length : Int) = (l1.length : Int) then (cohousingref28_Same.l0 k l0 l1 0) else (some false)
theorem cohousingref28_Same.mono_l : ∀ k, (∀ y0 y1 y2, LeO (cohousingref28_Same.l0 k y0 y1 y2) (cohousingref28_Same.l0 (k + 1) y0 y1 y2))
 | 0 => fun _ _ _ r h => by simp [cohousingref28_Same.l0] at h
 | k + 1 => by
  have ih0 := cohousingref28_Same.mono_l k
  ·intro y0 y1 y2
   unfold cohousingref28_Same.l0
   repeat' first
   | (with_reducible exact ih0 _ _ _)
   | (with_reducible exact LeO.refl _)
   | (with_reducible exact LeO.none _)
   | (with_reducible refine LeO.ite ?_ ?_)
   | (with_reducible refine LeO.bind ?_ (fun _ => ?_))
   | exact ih0 _ _ _
   | exact LeO.none _
   | refine LeO.ite ?_ ?_
   | refine LeO.bind ?_ (fun _ => ?_)
theorem cohousingref28_Same.mono : ∀ a0 a1 k, LeO (cohousingref28_Same.f k a0 a1) (cohousingref28_Same.f (k + 1) a0 a1) := by
 intro a0 a1 k
 have ih0 := cohousingref28_Same.mono_l k
 unfold cohousingref28_Same.f
 repeat' first
   | (with_reducible exact ih0 _ _ _)
   | (with_reducible exact LeO.refl _)
   | (with_reducible exact LeO.none _)
   | (with_reducible refine LeO.ite ?_ ?_)
   | (with_reducible refine LeO.bind ?_ (fun _ => ?_))
   | exact ih0 _ _ _
   | exact LeO.none _
   | refine LeO.ite ?_ ?_
   | refine LeO.bind ?_ (fun _ => ?_)
end
section
def cohousingref28_empty.l0 : Nat → List (S38) → Int → Option (Bool)
 | 0, _, _ => none
 | k + 1, x0, x3 => if x3 < (x0.length : Int) then (if 0 ≤ x3 then (if ((rd_T38 x0 x3).f0) > ((rd_T38 x0 x3).f1) then (some true) else (cohousingref28_empty.l0 k x0 (wrap64 (x3 + 1)))) else (none)) else (some false)
def cohousingref28_empty.f (k : Nat) (l0 : List (S38)) : Option (Bool) := cohousingref28_empty.l0 k l0 0
theorem cohousingref28_empty.mono_l : ∀ k, (∀ y0 y1, LeO (cohousingref28_empty.l0 k y0 y1) (cohousingref28_empty.l0 (k + 1) y0 y1))
 | 0 => fun _ _ r h => by simp [cohousingref28_empty.l0] at h
 | k + 1 => by
  have ih0 := cohousingref28_empty.mono_l k
  ·intro y0 y1
   unfold cohousingref28_empty.l0
   repeat' first
   | (with_reducible exact ih0 _ _)
   | (with_reducible exact LeO.refl _)
   | (with_reducible exact LeO.none _)
   | (with_reducible refine LeO.ite ?_ ?_)
   | (with_reducible refine LeO.bind ?_ (fun _ => ?_))
   | exact ih0 _ _
   | exact LeO.none _
   | refine LeO.ite ?_ ?_
   | refine LeO.bind ?_ (fun _ => ?_)
theorem cohousingref28_empty.mono : ∀ a0 k, LeO (cohousingref28_empty.f k a0) (cohousingref28_empty.f (k + 1) a0) := by
 intro a0 k
 have ih0 := cohousingref28_empty.mono_l k
 unfold cohousingref28_empty.f
 repeat' first
   | (with_reducible exact ih0 _ _)
   | (with_reducible exact LeO.refl _)
   | (with_reducible exact LeO.none _)
   | (with_reducible refine LeO.ite ?_ ?_)
   | (with_reducible refine LeO.bind ?_ (fun _ => ?_))
   | exact ih0 _ _
   | exact LeO.none _
   | refine LeO.ite ?_ ?_
   | refine LeO.bind ?_ (fun _ => ?_)
end
section
def cohousingref28_narrow.f (a0_0 : Int) (a0_1 : Int) (a1 : Int) (a2 : Int) : Option (Int × Int) := some (mx a0_0 a1, mn a0_1 a2)
end
section
mutual
def cohousingref28_equation.l0 : Nat → List (S63) → List (S38) → Int → List Int → Int → Int → Int → Option ((List (S38)))
 | 0, _, _, _, _, _, _, _ => none
 | k + 1, x0, x1, x2, x3, x9, x10, x11 => if x11 < (x3.length : Int) then (if 0 ≤ x11 then (if 0 ≤ (rd x3 x11) then (if (rd x3 x11) < (x1.length : Int) then (cohousingref28_equation.l0 k x0 x1 x2 x3 (wrap64 (x9 + ((rd_T38 x1 (rd x3 x11)).f0))) (wrap64 (x10 + ((rd_T38 x1 (rd x3 x11)).f1))) (wrap64 (x11 + 1))) else (none)) else (none)) else (none)) else (if 0 ≤ x2 then (if x2 < (x1.length : Int) then (if x2 < (x0.length : Int) then ((cohousingref28_narrow.f ((rd_T38 x1 x2).f0) ((rd_T38 x1 x2).f1) x9 (wrap64 (x10 + ((rd_T63 x0 x2).f2)))).bind fun bt290 => (cohousingref28_equation.l1 k x0 x1 x2 x9 x10 ([] : List (S38)) 0 bt290.1 bt290.2)) else (none)) else (none)) else (none))
def cohousingref28_equation.l1 : Nat → List (S63) → List (S38) → Int → Int → Int → List (S38) → Int → Int → Int → Option ((List (S38)))
 | 0, _, _, _, _, _, _, _, _, _ => none
 | k + 1, x0, x1, x2, x9, x10, x13, x14, x293000, x293001 => if x14 < (x1.length : Int) then (if 0 ≤ x14 then (if x14 = x2 then (if x14 > x2 then (if x14 < (x0.length : Int) then (if 0 ≤ x2 then (if x2 < (x0.length : Int) then (if ((rd_T63 x0 x14).f1) = ((rd_T63 x0 x2).f0) then ((cohousingref28_narrow.f x293000 x293001 (wrap64 ((wrap64 (x293000 - ((rd_T63 x0 x2).f2))) - (wrap64 (x10 - x293001)))) (wrap64 (x293001 - (wrap64 (x9 - x293000))))).bind fun bt298 => (if x13.length < 8796093022208 then (cohousingref28_equation.l1 k x0 x1 x2 x9 x10 (x13 ++ [(⟨bt298.1, bt298.2⟩ : S38)]) (wrap64 (x14 + 1)) x293000 x293001) else (none))) else (if x13.length < 8796093022208 then (cohousingref28_equation.l1 k x0 x1 x2 x9 x10 (x13 ++ [(⟨x293000, x293001⟩ : S38)]) (wrap64 (x14 + 1)) x293000 x293001) else (none))) else (none)) else (none)) else (none)) else (if x13.length < 8796093022208 then (cohousingref28_equation.l1 k x0 x1 x2 x9 x10 (x13 ++ [(⟨x293000, x293001⟩ : S38)]) (wrap64 (x14 + 1)) x293000 x293001) else (none))) else (if x14 > x2 then (if x14 < (x0.length : Int) then (if 0 ≤ x2 then (if x2 < (x0.length : Int) then (if ((rd_T63 x0 x14).f1) = ((rd_T63 x0 x2).f0) then ((cohousingref28_narrow.f ((rd_T38 x1 x14).f0) ((rd_T38 x1 x14).f1) (wrap64 ((wrap64 (x293000 - ((rd_T63 x0 x2).f2))) - (wrap64 (x10 - ((rd_T38 x1 x14).f1))))) (wrap64 (x293001 - (wrap64 (x9 - ((rd_T38 x1 x14).f0)))))).bind fun bt312 => (if x13.length < 8796093022208 then (cohousingref28_equation.l1 k x0 x1 x2 x9 x10 (x13 ++ [(⟨bt312.1, bt312.2⟩ : S38)]) (wrap64 (x14 + 1)) x293000 x293001) else (none))) else (if x13.length < 8796093022208 then (cohousingref28_equation.l1 k x0 x1 x2 x9 x10 (x13 ++ [(⟨(rd_T38 x1 x14).f0, (rd_T38 x1 x14).f1⟩ : S38)]) (wrap64 (x14 + 1)) x293000 x293001) else (none))) else (none)) else (none)) else (none)) else (if x13.length < 8796093022208 then (cohousingref28_equation.l1 k x0 x1 x2 x9 x10 (x13 ++ [(⟨(rd_T38 x1 x14).f0, (rd_T38 x1 x14).f1⟩ : S38)]) (wrap64 (x14 + 1)) x293000 x293001) else (none)))) else (none)) else (some x13)
end
def cohousingref28_equation.f (k : Nat) (l0 : List (S63)) (l1 : List (S38)) (a2 : Int) (l3 : List Int) : Option ((List (S38))) := cohousingref28_equation.l0 k l0 l1 a2 l3 0 0 0
theorem cohousingref28_equation.mono_l : ∀ k, (∀ y0 y1 y2 y3 y4 y5 y6, LeO (cohousingref28_equation.l0 k y0 y1 y2 y3 y4 y5 y6) (cohousingref28_equation.l0 (k + 1) y0 y1 y2 y3 y4 y5 y6)) ∧ (∀ y0 y1 y2 y3 y4 y5 y6 y7 y8, LeO (cohousingref28_equation.l1 k y0 y1 y2 y3 y4 y5 y6 y7 y8) (cohousingref28_equation.l1 (k + 1) y0 y1 y2 y3 y4 y5 y6 y7 y8))
 | 0 => ⟨fun _ _ _ _ _ _ _ r h => by simp [cohousingref28_equation.l0] at h, fun _ _ _ _ _ _ _ _ _ r h => by simp [cohousingref28_equation.l1] at h⟩
 | k + 1 => by
  obtain ⟨ih0, ih1⟩ := cohousingref28_equation.mono_l k
  refine ⟨?_, ?_⟩
  ·intro y0 y1 y2 y3 y4 y5 y6
   unfold cohousingref28_equation.l0
   repeat' first
   | (with_reducible exact ih0 _ _ _ _ _ _ _)
   | (with_reducible exact ih1 _ _ _ _ _ _ _ _ _)
   | (with_reducible exact LeO.refl _)
   | (with_reducible exact LeO.none _)
   | (with_reducible refine LeO.ite ?_ ?_)
   | (with_reducible refine LeO.bind ?_ (fun _ => ?_))
   | exact ih0 _ _ _ _ _ _ _
   | exact ih1 _ _ _ _ _ _ _ _ _
   | exact LeO.none _
   | refine LeO.ite ?_ ?_
   | refine LeO.bind ?_ (fun _ => ?_)
  ·intro y0 y1 y2 y3 y4 y5 y6 y7 y8
   unfold cohousingref28_equation.l1
   repeat' first
   | (with_reducible exact ih0 _ _ _ _ _ _ _)
   | (with_reducible exact ih1 _ _ _ _ _ _ _ _ _)
   | (with_reducible exact LeO.refl _)
   | (with_reducible exact LeO.none _)
   | (with_reducible refine LeO.ite ?_ ?_)
   | (with_reducible refine LeO.bind ?_ (fun _ => ?_))
   | exact ih0 _ _ _ _ _ _ _
   | exact ih1 _ _ _ _ _ _ _ _ _
   | exact LeO.none _
   | refine LeO.ite ?_ ?_
   | refine LeO.bind ?_ (fun _ => ?_)
theorem cohousingref28_equation.mono : ∀ a0 a1 a2 a3 k, LeO (cohousingref28_equation.f k a0 a1 a2 a3) (cohousingref28_equation.f (k + 1) a0 a1 a2 a3) := by
 intro a0 a1 a2 a3 k
 obtain ⟨ih0, ih1⟩ := cohousingref28_equation.mono_l k
 unfold cohousingref28_equation.f
 repeat' first
   | (with_reducible exact ih0 _ _ _ _ _ _ _)
   | (with_reducible exact ih1 _ _ _ _ _ _ _ _ _)
   | (with_reducible exact LeO.refl _)
   | (with_reducible exact LeO.none _)
   | (with_reducible refine LeO.ite ?_ ?_)
   | (with_reducible refine LeO.bind ?_ (fun _ => ?_))
   | exact ih0 _ _ _ _ _ _ _
   | exact ih1 _ _ _ _ _ _ _ _ _
   | exact LeO.none _
   | refine LeO.ite ?_ ?_
   | refine LeO.bind ?_ (fun _ => ?_)
end
section
def cohousingref28_once.l0 : Nat → List (S63) → List (S38) → Int → Option ((List (S38)))
 | 0, _, _, _ => none
 | k + 1, x0, x1, x5 => if x5 ≥ 0 then ((cohousingref28_below.f k x0 x5).bind fun t323 => (if (t323.length : Int) > 0 then ((cohousingref28_empty.f k x1).bind fun t326 => (if t326 = true then (cohousingref28_once.l0 k x0 x1 (wrap64 (x5 - 1))) else ((cohousingref28_equation.f k x0 x1 x5 t323).bind fun t327 => (cohousingref28_once.l0 k x0 t327 (wrap64 (x5 - 1)))))) else (cohousingref28_once.l0 k x0 x1 (wrap64 (x5 - 1))))) else (some x1)
def cohousingref28_once.f (k : Nat) (l0 : List (S63)) (l1 : List (S38)) : Option ((List (S38))) := cohousingref28_once.l0 k l0 l1 (wrap64 ((l0.length : Int) - 1))
theorem cohousingref28_once.mono_l : ∀ k, (∀ y0 y1 y2, LeO (cohousingref28_once.l0 k y0 y1 y2) (cohousingref28_once.l0 (k + 1) y0 y1 y2))
 | 0 => fun _ _ _ r h => by simp [cohousingref28_once.l0] at h
 | k + 1 => by
  have ih0 := cohousingref28_once.mono_l k
  ·intro y0 y1 y2
   unfold cohousingref28_once.l0
   repeat' first
   | (with_reducible exact ih0 _ _ _)
   | (with_reducible exact cohousingref28_below.mono _ _ _)
   | (with_reducible exact cohousingref28_empty.mono _ _)
   | (with_reducible exact cohousingref28_equation.mono _ _ _ _ _)
   | (with_reducible exact LeO.refl _)
   | (with_reducible exact LeO.none _)
   | (with_reducible refine LeO.ite ?_ ?_)
   | (with_reducible refine LeO.bind ?_ (fun _ => ?_))
   | exact ih0 _ _ _
   | exact cohousingref28_below.mono _ _ _
   | exact cohousingref28_empty.mono _ _
   | exact cohousingref28_equation.mono _ _ _ _ _
   | exact LeO.none _
   | refine LeO.ite ?_ ?_
   | refine LeO.bind ?_ (fun _ => ?_)
theorem cohousingref28_once.mono : ∀ a0 a1 k, LeO (cohousingref28_once.f k a0 a1) (cohousingref28_once.f (k + 1) a0 a1) := by
 intro a0 a1 k
 have ih0 := cohousingref28_once.mono_l k
 unfold cohousingref28_once.f
 repeat' first
   | (with_reducible exact ih0 _ _ _)
   | (with_reducible exact cohousingref28_below.mono _ _ _)
   | (with_reducible exact cohousingref28_empty.mono _ _)
   | (with_reducible exact cohousingref28_equation.mono _ _ _ _ _)
   | (with_reducible exact LeO.refl _)
   | (with_reducible exact LeO.none _)
   | (with_reducible refine LeO.ite ?_ ?_)
   | (with_reducible refine LeO.bind ?_ (fun _ => ?_))
   | exact ih0 _ _ _
   | exact cohousingref28_below.mono _ _ _
   | exact cohousingref28_empty.mono _ _
   | exact cohousingref28_equation.mono _ _ _ _ _
   | exact LeO.none _
   | refine LeO.ite ?_ ?_
   | refine LeO.bind ?_ (fun _ => ?_)
end
section
def cohousingref28_bounds.l0 : Nat → List (S63) → List (S38) → Option ((List (S38)) × Bool)
 | 0, _, _ => none
 | k + 1, x0, x1 => (cohousingref28_once.f k x0 x1).bind fun t330 => ((cohousingref28_empty.f k t330).bind fun t333 => (if t333 = true then (some (([] : List (S38)), false)) else ((cohousingref28_Same.f k t330 x1).bind fun t334 => (if t334 = true then (some (t330, true)) else (cohousingref28_bounds.l0 k x0 t330)))))
def cohousingref28_bounds.f (k : Nat) (l0 : List (S63)) (l1 : List (S38)) : Option ((List (S38)) × Bool) := cohousingref28_bounds.l0 k l0 l1
theorem cohousingref28_bounds.mono_l : ∀ k, (∀ y0 y1, LeO (cohousingref28_bounds.l0 k y0 y1) (cohousingref28_bounds.l0 (k + 1) y0 y1))
 | 0 => fun _ _ r h => by simp [cohousingref28_bounds.l0] at h
 | k + 1 => by
  have ih0 := cohousingref28_bounds.mono_l k
  ·intro y0 y1
   unfold cohousingref28_bounds.l0
   repeat' first
   | (with_reducible exact ih0 _ _)
   | (with_reducible exact cohousingref28_Same.mono _ _ _)
   | (with_reducible exact cohousingref28_empty.mono _ _)
   | (with_reducible exact cohousingref28_once.mono _ _ _)
   | (with_reducible exact LeO.refl _)
   | (with_reducible exact LeO.none _)
   | (with_reducible refine LeO.ite ?_ ?_)
   | (with_reducible refine LeO.bind ?_ (fun _ => ?_))
   | exact ih0 _ _
   | exact cohousingref28_Same.mono _ _ _
   | exact cohousingref28_empty.mono _ _
   | exact cohousingref28_once.mono _ _ _
   | exact LeO.none _
   | refine LeO.ite ?_ ?_
   | refine LeO.bind ?_ (fun _ => ?_)
theorem cohousingref28_bounds.mono : ∀ a0 a1 k, LeO (cohousingref28_bounds.f k a0 a1) (cohousingref28_bounds.f (k + 1) a0 a1) := by
 intro a0 a1 k
 have ih0 := cohousingref28_bounds.mono_l k
 unfold cohousingref28_bounds.f
 repeat' first
   | (with_reducible exact ih0 _ _)
   | (with_reducible exact cohousingref28_Same.mono _ _ _)
   | (with_reducible exact cohousingref28_empty.mono _ _)
   | (with_reducible exact cohousingref28_once.mono _ _ _)
   | (with_reducible exact LeO.refl _)
   | (with_reducible exact LeO.none _)
   | (with_reducible refine LeO.ite ?_ ?_)
   | (with_reducible refine LeO.bind ?_ (fun _ => ?_))
   | exact ih0 _ _
   | exact cohousingref28_Same.mono _ _ _
   | exact cohousingref28_empty.mono _ _
   | exact cohousingref28_once.mono _ _ _
   | exact LeO.none _
   | refine LeO.ite ?_ ?_
   | refine LeO.bind ?_ (fun _ => ?_)
end
section
def cohousingref28_Bounds.j0 : Nat → List (S63) → List (S38) → Bool → Option ((List (S38)) × Int)
 | 0, _, _, _ => none
 | k + 1, x0, x1, x20 => if x20 = true then (some (([] : List (S38)), 1)) else ((cohousingref28_bounds.f k x0 x1).bind fun bt337 => (if bt337.2 = true then ((some (([] : List (S38)) : List (S38))).bind fun y341 => (if y341.length + bt337.1.length < 8796093022208 then (some ((y341 ++ bt337.1), 0)) else (none))) else (some (([] : List (S38)), 30))))
def cohousingref28_Bounds.f (k : Nat) (l0 : List (S63)) (l1 : List (S38)) : Option ((List (S38)) × Int) := (cohousingref28_Valid.f k l0).bind fun t335 => ((cohousingref28_Belongs.f l0 l1).bind fun t336 => (if t335 = true then (cohousingref28_Bounds.j0 k l0 l1 (!t336)) else (cohousingref28_Bounds.j0 k l0 l1 true)))
theorem cohousingref28_Bounds.mono_l : ∀ k, (∀ y0 y1 y2, LeO (cohousingref28_Bounds.j0 k y0 y1 y2) (cohousingref28_Bounds.j0 (k + 1) y0 y1 y2))
 | 0 => fun _ _ _ r h => by simp [cohousingref28_Bounds.j0] at h
 | k + 1 => by
  have ih0 := cohousingref28_Bounds.mono_l k
  ·intro y0 y1 y2
   unfold cohousingref28_Bounds.j0
   repeat' first
   | (with_reducible exact ih0 _ _ _)
   | (with_reducible exact cohousingref28_Valid.mono _ _)
   | (with_reducible exact cohousingref28_bounds.mono _ _ _)
   | (with_reducible exact LeO.refl _)
   | (with_reducible exact LeO.none _)
   | (with_reducible refine LeO.ite ?_ ?_)
   | (with_reducible refine LeO.bind ?_ (fun _ => ?_))
   | exact ih0 _ _ _
   | exact cohousingref28_Valid.mono _ _
   | exact cohousingref28_bounds.mono _ _ _
   | exact LeO.none _
   | refine LeO.ite ?_ ?_
   | refine LeO.bind ?_ (fun _ => ?_)
theorem cohousingref28_Bounds.mono : ∀ a0 a1 k, LeO (cohousingref28_Bounds.f k a0 a1) (cohousingref28_Bounds.f (k + 1) a0 a1) := by
 intro a0 a1 k
 have ih0 := cohousingref28_Bounds.mono_l k
 unfold cohousingref28_Bounds.f
 repeat' first
   | (with_reducible exact ih0 _ _ _)
   | (with_reducible exact cohousingref28_Valid.mono _ _)
   | (with_reducible exact cohousingref28_bounds.mono _ _ _)
   | (with_reducible exact LeO.refl _)
   | (with_reducible exact LeO.none _)
   | (with_reducible refine LeO.ite ?_ ?_)
   | (with_reducible refine LeO.bind ?_ (fun _ => ?_))
   | exact ih0 _ _ _
   | exact cohousingref28_Valid.mono _ _
   | exact cohousingref28_bounds.mono _ _ _
   | exact LeO.none _
   | refine LeO.ite ?_ ?_
   | refine LeO.bind ?_ (fun _ => ?_)
end
end Go.Proofs.Ytbgchacafglcpaa.P
end
section
namespace Go.Proofs.Ytbgchacafglcpaa.P
open Go.RowKit Go.Proofs.YtbgchacafglcpaaW.PrintWords Go.Proofs.YtbgchacafglcpaaW.PrintLast Go.Proofs.YtbgchacafglcpaaW.PrintMore Go.Proofs.YtbgchacafglcpaaH
def cohousingref28_with.f (l0 : List (S38)) (a1 : Int) (a2 : Int) : Option ((List (S38))) := (some (([] : List (S38)) : List (S38))).bind fun y281 => (if y281.length + l0.length < 8796093022208 then ((some (y281 ++ l0 : List (S38))).bind fun y284 => (if 0 ≤ a1 then (if a1 < (y284.length : Int) then (some (y284.set (a1 : Int).toNat (⟨a2, a2⟩ : S38))) else (none)) else (none))) else (none))
mutual
def cohousingref28_State.j0 : Nat → List (S63) → List (S38) → Int → Int → Bool → Option (List Int × Int)
 | 0, _, _, _, _, _ => none
 | k + 1, x0, x1, x2, x3, x38 => if x38 = true then (some (([] : List Int), 1)) else (if 0 ≤ x2 then (if x2 < (x1.length : Int) then (if x3 < ((rd_T38 x1 x2).f0) then (cohousingref28_State.j1 k x0 x1 x2 x3 true) else (cohousingref28_State.j1 k x0 x1 x2 x3 (decide (x3 > ((rd_T38 x1 x2).f1))))) else (none)) else (none))
def cohousingref28_State.j1 : Nat → List (S63) → List (S38) → Int → Int → Bool → Option (List Int × Int)
 | 0, _, _, _, _, _ => none
 | k + 1, x0, x1, x2, x3, x54 => if x54 = true then (some (([] : List Int), 30)) else ((cohousingref28_with.f x1 x2 x3).bind fun t292 => ((cohousingref28_bounds.f k x0 t292).bind fun bt295 => (if bt295.2 = true then (cohousingref28_State.l0 k x0 bt295.1 ([] : List Int) 0) else (some (([] : List Int), 30)))))
def cohousingref28_State.l0 : Nat → List (S63) → List (S38) → List Int → Int → Option (List Int × Int)
 | 0, _, _, _, _ => none
 | k + 1, x0, x12, x14, x15 => if x15 < (x0.length : Int) then (if 0 ≤ x15 then (if x15 < (x12.length : Int) then (if x14.length < 17592186044416 then ((some (x14 ++ [(rd_T38 x12 x15).f0] : List Int)).bind fun y300 => ((cohousingref28_with.f x12 x15 ((rd_T38 x12 x15).f0)).bind fun t304 => ((cohousingref28_bounds.f k x0 t304).bind fun bt307 => (if bt307.2 = true then (cohousingref28_State.l0 k x0 bt307.1 y300 (wrap64 (x15 + 1))) else (cohousingref28_State.l0 k x0 x12 y300 (wrap64 (x15 + 1))))))) else (none)) else (none)) else (none)) else (some (x14, 0))
end
def cohousingref28_State.f (k : Nat) (l0 : List (S63)) (l1 : List (S38)) (a2 : Int) (a3 : Int) : Option (List Int × Int) := (cohousingref28_Valid.f k l0).bind fun t288 => ((cohousingref28_Belongs.f l0 l1).bind fun t289 => (if t288 = true then (if t289 = true then (if a2 < 0 then (cohousingref28_State.j0 k l0 l1 a2 a3 true) else (cohousingref28_State.j0 k l0 l1 a2 a3 (decide (a2 ≥ (l0.length : Int))))) else (cohousingref28_State.j0 k l0 l1 a2 a3 true)) else (cohousingref28_State.j0 k l0 l1 a2 a3 true)))
mutual
def cohousingref28_Consistent.j0 : Nat → List (S63) → List (S38) → List Int → Bool → Option (Bool × Int)
 | 0, _, _, _, _ => none
 | k + 1, x0, x1, x2, x32 => if x32 = true then (some (false, 1)) else (cohousingref28_Consistent.l0 k x0 x1 x2 0)
def cohousingref28_Consistent.l0 : Nat → List (S63) → List (S38) → List Int → Int → Option (Bool × Int)
 | 0, _, _, _, _ => none
 | k + 1, x0, x1, x2, x10 => if x10 < (x0.length : Int) then (if 0 ≤ x10 then (if x10 < (x2.length : Int) then (if x10 < (x1.length : Int) then (if (rd x2 x10) < ((rd_T38 x1 x10).f0) then (some (false, 0)) else (if (rd x2 x10) > ((rd_T38 x1 x10).f1) then (some (false, 0)) else (cohousingref28_Consistent.l0 k x0 x1 x2 (wrap64 (x10 + 1))))) else (none)) else (none)) else (none)) else (cohousingref28_Consistent.l1 k x0 x2 0)
def cohousingref28_Consistent.l1 : Nat → List (S63) → List Int → Int → Option (Bool × Int)
 | 0, _, _, _ => none
 | k + 1, x0, x2, x11 => if x11 < (x0.length : Int) then ((cohousingref28_below.f k x0 x11).bind fun t274 => (if 0 ≤ x11 then (if x11 < (x2.length : Int) then (cohousingref28_Consistent.l2 k x0 x2 x11 t274 (rd x2 x11) 0) else (none)) else (none))) else (some (true, 0))
def cohousingref28_Consistent.l2 : Nat → List (S63) → List Int → Int → List Int → Int → Int → Option (Bool × Int)
 | 0, _, _, _, _, _, _ => none
 | k + 1, x0, x2, x11, x12, x13, x14 => if x14 < (x12.length : Int) then (if 0 ≤ x14 then (if 0 ≤ (rd x12 x14) then (if (rd x12 x14) < (x2.length : Int) then (cohousingref28_Consistent.l2 k x0 x2 x11 x12 (wrap64 (x13 - (rd x2 (rd x12 x14)))) (wrap64 (x14 + 1))) else (none)) else (none)) else (none)) else (if (x12.length : Int) > 0 then (if x13 < 0 then (some (false, 0)) else (if 0 ≤ x11 then (if x11 < (x0.length : Int) then (if x13 > ((rd_T63 x0 x11).f2) then (some (false, 0)) else (cohousingref28_Consistent.l1 k x0 x2 (wrap64 (x11 + 1)))) else (none)) else (none))) else (cohousingref28_Consistent.l1 k x0 x2 (wrap64 (x11 + 1))))
end
def cohousingref28_Consistent.f (k : Nat) (l0 : List (S63)) (l1 : List (S38)) (l2 : List Int) : Option (Bool × Int) := (cohousingref28_Valid.f k l0).bind fun t268 => ((cohousingref28_Belongs.f l0 l1).bind fun t269 => (if t268 = true then (if t269 = true then (cohousingref28_Consistent.j0 k l0 l1 l2 ((l2.length : Int) != (l0.length : Int))) else (cohousingref28_Consistent.j0 k l0 l1 l2 true)) else (cohousingref28_Consistent.j0 k l0 l1 l2 true)))
end Go.Proofs.Ytbgchacafglcpaa.P
end
section
namespace Go.Proofs.Ytbgchacafglcpaa.P
open Go.RowKit Go.Proofs.YtbgchacafglcpaaW.PrintWords Go.Proofs.YtbgchacafglcpaaW.PrintLast Go.Proofs.YtbgchacafglcpaaW.PrintMore Go.Proofs.YtbgchacafglcpaaH Go.Proofs.FlowTree
abbrev idP (l : List S63) (i : Nat) : Int := (rd_T63 l i).f0
abbrev abP (l : List S63) (i : Nat) : Int := (rd_T63 l i).f1
abbrev loP (l : List S63) (i : Nat) : Int := (rd_T63 l i).f2
def okP (l : List S63) (i : Nat) : Prop := 1 ≤ idP l i ∧ (0 < i → idP l (i - 1) < idP l i) ∧ (0 ≤ loP l i ∧ loP l i ≤ 1000000000) ∧ (abP l i ≠ 0 → ∃ j, j < i ∧ idP l j = abP l i)
def kidsAt (l : List S63) (m i : Nat) : List Nat := (List.range m).filter (fun k => decide (i < k) && decide (abP l k = idP l i))
def netT (l : List S63) : Net := { n := l.length, kid := kidsAt l l.length, loss := loP l }
theorem kidsAt_mem {l : List S63} {m i k : Nat} : k ∈ kidsAt l m i ↔ k < m ∧ i < k ∧ abP l k = idP l i := by
 simp [kidsAt]
theorem kidsAt_succ (l : List S63) (m i : Nat) : kidsAt l (m + 1) i = kidsAt l m i ++ (if i < m ∧ abP l m = idP l i then [m] else []) := by
 unfold kidsAt
 rw [List.range_succ, List.filter_append]
 congr 1
 by_cases h : i < m ∧ abP l m = idP l i
 ·rw [if_pos h, List.filter_cons_of_pos (by simp [h])]; rfl
 ·rw [if_neg h, List.filter_cons_of_neg (by simpa using h)]; rfl
theorem asc_of {l : List S63} {m : Nat} (h : ∀ i, i < m → okP l i) : ∀ d i j, j = i + d + 1 → j < m → idP l i < idP l j := by
 intro d
 induction d with
 | zero =>
  intro i j e hj
  have := (h j hj).2.1 (by omega)
  rwa [show j - 1 = i by omega] at this
 | succ d ih =>
  intro i j e hj
  have h1 := ih i (j - 1) (by omega) (by omega)
  have h2 := (h j hj).2.1 (by omega)
  omega
theorem asc {l : List S63} {m : Nat} (h : ∀ i, i < m → okP l i) {i j : Nat} (hij : i < j) (hj : j < m) : idP l i < idP l j := asc_of h (j - i - 1) i j (by omega) hj
theorem id_inj {l : List S63} {m : Nat} (h : ∀ i, i < m → okP l i) {i j : Nat} (hi : i < m) (hj : j < m) (e : idP l i = idP l j) : i = j := by
 rcases Nat.lt_trichotomy i j with h1 | h1 | h1
 ·have := asc h h1 hj; omega
 ·exact h1
 ·have := asc h h1 hi; omega
theorem isVol_iff (n : Int) : isVol n = true ↔ 0 ≤ n ∧ n ≤ 1000000000 := by simp [isVol]
structure OpenAt (l : List S63) (m : Nat) (kids : List (List Int)) (at_ : Int → Option Int) : Prop where
 len : kids.length = l.length
 kid : ∀ j, j < l.length → rdK kids j = (kidsAt l m j).map Int.ofNat
 has : ∀ id j, at_ id = some j → ∃ n : Nat, j = n ∧ n < m ∧ idP l n = id
 all : ∀ n, n < m → at_ (idP l n) = some (n : Int)
theorem rdK_set (kids : List (List Int)) (i j : Nat) (x : List Int) (hi : i < kids.length) : rdK (kids.set i x) j = if i = j then x else rdK kids j := by
 simp only [rdK, List.getD_eq_getElem?_getD, Int.toNat_natCast, List.getElem?_set]
 by_cases h : i = j
 ·subst h; simp [hi]
 ·simp [h]
theorem bad_iff (l : List S63) (m : Nat) (kids : List (List Int)) (at_ : Int → Option Int) (h : OpenAt l m kids at_) : badP l m (at_ (abP l m)).isSome = false ↔ okP l m := by
 have hasiff : (at_ (abP l m)).isSome = true ↔ ∃ j, j < m ∧ idP l j = abP l m := by
  constructor
  ·intro hs
   obtain ⟨j, hj⟩ := Option.isSome_iff_exists.1 hs
   obtain ⟨n, _, hn, e⟩ := h.has _ _ hj
   exact ⟨n, hn, e⟩
  ·rintro ⟨j, hj, e⟩
   rw [← e, h.all j hj]
   rfl
 have hm1 : (0 : Int) < (m : Int) → ((m : Int) - 1) = ((m - 1 : Nat) : Int) := by omega
 unfold badP okP
 simp only [idP, loP, abP] at *
 constructor
 ·intro hb
  simp only [Bool.or_eq_false_iff, Bool.and_eq_false_iff, decide_eq_false_iff_not, Bool.not_eq_false', isVol_iff, bne_eq_false_iff_eq, Bool.not_eq_false'] at hb
  obtain ⟨⟨⟨h1, h2⟩, h3⟩, h4⟩ := hb
  refine ⟨by omega, fun hm => ?_, h3, fun ha => ?_⟩
  ·rcases h2 with h2 | h2
   ·omega
   ·rw [hm1 (by omega)] at h2; omega
  ·rcases h4 with h4 | h4
   ·exact absurd h4 ha
   ·exact hasiff.1 h4
 ·rintro ⟨h1, h2, h3, h4⟩
  simp only [Bool.or_eq_false_iff, Bool.and_eq_false_iff, decide_eq_false_iff_not, Bool.not_eq_false', isVol_iff, bne_eq_false_iff_eq, Bool.not_eq_false']
  refine ⟨⟨⟨by omega, ?_⟩, h3⟩, ?_⟩
  ·by_cases hm : 0 < m
   ·refine .inr ?_
    rw [hm1 (by omega)]
    have := h2 hm
    omega
   ·exact .inl (by omega)
  ·by_cases ha : abP l m = 0
   ·exact .inl ha
   ·exact .inr (hasiff.2 (h4 ha))
theorem open_step (l : List S63) (m : Nat) (hm : m < l.length) (kids : List (List Int)) (at_ : Int → Option Int) (h : OpenAt l m kids at_) (hok : ∀ i, i < m + 1 → okP l i) :
  OpenAt l (m + 1) (addKid kids (at_ (abP l m)) m) (setI at_ (idP l m) m) := by
 refine ⟨(addKid_len _ _ _).trans h.len, fun j hj => ?_, fun id j hj => ?_, fun n hn => ?_⟩
 ·rw [kidsAt_succ, List.map_append]
  cases ha : at_ (abP l m) with
  | none =>
   have hno : ¬ (j < m ∧ abP l m = idP l j) := by
    rintro ⟨h1, h2⟩
    rw [h2, h.all j h1] at ha
    cases ha
   rw [if_neg hno]
   simp only [addKid, List.map_nil, List.append_nil]
   exact h.kid j hj
  | some a =>
   obtain ⟨n, rfl, hn, hid⟩ := h.has _ _ ha
   have hnl : n < kids.length := by rw [h.len]; omega
   simp only [addKid]
   rw [Int.toNat_natCast, rdK_set _ _ _ _ hnl]
   by_cases e : n = j
   ·subst e
    rw [if_pos rfl, if_pos ⟨hn, hid.symm⟩, h.kid n hj]
    rfl
   ·rw [if_neg e, if_neg (fun hh => e (id_inj hok (by omega) (by omega) (hid.trans hh.2))), h.kid j hj]
    simp
 ·unfold setI at hj
  split at hj
  ·rename_i e
   injection hj with hj
   exact ⟨m, hj.symm, by omega, e.symm⟩
  ·obtain ⟨n, e, hn, hid⟩ := h.has _ _ hj
   exact ⟨n, e, by omega, hid⟩
 ·unfold setI
  by_cases e : n = m
  ·subst e; rw [if_pos rfl]
  ·rw [if_neg (fun hh => e (id_inj hok (by omega) (by omega) hh)), h.all n (by omega)]
theorem openL_spec (l : List S63) : ∀ (k m : Nat) (kids : List (List Int)) (at_ : Int → Option Int), m + k = l.length → OpenAt l m kids at_ → (∀ i, i < m → okP l i) →
  (∀ r, openL l k kids at_ m = some r → (∀ i, i < l.length → okP l i) ∧ r.length = l.length ∧ ∀ j, j < l.length → rdK r j = (kidsAt l l.length j).map Int.ofNat) ∧ ((∀ i, i < l.length → okP l i) → ∃ r, openL l k kids at_ m = some r) := by
 intro k
 induction k with
 | zero =>
  intro m kids at_ hm h hok
  have e : m = l.length := by omega
  subst e
  refine ⟨fun r hr => ?_, fun _ => ⟨kids, rfl⟩⟩
  simp only [openL, Option.some.injEq] at hr
  subst hr
  exact ⟨hok, h.len, h.kid⟩
 | succ k ih =>
  intro m kids at_ hm h hok
  have hb := bad_iff l m kids at_ h
  simp only [openL]
  cases hbad : badP l m (at_ (abP l m)).isSome with
  | true =>
   have hno : ¬ okP l m := fun ho => by rw [hb.2 ho] at hbad; cases hbad
   rw [if_pos rfl]
   exact ⟨(fun r hr => by cases hr), fun ho => absurd (ho m (by omega)) hno⟩
  | false =>
   have hyes := hb.1 hbad
   rw [if_neg (by decide)]
   have hok' : ∀ i, i < m + 1 → okP l i := fun i hi => by
    by_cases h' : i < m
    ·exact hok i h'
    ·rw [show i = m by omega]; exact hyes
   have := ih (m + 1) (addKid kids (at_ (abP l m)) m) (setI at_ (idP l m) m) (by omega) (open_step l m (by omega) kids at_ h hok') hok'
   rw [show ((m + 1 : Nat) : Int) = (m : Int) + 1 from by omega] at this
   exact this
theorem openAt0 (l : List S63) : OpenAt l 0 (List.replicate l.length []) (fun _ => none) := by
 refine ⟨by simp, fun j hj => ?_, (fun id j hj => by cases hj), fun n hn => absurd hn (Nat.not_lt_zero _)⟩
 simp [rdK, kidsAt, List.getD_eq_getElem?_getD, hj]
def okL (l : List S63) : Prop := ∀ i, i < l.length → okP l i
theorem openK_some {l : List S63} {kids : List (List Int)} (h : openK l = some kids) : okL l ∧ ∀ j, j < l.length → rdK kids j = (kidsAt l l.length j).map Int.ofNat := by
 have := (openL_spec l l.length 0 _ _ (by omega) (openAt0 l) (fun i hi => absurd hi (Nat.not_lt_zero _))).1 kids h
 exact ⟨this.1, this.2.2⟩
theorem openK_of {l : List S63} (h : okL l) : ∃ kids, openK l = some kids :=
 (openL_spec l l.length 0 _ _ (by omega) (openAt0 l) (fun i hi => absurd hi (Nat.not_lt_zero _))).2 h
theorem netT_ok {l : List S63} (h : okL l) : (netT l).Ok := by
 refine ⟨fun i k hk => ?_, fun i => ?_, fun i j k hi hj => ?_, fun i hi => (h i hi).2.2.1.1⟩
 ·have := kidsAt_mem.1 hk; exact ⟨this.2.1, this.1⟩
 ·exact List.Nodup.sublist List.filter_sublist List.nodup_range
 ·have h1 := kidsAt_mem.1 hi
  have h2 := kidsAt_mem.1 hj
  exact id_inj h (show i < l.length by omega) (show j < l.length by omega) (h1.2.2.symm.trans h2.2.2)
end Go.Proofs.Ytbgchacafglcpaa.P
end
section
namespace Go.Proofs.Ytbgchacafglcpaa.P
open Go.RowKit Go.Proofs.YtbgchacafglcpaaW.PrintWords Go.Proofs.YtbgchacafglcpaaW.PrintLast Go.Proofs.YtbgchacafglcpaaW.PrintMore Go.Proofs.YtbgchacafglcpaaH Go.Proofs.FlowTree
abbrev IV := S74
abbrev PI := S63
abbrev rv (r : List IV) (i : Nat) : IV := rd_T74 r i
def Lo (r : List IV) (i : Nat) : Int := (rv r i).f0
def Hi (r : List IV) (i : Nat) : Int := (rv r i).f1
def Vol (n : Nat) (lo hi : Nat → Int) : Prop := ∀ i, i < n → 0 ≤ lo i ∧ lo i ≤ hi i ∧ hi i ≤ 1000000000
theorem rv_set (r : List IV) (i j : Nat) (y : IV) (hi : i < r.length) : rv (r.set i y) j = if i = j then y else rv r j := by
 simp only [rv, rd_T74, List.getD_eq_getElem?_getD, Int.toNat_natCast, List.getElem?_set]
 by_cases h : i = j
 ·subst h; simp [hi]
 ·simp [h]
theorem wrap_id {n : Int} (h1 : -9223372036854775808 ≤ n) (h2 : n ≤ 9223372036854775807) : wrap64 n = n := by unfold wrap64; omega
theorem total_fold (φ : IV → Int) (xs : List IV) : ∀ s : Int, 0 ≤ s → s + 1000000000 * xs.length ≤ 1000000000000 → (∀ x ∈ xs, 0 ≤ φ x ∧ φ x ≤ 1000000000) → xs.foldl (fun s x => wrap64 (s + φ x)) s = (xs.map φ).foldl (· + ·) s := by
 induction xs with
 | nil => intro s _ _ _; rfl
 | cons x xs ih =>
  intro s h0 h1 h
  have hx := h x (by simp)
  simp only [List.length_cons, Int.natCast_add, Int.natCast_one, Int.mul_add, Int.mul_one] at h1
  have hl : (0 : Int) ≤ 1000000000 * xs.length := by omega
  rw [List.foldl_cons, List.map_cons, List.foldl_cons, wrap_id (by omega) (by omega)]
  exact ih (s + φ x) (by omega) (by omega) (fun y hy => h y (List.mem_cons_of_mem _ hy))
theorem total_eq (φ : IV → Int) (r : List IV) (ks : List Nat) (hl : ks.length ≤ 200) (h : ∀ k ∈ ks, 0 ≤ φ (rv r k) ∧ φ (rv r k) ≤ 1000000000) : totalF φ (ks.map (fun k => rv r k)) = sm (fun k => φ (rv r k)) ks := by
 unfold totalF sm
 rw [total_fold φ _ 0 (Int.le_refl _) (by rw [List.length_map]; omega) (by
  intro x hx
  obtain ⟨k, hk, rfl⟩ := List.mem_map.1 hx
  exact h k hk), List.map_map]
 rfl
theorem kids_len (l : List PI) (i : Nat) : (kidsAt l l.length i).length ≤ l.length := by
 unfold kidsAt
 exact Nat.le_trans (List.length_filter_le _ _) (by simp)
section
variable {l : List PI} {kids : List (List Int)}
theorem below_eq (hk : ∀ j, j < l.length → rdK kids j = (kidsAt l l.length j).map Int.ofNat) (r : List IV) (i : Nat) (hi : i < l.length) : belowI kids r i = (kidsAt l l.length i).map (fun k => rv r k) := by
 unfold belowI
 rw [hk i hi, List.map_map]
 rfl
theorem cutI_f0 (x : IV) (a b : Int) : (cutI x a b).f0 = max x.f0 a := by simp only [cutI, mx]; split <;> omega
theorem cutI_f1 (x : IV) (a b : Int) : (cutI x a b).f1 = min x.f1 b := by simp only [cutI, mn]; split <;> omega
structure UpAt (l : List PI) (r : List IV) (m : Nat) (u : List IV) : Prop where
 len : u.length = l.length
 old : ∀ j, j < m → rv u j = rv r j
 now : (∃ j, m ≤ j ∧ j < l.length ∧ Hi u j < Lo u j) ∧ (¬ ∃ x, Sol (netT l) (Lo r) (Hi r) x) ∨
  (∀ j, m ≤ j → j < l.length → (0 ≤ Lo u j ∧ Lo u j ≤ Hi u j ∧ Hi u j ≤ 1000000000 ∧ Lo r j ≤ Lo u j ∧ Hi u j ≤ Hi r j) ∧ (kidsAt l l.length j ≠ [] → sm (Lo u) (kidsAt l l.length j) ≤ Lo u j ∧ Hi u j ≤ sm (Hi u) (kidsAt l l.length j) + loP l j)) ∧
  (∀ x, Sol (netT l) (Lo r) (Hi r) x → ∀ j, m ≤ j → j < l.length → Lo u j ≤ x j ∧ x j ≤ Hi u j)
theorem up_step (hok : okL l) (hn : l.length ≤ 200) (hk : ∀ j, j < l.length → rdK kids j = (kidsAt l l.length j).map Int.ofNat) {r u : List IV} (hv : Vol l.length (Lo r) (Hi r)) {i : Nat} (hi : i < l.length) (h : UpAt l r (i + 1) u) :
  UpAt l r i (upStep l kids u i) := by
 have hil : i < u.length := by rw [h.len]; exact hi
 have hlo : (rd_T63 l i).f2 = loP l i := rfl
 unfold upStep
 rw [below_eq hk u i hi, List.length_map, hlo]
 by_cases hne : kidsAt l l.length i = []
 ·rw [hne]
  simp only [List.length_nil, Nat.lt_irrefl, if_false]
  refine ⟨h.len, fun j hj => h.old j (by omega), ?_⟩
  have e : rv u i = rv r i := h.old i (by omega)
  rcases h.now with ⟨⟨j, h1, h2, h3⟩, hs⟩ | ⟨ha, hs⟩
  ·exact .inl ⟨⟨j, by omega, h2, h3⟩, hs⟩
  ·refine .inr ⟨fun j h1 h2 => ?_, fun x hx j h1 h2 => ?_⟩
   ·by_cases hj : i + 1 ≤ j
    ·exact ha j hj h2
    ·have e2 : j = i := by omega
     subst e2
     have h4 := hv j h2
     refine ⟨?_, fun hc => absurd hne hc⟩
     simp only [Lo, Hi, e] at *
     omega
   ·by_cases hj : i + 1 ≤ j
    ·exact hs x hx j hj h2
    ·have e2 : j = i := by omega
     subst e2
     have h4 := hx.1 j h2
     simp only [Lo, Hi, e] at *
     exact h4
 ·have hpos : 0 < (kidsAt l l.length i).length := List.length_pos_iff.2 hne
  rw [if_pos hpos, Int.toNat_natCast]
  have hset : ∀ y j, rv (u.set i y) j = if i = j then y else rv u j := fun y j => rv_set u i j y hil
  have hkid : ∀ k ∈ kidsAt l l.length i, i + 1 ≤ k ∧ k < l.length := fun k hk' => by have := kidsAt_mem.1 hk'; exact ⟨by omega, by omega⟩
  rcases h.now with ⟨⟨j, h1, h2, h3⟩, hs⟩ | ⟨ha, hs⟩
  ·refine ⟨by rw [List.length_set]; exact h.len, fun j hj => by rw [hset, if_neg (by omega)]; exact h.old j (by omega), .inl ⟨⟨j, by omega, h2, ?_⟩, hs⟩⟩
   simp only [Lo, Hi, hset, if_neg (show ¬ i = j by omega)] at *
   exact h3
  ·have hL : totalF S74.f0 ((kidsAt l l.length i).map (fun k => rv u k)) = sm (Lo u) (kidsAt l l.length i) := by
    rw [total_eq _ _ _ (Nat.le_trans (kids_len l i) hn) (fun k hk' => by have := (ha k (hkid k hk').1 (hkid k hk').2).1; simp only [Lo, Hi] at this; omega)]
    rfl
   have hH : totalF S74.f1 ((kidsAt l l.length i).map (fun k => rv u k)) = sm (Hi u) (kidsAt l l.length i) := by
    rw [total_eq _ _ _ (Nat.le_trans (kids_len l i) hn) (fun k hk' => by have := (ha k (hkid k hk').1 (hkid k hk').2).1; simp only [Lo, Hi] at this; omega)]
    rfl
   have bH := sm_bound (f := Hi u) (ks := kidsAt l l.length i) (a := 0) (b := 1000000000) (fun k hk' => by have := (ha k (hkid k hk').1 (hkid k hk').2).1; omega)
   have bL := sm_bound (f := Lo u) (ks := kidsAt l l.length i) (a := 0) (b := 1000000000) (fun k hk' => by have := (ha k (hkid k hk').1 (hkid k hk').2).1; omega)
   have bl := kids_len l i
   have bo := (hok i hi).2.2.1
   rw [hL, hH, wrap_id (by omega) (by omega)]
   obtain ⟨y, hy⟩ : ∃ y, y = cutI (rd_T74 u i) (sm (Lo u) (kidsAt l l.length i)) (sm (Hi u) (kidsAt l l.length i) + loP l i) := ⟨_, rfl⟩
   rw [← hy]
   have hy0 : y.f0 = max (Lo u i) (sm (Lo u) (kidsAt l l.length i)) := by rw [hy, cutI_f0]; rfl
   have hy1 : y.f1 = min (Hi u i) (sm (Hi u) (kidsAt l l.length i) + loP l i) := by rw [hy, cutI_f1]; rfl
   have er : rv u i = rv r i := h.old i (by omega)
   have hri := hv i hi
   have hrl : Lo u i = Lo r i := by simp only [Lo, er]
   have hrh : Hi u i = Hi r i := by simp only [Hi, er]
   have hsol : ∀ x, Sol (netT l) (Lo r) (Hi r) x → y.f0 ≤ x i ∧ x i ≤ y.f1 := by
    intro x hx
    have h1 := hx.1 i hi
    have h2 := hx.2 i hi hne
    have h3 : sm (Lo u) (kidsAt l l.length i) ≤ sm x (kidsAt l l.length i) := sm_le (fun k hk' => (hs x hx k (hkid k hk').1 (hkid k hk').2).1)
    have h4 : sm x (kidsAt l l.length i) ≤ sm (Hi u) (kidsAt l l.length i) := sm_le (fun k hk' => (hs x hx k (hkid k hk').1 (hkid k hk').2).2)
    simp only [netT] at h2
    omega
   have old' : ∀ j, j < i → rv (u.set i y) j = rv r j := fun j hj => by rw [hset, if_neg (by omega)]; exact h.old j (by omega)
   have hne' : ∀ j, i ≠ j → Lo (u.set i y) j = Lo u j ∧ Hi (u.set i y) j = Hi u j := fun j hj => ⟨by simp only [Lo, hset, if_neg hj], by simp only [Hi, hset, if_neg hj]⟩
   have hi0 : Lo (u.set i y) i = y.f0 ∧ Hi (u.set i y) i = y.f1 := ⟨by simp only [Lo, hset, if_true], by simp only [Hi, hset, if_true]⟩
   have hkn : ∀ j, i ≤ j → ∀ k ∈ kidsAt l l.length j, i ≠ k := fun j hj k hk' => by have := kidsAt_mem.1 hk'; omega
   refine ⟨by rw [List.length_set]; exact h.len, old', ?_⟩
   by_cases hem : y.f0 ≤ y.f1
   ·refine .inr ⟨fun j h1 h2 => ?_, fun x hx j h1 h2 => ?_⟩
    ·have hsL : sm (Lo (u.set i y)) (kidsAt l l.length j) = sm (Lo u) (kidsAt l l.length j) := sm_congr (fun k hk' => (hne' k (hkn j h1 k hk')).1)
     have hsH : sm (Hi (u.set i y)) (kidsAt l l.length j) = sm (Hi u) (kidsAt l l.length j) := sm_congr (fun k hk' => (hne' k (hkn j h1 k hk')).2)
     rw [hsL, hsH]
     by_cases hj : i + 1 ≤ j
     ·rw [(hne' j (by omega)).1, (hne' j (by omega)).2]
      exact ha j hj h2
     ·have e2 : j = i := by omega
      subst e2
      rw [hi0.1, hi0.2]
      exact ⟨by omega, fun _ => by omega⟩
    ·by_cases hj : i + 1 ≤ j
     ·rw [(hne' j (by omega)).1, (hne' j (by omega)).2]
      exact hs x hx j hj h2
     ·have e2 : j = i := by omega
      subst e2
      rw [hi0.1, hi0.2]
      exact hsol x hx
   ·refine .inl ⟨⟨i, Nat.le_refl _, hi, by rw [hi0.1, hi0.2]; omega⟩, fun ⟨x, hx⟩ => ?_⟩
    have := hsol x hx
    omega
theorem up_fold (hok : okL l) (hn : l.length ≤ 200) (hk : ∀ j, j < l.length → rdK kids j = (kidsAt l l.length j).map Int.ofNat) {r : List IV} (hl : r.length = l.length) (hv : Vol l.length (Lo r) (Hi r)) :
  ∀ d, d ≤ l.length → UpAt l r (l.length - d) ((downTo l.length d).foldl (fun r (j : Nat) => upStep l kids r j) r) := by
 intro d
 induction d with
 | zero => intro _; exact ⟨hl, fun _ _ => rfl, .inr ⟨fun j h1 h2 => by omega, fun x _ j h1 h2 => by omega⟩⟩
 | succ d ih =>
  intro hd
  rw [downTo_succ, List.foldl_append]
  have h := ih (by omega)
  have e : l.length - d = (l.length - 1 - d) + 1 := by omega
  rw [e] at h
  have := up_step hok hn hk hv (i := l.length - 1 - d) (by omega) h
  rw [show l.length - (d + 1) = l.length - 1 - d by omega]
  exact this
theorem up_spec (hok : okL l) (hn : l.length ≤ 200) (hk : ∀ j, j < l.length → rdK kids j = (kidsAt l l.length j).map Int.ofNat) {r : List IV} (hl : r.length = l.length) (hv : Vol l.length (Lo r) (Hi r)) : UpAt l r 0 (upF l kids r) := by
 have := up_fold hok hn hk hl hv l.length (Nat.le_refl _)
 rw [Nat.sub_self] at this
 exact this
end
end Go.Proofs.Ytbgchacafglcpaa.P
end
section
namespace Go.Proofs.Ytbgchacafglcpaa.P
open Go.RowKit Go.Proofs.YtbgchacafglcpaaW.PrintWords Go.Proofs.YtbgchacafglcpaaW.PrintLast Go.Proofs.YtbgchacafglcpaaW.PrintMore Go.Proofs.YtbgchacafglcpaaH Go.Proofs.FlowTree
section
variable {l : List PI} {kids : List (List Int)}
theorem cuts (i : Nat) (lo hi : Int) (d : List IV) : ∀ (ks : List Nat) (e : List IV), ks.Nodup → i ∉ ks → (∀ k ∈ ks, k < e.length) → (∀ k ∈ ks, rv e k = rv d k) → rv e i = rv d i →
  (∀ j, j ∉ ks → rv ((ks.map Int.ofNat).foldl (downCut l i lo hi) e) j = rv e j) ∧
  (∀ k ∈ ks, rv ((ks.map Int.ofNat).foldl (downCut l i lo hi) e) k = cutI (rv d k) (wrap64 (wrap64 ((rv d i).f0 - loP l i) - wrap64 (hi - (rv d k).f1))) (wrap64 ((rv d i).f1 - wrap64 (lo - (rv d k).f0)))) := by
 intro ks
 induction ks with
 | nil => intro e _ _ _ _ _; exact ⟨fun _ _ => rfl, (fun k hk => by cases hk)⟩
 | cons k ks ih =>
  intro e hnd hi' hlen heq hei
  rw [List.nodup_cons] at hnd
  have hk : k < e.length := hlen k (by simp)
  have hset : ∀ y j, rv (e.set k y) j = if k = j then y else rv e j := fun y j => rv_set e k j y hk
  have hik : ¬ k = i := fun h => hi' (by simp [h])
  rw [List.map_cons, List.foldl_cons]
  obtain ⟨y, hy⟩ : ∃ y, y = cutI (rv d k) (wrap64 (wrap64 ((rv d i).f0 - loP l i) - wrap64 (hi - (rv d k).f1))) (wrap64 ((rv d i).f1 - wrap64 (lo - (rv d k).f0))) := ⟨_, rfl⟩
  have hstep : downCut l i lo hi e (Int.ofNat k) = e.set k y := by
   unfold downCut
   have e1 : rd_T74 e (Int.ofNat k) = rv d k := heq k (by simp)
   have e2 : rd_T74 e (i : Int) = rv d i := hei
   rw [e1, e2, hy]
   rfl
  rw [hstep]
  have h := ih (e.set k y) hnd.2 (fun h => hi' (List.mem_cons_of_mem _ h)) (fun j hj => by rw [List.length_set]; exact hlen j (List.mem_cons_of_mem _ hj))
   (fun j hj => by rw [hset, if_neg (fun hh : k = j => hnd.1 (by rw [hh]; exact hj))]; exact heq j (List.mem_cons_of_mem _ hj)) (by rw [hset, if_neg hik]; exact hei)
  refine ⟨fun j hj => ?_, fun j hj => ?_⟩
  ·rw [h.1 j (fun hh => hj (List.mem_cons_of_mem _ hh)), hset, if_neg (fun hh => hj (by simp [hh]))]
  ·rcases List.mem_cons.1 hj with rfl | hj'
   ·rw [h.1 j hnd.1, hset, if_pos rfl, hy]
   ·exact h.2 j hj'
structure DownAt (l : List PI) (r u : List IV) (m : Nat) (d : List IV) : Prop where
 len : d.length = l.length
 old : ∀ j, (∀ p, p < m → j ∉ kidsAt l l.length p) → rv d j = rv u j
 rng : ∀ j, j < l.length → Lo u j ≤ Lo d j ∧ Lo d j ≤ Hi d j ∧ Hi d j ≤ Hi u j
 cut : ∀ p, p < m → ∀ k ∈ kidsAt l l.length p, Lo d p - loP l p - (sm (Hi u) (kidsAt l l.length p) - Hi u k) ≤ Lo d k ∧ Hi d k ≤ Hi d p - (sm (Lo u) (kidsAt l l.length p) - Lo u k)
 sol : ∀ x, Sol (netT l) (Lo r) (Hi r) x → ∀ j, j < l.length → Lo d j ≤ x j ∧ x j ≤ Hi d j
structure UpOk (l : List PI) (r u : List IV) : Prop where
 len : u.length = l.length
 rng : ∀ j, j < l.length → 0 ≤ Lo u j ∧ Lo u j ≤ Hi u j ∧ Hi u j ≤ 1000000000 ∧ Lo r j ≤ Lo u j ∧ Hi u j ≤ Hi r j
 eq : ∀ j, j < l.length → kidsAt l l.length j ≠ [] → sm (Lo u) (kidsAt l l.length j) ≤ Lo u j ∧ Hi u j ≤ sm (Hi u) (kidsAt l l.length j) + loP l j
 sol : ∀ x, Sol (netT l) (Lo r) (Hi r) x → ∀ j, j < l.length → Lo u j ≤ x j ∧ x j ≤ Hi u j
theorem down_step (hok : okL l) (hn : l.length ≤ 200) (hk : ∀ j, j < l.length → rdK kids j = (kidsAt l l.length j).map Int.ofNat) {r u d : List IV} (hu : UpOk l r u) {i : Nat} (hi : i < l.length) (h : DownAt l r u i d) :
  DownAt l r u (i + 1) (downStep l kids d i) := by
 have hT := netT_ok hok
 have hkid : ∀ k ∈ kidsAt l l.length i, i < k ∧ k < l.length := fun k hk' => hT.lt i k hk'
 have hold : ∀ k ∈ kidsAt l l.length i, rv d k = rv u k := fun k hk' => h.old k (fun p hp hm => by have := hT.one i p k hk' hm; omega)
 have hLk : ∀ k ∈ kidsAt l l.length i, Lo d k = Lo u k := fun k hk' => by simp only [Lo, hold k hk']
 have hHk : ∀ k ∈ kidsAt l l.length i, Hi d k = Hi u k := fun k hk' => by simp only [Hi, hold k hk']
 have hL : totalF S74.f0 ((kidsAt l l.length i).map (fun k => rv d k)) = sm (Lo u) (kidsAt l l.length i) := by
  rw [total_eq _ _ _ (Nat.le_trans (kids_len l i) hn) (fun k hk' => by have h1 := hu.rng k (hkid k hk').2; have h2 := hold k hk'; simp only [Lo, Hi, h2] at *; omega)]
  exact sm_congr hLk
 have hH : totalF S74.f1 ((kidsAt l l.length i).map (fun k => rv d k)) = sm (Hi u) (kidsAt l l.length i) := by
  rw [total_eq _ _ _ (Nat.le_trans (kids_len l i) hn) (fun k hk' => by have h1 := hu.rng k (hkid k hk').2; have h2 := hold k hk'; simp only [Lo, Hi, h2] at *; omega)]
  exact sm_congr hHk
 have bH := sm_bound (f := Hi u) (ks := kidsAt l l.length i) (a := 0) (b := 1000000000) (fun k hk' => by have := hu.rng k (hkid k hk').2; omega)
 have bL := sm_bound (f := Lo u) (ks := kidsAt l l.length i) (a := 0) (b := 1000000000) (fun k hk' => by have := hu.rng k (hkid k hk').2; omega)
 have bl := kids_len l i
 have bo := (hok i hi).2.2.1
 have hinot : i ∉ kidsAt l l.length i := fun hm => by have := hkid i hm; omega
 have hun : downStep l kids d i = ((kidsAt l l.length i).map Int.ofNat).foldl (downCut l i (sm (Lo u) (kidsAt l l.length i)) (sm (Hi u) (kidsAt l l.length i))) d := by
  unfold downStep
  rw [below_eq hk d i hi, hL, hH, hk i hi]
 have hc := cuts (l := l) i (sm (Lo u) (kidsAt l l.length i)) (sm (Hi u) (kidsAt l l.length i)) d (kidsAt l l.length i) d (hT.nodup i) hinot (fun k hk' => by rw [h.len]; exact (hkid k hk').2) (fun _ _ => rfl) rfl
 rw [← hun] at hc
 obtain ⟨e, he⟩ : ∃ e, e = downStep l kids d i := ⟨_, rfl⟩
 rw [← he] at hc ⊢
 have elen : e.length = l.length := by rw [he, downStep_len, h.len]
 have hri := h.rng i hi
 have hui := hu.rng i hi
 have hnew : ∀ k ∈ kidsAt l l.length i, Lo e k = max (Lo u k) (Lo d i - loP l i - (sm (Hi u) (kidsAt l l.length i) - Hi u k)) ∧ Hi e k = min (Hi u k) (Hi d i - (sm (Lo u) (kidsAt l l.length i) - Lo u k)) ∧ Lo e k ≤ Hi e k := by
  intro k hk'
  have h1 := hc.2 k hk'
  have h2 := hu.rng k (hkid k hk').2
  have h3 := hu.eq i hi (fun hh => by rw [hh] at hk'; cases hk')
  obtain ⟨a, b, hab, hlo⟩ := sm_split (Lo u) hk'
  have hhi : sm (Hi u) (kidsAt l l.length i) = Hi u k + sm (Hi u) (a ++ b) := by rw [hab, sm_append, sm_append, sm_cons]; omega
  have hle : sm (Lo u) (a ++ b) ≤ sm (Hi u) (a ++ b) := sm_le (fun j hj => by
   have hj' : j ∈ kidsAt l l.length i := by
    rw [hab]
    rcases List.mem_append.1 hj with h' | h'
    ·exact List.mem_append.2 (.inl h')
    ·exact List.mem_append.2 (.inr (List.mem_cons_of_mem _ h'))
   have := hu.rng j (hkid j hj').2
   omega)
  have e0 : Lo e k = max (Lo u k) (Lo d i - loP l i - (sm (Hi u) (kidsAt l l.length i) - Hi u k)) := by
   have := congrArg S74.f0 h1
   rw [cutI_f0] at this
   have w1 : (rv d k).f1 = Hi u k := hHk k hk'
   have w2 : (rv d k).f0 = Lo u k := hLk k hk'
   have w3 : (rv d i).f0 = Lo d i := rfl
   rw [w1, w2, w3, wrap_id (n := Lo d i - loP l i) (by omega) (by omega), wrap_id (n := sm (Hi u) (kidsAt l l.length i) - Hi u k) (by omega) (by omega), wrap_id (by omega) (by omega)] at this
   exact this
  have e1 : Hi e k = min (Hi u k) (Hi d i - (sm (Lo u) (kidsAt l l.length i) - Lo u k)) := by
   have := congrArg S74.f1 h1
   rw [cutI_f1] at this
   have w1 : (rv d k).f1 = Hi u k := hHk k hk'
   have w2 : (rv d k).f0 = Lo u k := hLk k hk'
   have w3 : (rv d i).f1 = Hi d i := rfl
   rw [w1, w2, w3, wrap_id (n := sm (Lo u) (kidsAt l l.length i) - Lo u k) (by omega) (by omega), wrap_id (by omega) (by omega)] at this
   exact this
  refine ⟨e0, e1, ?_⟩
  omega
 have hsame : ∀ j, j ∉ kidsAt l l.length i → Lo e j = Lo d j ∧ Hi e j = Hi d j := fun j hj => by
  have := hc.1 j hj
  exact ⟨by simp only [Lo, this], by simp only [Hi, this]⟩
 refine ⟨elen, fun j hj => ?_, fun j hj => ?_, fun p hp k hk' => ?_, fun x hx j hj => ?_⟩
 ·rw [hc.1 j (hj i (by omega))]
  exact h.old j (fun p hp => hj p (by omega))
 ·by_cases hm : j ∈ kidsAt l l.length i
  ·have := hnew j hm
   omega
  ·have := hsame j hm
   have := h.rng j hj
   omega
 ·have hpi : p ∉ kidsAt l l.length i := fun hm => by have := (hkid p hm).1; omega
  have hp' := hsame p hpi
  by_cases h' : p < i
  ·have hki : k ∉ kidsAt l l.length i := fun hm => by have := hT.one i p k hm hk'; omega
   have := hsame k hki
   have := h.cut p h' k hk'
   omega
  ·have e2 : p = i := by omega
   subst e2
   have := hnew k hk'
   omega
 ·by_cases hm : j ∈ kidsAt l l.length i
  ·have h1 := hnew j hm
   have h2 := h.sol x hx i hi
   have h3 := hu.sol x hx j hj
   have hne : kidsAt l l.length i ≠ [] := fun hh => by rw [hh] at hm; cases hm
   have h4 := hx.2 i hi hne
   simp only [netT] at h4
   obtain ⟨a, b, hab, hlo⟩ := sm_split (Lo u) hm
   have hhi : sm (Hi u) (kidsAt l l.length i) = Hi u j + sm (Hi u) (a ++ b) := by rw [hab, sm_append, sm_append, sm_cons]; omega
   have hxx : sm x (kidsAt l l.length i) = x j + sm x (a ++ b) := by rw [hab, sm_append, sm_append, sm_cons]; omega
   have hmem : ∀ q ∈ a ++ b, q < l.length := fun q hq => (hkid q (by
    rw [hab]
    rcases List.mem_append.1 hq with h' | h'
    ·exact List.mem_append.2 (.inl h')
    ·exact List.mem_append.2 (.inr (List.mem_cons_of_mem _ h')))).2
   have l1 : sm (Lo u) (a ++ b) ≤ sm x (a ++ b) := sm_le (fun q hq => (hu.sol x hx q (hmem q hq)).1)
   have l2 : sm x (a ++ b) ≤ sm (Hi u) (a ++ b) := sm_le (fun q hq => (hu.sol x hx q (hmem q hq)).2)
   omega
  ·have := hsame j hm
   have := h.sol x hx j hj
   omega
theorem down_fold (hok : okL l) (hn : l.length ≤ 200) (hk : ∀ j, j < l.length → rdK kids j = (kidsAt l l.length j).map Int.ofNat) {r u : List IV} (hu : UpOk l r u) :
  ∀ m, m ≤ l.length → DownAt l r u m ((List.range m).foldl (fun r (j : Nat) => downStep l kids r j) u) := by
 intro m
 induction m with
 | zero => intro _; exact ⟨hu.len, fun _ _ => rfl, fun j hj => by have := hu.rng j hj; simp only [List.range_zero, List.foldl_nil]; omega, fun p hp => absurd hp (Nat.not_lt_zero _), hu.sol⟩
 | succ m ih =>
  intro hm
  rw [foldl_range_succ]
  exact down_step hok hn hk hu (by omega) (ih (by omega))
structure Exact (l : List PI) (lo hi : Nat → Int) (d : List IV) : Prop where
 len : d.length = l.length
 rng : ∀ j, j < l.length → 0 ≤ Lo d j ∧ Lo d j ≤ Hi d j ∧ Hi d j ≤ 1000000000 ∧ lo j ≤ Lo d j ∧ Hi d j ≤ hi j
 sol : ∀ x, Sol (netT l) lo hi x → ∀ j, j < l.length → Lo d j ≤ x j ∧ x j ≤ Hi d j
 had : ∀ j, j < l.length → ∀ v, Lo d j ≤ v → v ≤ Hi d j → ∃ x, Sol (netT l) lo hi x ∧ x j = v
theorem any_empty (u : List IV) : u.any emptyI = true ↔ ∃ j, j < u.length ∧ Hi u j < Lo u j := by
 rw [List.any_eq_true]
 constructor
 ·rintro ⟨x, hx, he⟩
  obtain ⟨j, hj, rfl⟩ := List.mem_iff_getElem.1 hx
  refine ⟨j, hj, ?_⟩
  simp only [emptyI, decide_eq_true_eq] at he
  simp only [Lo, Hi, rv, rd_T74, Int.toNat_natCast, List.getD_eq_getElem?_getD, List.getElem?_eq_getElem hj, Option.getD_some]
  omega
 ·rintro ⟨j, hj, h⟩
  refine ⟨u[j], List.getElem_mem hj, ?_⟩
  simp only [Lo, Hi, rv, rd_T74, Int.toNat_natCast, List.getD_eq_getElem?_getD, List.getElem?_eq_getElem hj, Option.getD_some] at h
  simp only [emptyI, decide_eq_true_eq]
  omega
theorem boundsF_spec (hok : okL l) (hn : l.length ≤ 200) (hk : ∀ j, j < l.length → rdK kids j = (kidsAt l l.length j).map Int.ofNat) {r : List IV} (hl : r.length = l.length) (hv : Vol l.length (Lo r) (Hi r)) :
  ((boundsF l kids r).1 = false ∧ ¬ ∃ x, Sol (netT l) (Lo r) (Hi r) x) ∨ ((boundsF l kids r).1 = true ∧ Exact l (Lo r) (Hi r) (boundsF l kids r).2) := by
 have h := up_spec hok hn hk hl hv
 unfold boundsF
 rcases h.now with ⟨⟨j, h1, h2, h3⟩, hs⟩ | ⟨ha, hs⟩
 ·rw [if_pos ((any_empty _).2 ⟨j, by rw [h.len]; exact h2, h3⟩)]
  exact .inl ⟨rfl, hs⟩
 ·have hno : ¬ (upF l kids r).any emptyI = true := fun hh => by
   obtain ⟨j, hj, h3⟩ := (any_empty _).1 hh
   rw [h.len] at hj
   have := (ha j (Nat.zero_le _) hj).1
   omega
  rw [if_neg hno]
  have hu : UpOk l r (upF l kids r) := ⟨h.len, fun j hj => (ha j (Nat.zero_le _) hj).1, fun j hj => (ha j (Nat.zero_le _) hj).2, fun x hx j hj => hs x hx j (Nat.zero_le _) hj⟩
  have hd := down_fold hok hn hk hu l.length (Nat.le_refl _)
  have hd' : DownAt l r (upF l kids r) l.length (downF l kids (upF l kids r)) := hd
  have hno2 : ¬ (downF l kids (upF l kids r)).any emptyI = true := fun hh => by
   obtain ⟨j, hj, h3⟩ := (any_empty _).1 hh
   rw [hd'.len] at hj
   have := hd'.rng j hj
   omega
  rw [if_neg hno2]
  refine .inr ⟨rfl, hd'.len, fun j hj => ?_, hd'.sol, fun j hj v h1 h2 => ?_⟩
  ·have := hd'.rng j hj
   have := hu.rng j hj
   dsimp only
   omega
  ·obtain ⟨x, hx, hxv⟩ := exact (netT l) (netT_ok hok) (Lo (upF l kids r)) (Hi (upF l kids r)) (Lo (downF l kids (upF l kids r))) (Hi (downF l kids (upF l kids r))) (fun i hi => (hu.rng i hi).2.1) (fun i hi hne => hu.eq i hi hne)
    (fun i hi => hd'.rng i hi) (fun i hi k hk' => hd'.cut i hi k hk') j hj v h1 h2
   exact ⟨x, ⟨fun i hi => by have := hx.1 i hi; have := hu.rng i hi; omega, hx.2⟩, hxv⟩
end
end Go.Proofs.Ytbgchacafglcpaa.P
end
section
namespace Go.Proofs.Ytbgchacafglcpaa.P
open Go.RowKit Go.Proofs.YtbgchacafglcpaaW.PrintWords Go.Proofs.YtbgchacafglcpaaW.PrintLast Go.Proofs.YtbgchacafglcpaaW.PrintMore Go.Proofs.YtbgchacafglcpaaH Go.Proofs.FlowTree
open Classical
def Ev {α : Type} (f : Nat → Option α) (r : α) : Prop := ∃ k0, ∀ k, k0 ≤ k → f k = some r
theorem Ev.step {α : Type} {f : Nat → Option α} {r : α} (h : Ev (fun k => f (k + 1)) r) : Ev f r := by
 obtain ⟨k0, h⟩ := h
 refine ⟨k0 + 1, fun k hk => ?_⟩
 obtain ⟨k, rfl⟩ : ∃ m, k = m + 1 := ⟨k - 1, by omega⟩
 exact h k (by omega)
theorem Ev.pure {α : Type} (r : α) : Ev (fun _ => some r) r := ⟨0, fun _ _ => rfl⟩
theorem Ev.bnd {α β : Type} {f : Nat → Option β} {g : β → Nat → Option α} {b : β} {r : α} (hf : Ev f b) (hg : Ev (g b) r) : Ev (fun k => (f k).bind fun t => g t k) r := by
 obtain ⟨k0, h⟩ := hf
 obtain ⟨k1, h1⟩ := hg
 refine ⟨max k0 k1, fun k hk => ?_⟩
 show (f k).bind _ = _
 rw [h k (by omega)]
 exact h1 k (by omega)
theorem Ev.congr {α : Type} {f g : Nat → Option α} {r : α} (h : ∀ k, f k = g k) (hg : Ev g r) : Ev f r := by
 obtain ⟨k0, h0⟩ := hg
 exact ⟨k0, fun k hk => (h k).trans (h0 k hk)⟩
theorem wrap_nat {n : Nat} (h : n ≤ 140737488355328) : wrap64 ((n : Int) + 1) = ((n + 1 : Nat) : Int) := by unfold wrap64; omega
abbrev RG := S38
theorem idP_take (l : List PI) (m j : Nat) (h : j < m) : idP (l.take m) j = idP l j := by
 simp only [idP, rd_T63, Int.toNat_natCast, List.getD_eq_getElem?_getD, List.getElem?_take, if_pos h]
theorem at_l0 (l : List PI) (a : Int) (hB : l.length ≤ 140737488355328) : ∀ (d i : Nat), i + d = l.length → ∃ v : Int, Ev (fun k => cohousingref28_At.l0 k l a (i : Int)) v ∧ (v < 0 ↔ ∀ j, i ≤ j → j < l.length → idP l j ≠ a) := by
 intro d
 induction d with
 | zero =>
  intro i hi
  have h1 : ¬ ((i : Int) < (l.length : Int)) := by omega
  refine ⟨-1, Ev.step ?_, ⟨fun _ j h2 h3 => by omega, fun _ => by omega⟩⟩
  simp only [cohousingref28_At.l0, h1, if_false]
  exact Ev.pure _
 | succ d ih =>
  intro i hi
  have h1 : ((i : Int) < (l.length : Int)) := by omega
  have h2 : (0 : Int) ≤ (i : Int) := by omega
  by_cases he : (rd_T63 l (i : Int)).f0 = a
  ·refine ⟨(i : Int), Ev.step ?_, ⟨fun h => by omega, fun h => absurd he (h i (Nat.le_refl _) (by omega))⟩⟩
   simp only [cohousingref28_At.l0, h1, h2, he, if_true]
   exact Ev.pure _
  ·obtain ⟨v, hv, hs⟩ := ih (i + 1) (by omega)
   refine ⟨v, Ev.step ?_, ?_⟩
   ·simp only [cohousingref28_At.l0, h1, h2, he, if_true, if_false, wrap_nat (show i ≤ 140737488355328 by omega)]
    exact hv
   ·rw [hs]
    constructor
    ·intro h j h3 h4
     by_cases e : j = i
     ·subst e; exact he
     ·exact h j (by omega) h4
    ·intro h j h3 h4
     exact h j (by omega) h4
theorem at_f (l : List PI) (a : Int) (hB : l.length ≤ 140737488355328) : ∃ v : Int, Ev (fun k => cohousingref28_At.f k l a) v ∧ (v < 0 ↔ ∀ j, j < l.length → idP l j ≠ a) := by
 obtain ⟨v, hv, hs⟩ := at_l0 l a hB l.length 0 (by omega)
 exact ⟨v, hv, hs.trans ⟨fun h j hj => h j (Nat.zero_le _) hj, fun h j _ hj => h j hj⟩⟩
theorem volume_dec (n : Int) : cohousingref28_Volume.f n = some (decide (0 ≤ n ∧ n ≤ 1000000000)) := by
 unfold cohousingref28_Volume.f
 (repeat' split) <;> simp_all <;> omega
theorem valid_j1 (l : List PI) (hB : l.length ≤ 140737488355328) (i : Nat) (hi : i < l.length) (b R : Bool) (hb : b = decide (¬ (1 ≤ idP l i ∧ (0 < i → idP l (i - 1) < idP l i) ∧ (0 ≤ loP l i ∧ loP l i ≤ 1000000000))))
  (hyes : okP l i → Ev (fun k => cohousingref28_Valid.l0 k l ((i + 1 : Nat) : Int)) R) (hno : ¬ okP l i → R = false) : Ev (fun k => cohousingref28_Valid.j1 k l (i : Int) b) R := by
 refine Ev.step ?_
 have h1 : ((i : Int) < (l.length : Int)) := by omega
 have h2 : (0 : Int) ≤ (i : Int) := by omega
 have h3 : ((i : Int) ≤ (l.length : Int)) := by omega
 cases b with
 | true =>
  have hbad := of_decide_eq_true hb.symm
  rw [hno (fun h => hbad ⟨h.1, h.2.1, h.2.2.1⟩)]
  simp only [cohousingref28_Valid.j1, if_true]
  exact Ev.pure _
 | false =>
  have hgood := Decidable.not_not.1 (of_decide_eq_false hb.symm)
  simp only [cohousingref28_Valid.j1, h1, h2, h3, if_true, Bool.false_eq_true, if_false, wrap_nat (show i ≤ 140737488355328 by omega), Int.toNat_natCast]
  by_cases ha : (rd_T63 l (i : Int)).f1 = 0
  ·simp only [ha, if_true]
   exact hyes ⟨hgood.1, hgood.2.1, hgood.2.2, fun h => absurd ha h⟩
  ·simp only [ha, if_false]
   have hlen : (l.take i).length = i := by rw [List.length_take]; omega
   obtain ⟨v, hv, hs⟩ := at_f (l.take i) (rd_T63 l (i : Int)).f1 (by omega)
   refine Ev.bnd hv ?_
   rw [hlen] at hs
   by_cases hv0 : v < 0
   ·simp only [hv0, if_true]
    have h4 := hs.1 hv0
    rw [hno (fun h => by
     obtain ⟨j, hj, e⟩ := h.2.2.2 ha
     exact h4 j hj ((idP_take l i j hj).trans e))]
    exact Ev.pure _
   ·simp only [hv0, if_false]
    refine hyes ⟨hgood.1, hgood.2.1, hgood.2.2, fun _ => ?_⟩
    by_cases hex : ∃ j, j < i ∧ idP l j = abP l i
    ·exact hex
    ·refine absurd (hs.2 (fun j hj e => hex ⟨j, hj, ?_⟩)) hv0
     rw [idP_take l i j hj] at e
     exact e
theorem valid_l0 (l : List PI) (hB : l.length ≤ 140737488355328) : ∀ (d i : Nat), i + d = l.length → Ev (fun k => cohousingref28_Valid.l0 k l (i : Int)) (decide (∀ j, i ≤ j → j < l.length → okP l j) && decide (l.length ≤ 200)) := by
 intro d
 induction d with
 | zero =>
  intro i hi
  have h1 : ¬ ((i : Int) < (l.length : Int)) := by omega
  refine Ev.step ?_
  simp only [cohousingref28_Valid.l0, h1, if_false]
  rw [decide_eq_true (show ∀ j, i ≤ j → j < l.length → okP l j from fun j h2 h3 => by omega), Bool.true_and]
  rw [show decide ((l.length : Int) ≤ 200) = decide (l.length ≤ 200) from decide_eq_decide.2 (by omega)]
  exact Ev.pure _
 | succ d ih =>
  intro i hi
  have h1 : ((i : Int) < (l.length : Int)) := by omega
  have h2 : (0 : Int) ≤ (i : Int) := by omega
  obtain ⟨R, hR⟩ : ∃ R, R = (decide (∀ j, i ≤ j → j < l.length → okP l j) && decide (l.length ≤ 200)) := ⟨_, rfl⟩
  rw [← hR]
  have hyes : okP l i → Ev (fun k => cohousingref28_Valid.l0 k l ((i + 1 : Nat) : Int)) R := fun ho => by
   have e : decide (∀ j, i ≤ j → j < l.length → okP l j) = decide (∀ j, i + 1 ≤ j → j < l.length → okP l j) := decide_eq_decide.2 ⟨fun h j h3 h4 => h j (by omega) h4, fun h j h3 h4 => by
    by_cases e : j = i
    ·subst e; exact ho
    ·exact h j (by omega) h4⟩
   rw [hR, e]
   exact ih (i + 1) (by omega)
  have hno : ¬ okP l i → R = false := fun hn => by
   rw [hR, decide_eq_false (fun h => hn (h i (Nat.le_refl _) (by omega))), Bool.false_and]
  refine Ev.step ?_
  simp only [cohousingref28_Valid.l0, h1, h2, if_true]
  by_cases c1 : (rd_T63 l (i : Int)).f0 < 1
  ·simp only [c1, if_true]
   exact valid_j1 l hB i (by omega) true R (by symm; apply decide_eq_true; intro h; have := h.1; simp only [idP] at this; omega) hyes hno
  ·simp only [c1, if_false]
   by_cases c2 : (i : Int) > 0
   ·have e : wrap64 ((i : Int) - 1) = ((i - 1 : Nat) : Int) := by unfold wrap64; omega
    have h3 : (0 : Int) ≤ ((i - 1 : Nat) : Int) := by omega
    have h4 : (((i - 1 : Nat) : Int) < (l.length : Int)) := by omega
    simp only [c2, if_true, e, h3, h4]
    by_cases c3 : (rd_T63 l (i : Int)).f0 ≤ (rd_T63 l ((i - 1 : Nat) : Int)).f0
    ·simp only [c3, if_true]
     exact valid_j1 l hB i (by omega) true R (by symm; apply decide_eq_true; intro h; have := h.2.1 (by omega); simp only [idP] at this; omega) hyes hno
    ·simp only [c3, if_false, volume_dec, Option.bind_some]
     refine valid_j1 l hB i (by omega) _ R ?_ hyes hno
     rw [← decide_not]
     apply decide_eq_decide.2
     simp only [idP, loP]
     constructor
     ·intro h h'; exact h h'.2.2
     ·intro h h'; exact h ⟨by omega, fun _ => by omega, h'⟩
   ·simp only [c2, if_false, volume_dec, Option.bind_some]
    refine valid_j1 l hB i (by omega) _ R ?_ hyes hno
    rw [← decide_not]
    apply decide_eq_decide.2
    simp only [idP, loP]
    constructor
    ·intro h h'; exact h h'.2.2
    ·intro h h'; exact h ⟨by omega, fun h0 => by omega, h'⟩
theorem valid_f (l : List PI) (hB : l.length ≤ 140737488355328) : Ev (fun k => cohousingref28_Valid.f k l) (decide (okL l ∧ l.length ≤ 200)) := by
 have := valid_l0 l hB l.length 0 (by omega)
 rw [show decide (okL l ∧ l.length ≤ 200) = (decide (∀ j, 0 ≤ j → j < l.length → okP l j) && decide (l.length ≤ 200)) from by
  rw [Bool.decide_and]
  congr 1
  exact decide_eq_decide.2 ⟨fun h j _ hj => h j hj, fun h j hj => h j (Nat.zero_le _) hj⟩]
 exact this
theorem range_split (i n : Nat) (h : i < n) : List.range n = List.range (i + 1) ++ List.range' (i + 1) (n - (i + 1)) := by
 rw [List.range_eq_range', List.range_eq_range', show n = (i + 1) + (n - (i + 1)) by omega, ← List.range'_append]
 simp
theorem kidsAt_range (l : List PI) (i : Nat) (h : i < l.length) : kidsAt l l.length i = (List.range' (i + 1) (l.length - (i + 1))).filter (fun k => decide (abP l k = idP l i)) := by
 unfold kidsAt
 rw [range_split i l.length h, List.filter_append]
 have e1 : (List.range (i + 1)).filter (fun k => decide (i < k) && decide (abP l k = idP l i)) = [] := by
  rw [List.filter_eq_nil_iff]
  intro k hk
  have := List.mem_range.1 hk
  simp; omega
 rw [e1, List.nil_append]
 apply List.filter_congr
 intro k hk
 have := List.mem_range'.1 hk
 obtain ⟨j, hj, e⟩ := this
 rw [decide_eq_true (show i < k by omega), Bool.true_and]
theorem below_l0' (l : List PI) (hB : l.length ≤ 200) (i : Nat) (hi : i < l.length) : ∀ (d x : Nat) (acc : List Int), x + d = l.length → acc.length ≤ x →
  Ev (fun k => cohousingref28_below.l0 k l (i : Int) acc (x : Int)) (acc ++ ((List.range' x d).filter (fun k => decide (abP l k = idP l i))).map Int.ofNat) := by
 intro d
 induction d with
 | zero =>
  intro x acc hx _
  have h1 : ¬ ((x : Int) < (l.length : Int)) := by omega
  refine Ev.step ?_
  simp only [cohousingref28_below.l0, h1, if_false, List.range'_zero, List.filter_nil, List.map_nil, List.append_nil]
  exact Ev.pure _
 | succ d ih =>
  intro x acc hx ha
  have h1 : ((x : Int) < (l.length : Int)) := by omega
  have h2 : (0 : Int) ≤ (x : Int) := by omega
  have h3 : (0 : Int) ≤ (i : Int) := by omega
  have h4 : ((i : Int) < (l.length : Int)) := by omega
  refine Ev.step ?_
  rw [List.range'_succ]
  by_cases hc : (rd_T63 l (x : Int)).f1 = (rd_T63 l (i : Int)).f0
  ·have h5 : acc.length < 17592186044416 := by omega
   ·simp only [cohousingref28_below.l0, h1, h2, h3, h4, h5, hc, if_true, wrap_nat (show x ≤ 140737488355328 by omega)]
    rw [List.filter_cons_of_pos (by simpa using hc)]
    have := ih (x + 1) (acc ++ [(x : Int)]) (by omega) (by simp; omega)
    rw [List.append_assoc] at this
    exact this
  ·simp only [cohousingref28_below.l0, h1, h2, h3, h4, hc, if_true, if_false, wrap_nat (show x ≤ 140737488355328 by omega)]
   rw [List.filter_cons_of_neg (by simpa using hc)]
   exact ih (x + 1) acc (by omega) (by omega)
theorem below_f' (l : List PI) (hB : l.length ≤ 200) (i : Nat) (hi : i < l.length) : Ev (fun k => cohousingref28_below.f k l (i : Int)) ((kidsAt l l.length i).map Int.ofNat) := by
 have := below_l0' l hB i hi (l.length - (i + 1)) (i + 1) [] (by omega) (by simp)
 rw [kidsAt_range l i hi]
 unfold cohousingref28_below.f
 rw [wrap_nat (by omega)]
 rw [List.nil_append] at this
 exact this
abbrev rr (r : List RG) (i : Nat) : RG := rd_T38 r i
theorem rv_toI (r : List RG) (i : Nat) : rv (r.map toI) i = toI (rr r i) := by
 simp only [rv, rr, rd_T74, rd_T38, Int.toNat_natCast, List.getD_eq_getElem?_getD, List.getElem?_map]
 cases r[i]? <;> rfl
theorem Lo_toI (r : List RG) (i : Nat) : Lo (r.map toI) i = (rr r i).f0 := by unfold Lo; rw [rv_toI]; rfl
theorem Hi_toI (r : List RG) (i : Nat) : Hi (r.map toI) i = (rr r i).f1 := by unfold Hi; rw [rv_toI]; rfl
theorem empty_l0 (r : List RG) (hB : r.length ≤ 140737488355328) : ∀ (d i : Nat), i + d = r.length → Ev (fun k => cohousingref28_empty.l0 k r (i : Int)) (decide (∃ j, i ≤ j ∧ j < r.length ∧ (rr r j).f1 < (rr r j).f0)) := by
 intro d
 induction d with
 | zero =>
  intro i hi
  have h1 : ¬ ((i : Int) < (r.length : Int)) := by omega
  refine Ev.step ?_
  simp only [cohousingref28_empty.l0, h1, if_false]
  rw [decide_eq_false (by rintro ⟨j, h2, h3, _⟩; omega)]
  exact Ev.pure _
 | succ d ih =>
  intro i hi
  have h1 : ((i : Int) < (r.length : Int)) := by omega
  have h2 : (0 : Int) ≤ (i : Int) := by omega
  refine Ev.step ?_
  by_cases hc : (rd_T38 r (i : Int)).f0 > (rd_T38 r (i : Int)).f1
  ·simp only [cohousingref28_empty.l0, h1, h2, hc, if_true]
   rw [decide_eq_true ⟨i, Nat.le_refl _, by omega, hc⟩]
   exact Ev.pure _
  ·simp only [cohousingref28_empty.l0, h1, h2, hc, if_true, if_false, wrap_nat (show i ≤ 140737488355328 by omega)]
   have := ih (i + 1) (by omega)
   rw [show decide (∃ j, i ≤ j ∧ j < r.length ∧ (rr r j).f1 < (rr r j).f0) = decide (∃ j, i + 1 ≤ j ∧ j < r.length ∧ (rr r j).f1 < (rr r j).f0) from decide_eq_decide.2 ⟨fun ⟨j, h3, h4, h5⟩ => ⟨j, by
    by_cases e : j = i
    ·subst e; exact absurd h5 hc
    ·omega, h4, h5⟩, fun ⟨j, h3, h4, h5⟩ => ⟨j, by omega, h4, h5⟩⟩]
   exact this
theorem empty_f (r : List RG) (hB : r.length ≤ 140737488355328) : Ev (fun k => cohousingref28_empty.f k r) (decide (∃ j, j < r.length ∧ (rr r j).f1 < (rr r j).f0)) := by
 have := empty_l0 r hB r.length 0 (by omega)
 rw [show decide (∃ j, j < r.length ∧ (rr r j).f1 < (rr r j).f0) = decide (∃ j, 0 ≤ j ∧ j < r.length ∧ (rr r j).f1 < (rr r j).f0) from decide_eq_decide.2 ⟨fun ⟨j, h⟩ => ⟨j, Nat.zero_le _, h⟩, fun ⟨j, _, h⟩ => ⟨j, h⟩⟩]
 exact this
theorem same_l0 (a b : List RG) (hB : a.length ≤ 140737488355328) (hl : a.length = b.length) : ∀ (d i : Nat), i + d = a.length → Ev (fun k => cohousingref28_Same.l0 k a b (i : Int)) (decide (∀ j, i ≤ j → j < a.length → rr a j = rr b j)) := by
 intro d
 induction d with
 | zero =>
  intro i hi
  have h1 : ¬ ((i : Int) < (a.length : Int)) := by omega
  refine Ev.step ?_
  simp only [cohousingref28_Same.l0, h1, if_false]
  rw [decide_eq_true (fun j h2 h3 => by omega)]
  exact Ev.pure _
 | succ d ih =>
  intro i hi
  have h1 : ((i : Int) < (a.length : Int)) := by omega
  have h2 : (0 : Int) ≤ (i : Int) := by omega
  have h3 : ((i : Int) < (b.length : Int)) := by omega
  refine Ev.step ?_
  by_cases hc : rr a i = rr b i
  ·have hc' : (!(((rd_T38 a (i : Int)).f0) == ((rd_T38 b (i : Int)).f0)) || (!(((rd_T38 a (i : Int)).f1) == ((rd_T38 b (i : Int)).f1)))) = false := by
    have : rd_T38 a (i : Int) = rd_T38 b (i : Int) := hc
    rw [this]; simp
   simp only [cohousingref28_Same.l0, h1, h2, h3, hc', if_true, if_false, Bool.false_eq_true, wrap_nat (show i ≤ 140737488355328 by omega)]
   have := ih (i + 1) (by omega)
   rw [show decide (∀ j, i ≤ j → j < a.length → rr a j = rr b j) = decide (∀ j, i + 1 ≤ j → j < a.length → rr a j = rr b j) from decide_eq_decide.2 ⟨fun h j h4 h5 => h j (by omega) h5, fun h j h4 h5 => by
    by_cases e : j = i
    ·subst e; exact hc
    ·exact h j (by omega) h5⟩]
   exact this
  ·have hc' : (!(((rd_T38 a (i : Int)).f0) == ((rd_T38 b (i : Int)).f0)) || (!(((rd_T38 a (i : Int)).f1) == ((rd_T38 b (i : Int)).f1)))) = true := by
    rw [Bool.or_eq_true, Bool.not_eq_true', Bool.not_eq_true', beq_eq_false_iff_ne, beq_eq_false_iff_ne]
    by_cases h4 : (rd_T38 a (i : Int)).f0 = (rd_T38 b (i : Int)).f0
    ·refine .inr (fun h5 => hc ?_)
     show rd_T38 a (i : Int) = rd_T38 b (i : Int)
     cases ha : rd_T38 a (i : Int)
     cases hb : rd_T38 b (i : Int)
     rw [ha, hb] at h4 h5
     simp only at h4 h5
     rw [h4, h5]
    ·exact .inl h4
   simp only [cohousingref28_Same.l0, h1, h2, h3, hc', if_true]
   rw [decide_eq_false (fun h => hc (h i (Nat.le_refl _) (by omega)))]
   exact Ev.pure _
theorem rr_ext {a b : List RG} (hl : a.length = b.length) (h : ∀ j, j < a.length → rr a j = rr b j) : a = b := by
 apply List.ext_getElem hl
 intro i h1 h2
 have := h i h1
 simp only [rr, rd_T38, Int.toNat_natCast, List.getD_eq_getElem?_getD, List.getElem?_eq_getElem h1, List.getElem?_eq_getElem h2, Option.getD_some] at this
 exact this
theorem same_f (a b : List RG) (hB : a.length ≤ 140737488355328) : Ev (fun k => cohousingref28_Same.f k a b) (decide (a = b)) := by
 unfold cohousingref28_Same.f
 by_cases hl : a.length = b.length
 ·have h1 : (a.length : Int) = (b.length : Int) := by omega
  simp only [h1, if_true]
  have := same_l0 a b hB hl a.length 0 (by omega)
  rw [show decide (a = b) = decide (∀ j, 0 ≤ j → j < a.length → rr a j = rr b j) from decide_eq_decide.2 ⟨fun h j _ _ => by rw [h], fun h => rr_ext hl (fun j hj => h j (Nat.zero_le _) hj)⟩]
  exact this
 ·have h1 : ¬ (a.length : Int) = (b.length : Int) := by omega
  simp only [h1, if_false]
  rw [decide_eq_false (fun h => hl (by rw [h]))]
  exact Ev.pure _
end Go.Proofs.Ytbgchacafglcpaa.P
end
section
namespace Go.Proofs.Ytbgchacafglcpaa.P
open Go.RowKit Go.Proofs.YtbgchacafglcpaaW.PrintWords Go.Proofs.YtbgchacafglcpaaW.PrintLast Go.Proofs.YtbgchacafglcpaaW.PrintMore Go.Proofs.YtbgchacafglcpaaH Go.Proofs.FlowTree
open Classical
def lo9 (r : List RG) (j : Nat) : Int := (rr r j).f0
def hi9 (r : List RG) (j : Nat) : Int := (rr r j).f1
theorem mx_max (a b : Int) : mx a b = max a b := by unfold mx; split <;> omega
theorem mn_min (a b : Int) : mn a b = min a b := by unfold mn; split <;> omega
section
variable (l : List PI) (r : List RG) (i : Nat)
def sL : Int := sm (lo9 r) (kidsAt l l.length i)
def sH : Int := sm (hi9 r) (kidsAt l l.length i)
def ownA : Int := max (lo9 r i) (sL l r i)
def ownB : Int := min (hi9 r i) (sH l r i + loP l i)
def eqAt (j : Nat) : RG :=
 if j = i then ⟨ownA l r i, ownB l r i⟩ else
 if i < j ∧ abP l j = idP l i then ⟨max (lo9 r j) (ownA l r i - loP l i - (sH l r i - hi9 r j)), min (hi9 r j) (ownB l r i - (sL l r i - lo9 r j))⟩ else rr r j
end
theorem take_sm (f : Nat → Int) (ks : List Nat) (x : Nat) (h : x < ks.length) : sm f (ks.take (x + 1)) = sm f (ks.take x) + f ks[x] := by
 rw [List.take_succ_eq_append_getElem h, sm_append, sm_cons, sm_nil]; omega
theorem rd_ofNat (ks : List Nat) (x : Nat) (h : x < ks.length) : rd (ks.map Int.ofNat) (x : Int) = (ks[x] : Int) := by
 simp [rd, List.getD_eq_getElem?_getD, h]
theorem sm_take_le {f : Nat → Int} {ks : List Nat} {B : Int} (h : ∀ k ∈ ks, 0 ≤ f k ∧ f k ≤ B) (x : Nat) : 0 ≤ sm f (ks.take x) ∧ sm f (ks.take x) ≤ sm f ks := by
 have h1 : 0 ≤ sm f (ks.take x) := sm_nonneg (fun k hk => (h k (List.mem_of_mem_take hk)).1)
 have h2 : 0 ≤ sm f (ks.drop x) := sm_nonneg (fun k hk => (h k (List.mem_of_mem_drop hk)).1)
 have h3 : sm f ks = sm f (ks.take x) + sm f (ks.drop x) := by rw [← sm_append, List.take_append_drop]
 omega
section
variable {l : List PI} {r : List RG} {i : Nat}
theorem sums_bound (hn : l.length ≤ 200) (hv : Vol l.length (lo9 r) (hi9 r)) : (0 ≤ sL l r i ∧ sL l r i ≤ 200000000000) ∧ (0 ≤ sH l r i ∧ sH l r i ≤ 200000000000) := by
 have hk : ∀ k ∈ kidsAt l l.length i, k < l.length := fun k hk => (kidsAt_mem.1 hk).1
 have bL := sm_bound (f := lo9 r) (ks := kidsAt l l.length i) (a := 0) (b := 1000000000) (fun k hk' => by have := hv k (hk k hk'); omega)
 have bH := sm_bound (f := hi9 r) (ks := kidsAt l l.length i) (a := 0) (b := 1000000000) (fun k hk' => by have := hv k (hk k hk'); omega)
 have bl := kids_len l i
 unfold sL sH
 omega
set_option maxHeartbeats 1000000 in
theorem eq_l1 (hok : okL l) (hn : l.length ≤ 200) (hr : r.length = l.length) (hv : Vol l.length (lo9 r) (hi9 r)) (hi : i < l.length) : ∀ (d x : Nat) (acc : List RG), x + d = l.length → acc.length = x →
  Ev (fun k => cohousingref28_equation.l1 k l r (i : Int) (sL l r i) (sH l r i) acc (x : Int) (ownA l r i) (ownB l r i)) (acc ++ (List.range' x d).map (eqAt l r i)) := by
 intro d
 have hb := sums_bound (i := i) hn hv
 have hvi := hv i hi
 have hlo := (hok i hi).2.2.1
 have hoA : 0 ≤ ownA l r i ∧ ownA l r i ≤ 200000000000 := by unfold ownA; omega
 have hoB : 0 ≤ ownB l r i ∧ ownB l r i ≤ 1000000000 := by unfold ownB; omega
 induction d with
 | zero =>
  intro x acc hx _
  have h1 : ¬ ((x : Int) < (r.length : Int)) := by omega
  refine Ev.step ?_
  simp only [cohousingref28_equation.l1, h1, if_false, List.range'_zero, List.map_nil, List.append_nil]
  exact Ev.pure _
 | succ d ih =>
  intro x acc hx ha
  have h1 : ((x : Int) < (r.length : Int)) := by omega
  have h2 : (0 : Int) ≤ (x : Int) := by omega
  have h3 : ((x : Int) < (l.length : Int)) := by omega
  have h4 : (0 : Int) ≤ (i : Int) := by omega
  have h5 : ((i : Int) < (l.length : Int)) := by omega
  have h6 : acc.length < 8796093022208 := by omega
  have hw := wrap_nat (show x ≤ 140737488355328 by omega)
  have key : Ev (fun k => cohousingref28_equation.l1 k l r (i : Int) (sL l r i) (sH l r i) (acc ++ [eqAt l r i x]) ((x + 1 : Nat) : Int) (ownA l r i) (ownB l r i)) (acc ++ (List.range' x (d + 1)).map (eqAt l r i)) := by
   have := ih (x + 1) (acc ++ [eqAt l r i x]) (by omega) (by simp; omega)
   rw [List.append_assoc] at this
   rw [List.range'_succ, List.map_cons]
   exact this
  refine Ev.step ?_
  simp only [cohousingref28_equation.l1, h1, h2, h3, h4, h5, h6, if_true, hw]
  by_cases hxi : x = i
  ·have c1 : (x : Int) = (i : Int) := by rw [hxi]
   have c2 : ¬ ((i : Int) > (i : Int)) := Int.lt_irrefl _
   simp only [c1, c2, if_true, if_false]
   have e : eqAt l r i x = ⟨ownA l r i, ownB l r i⟩ := by unfold eqAt; rw [if_pos hxi]
   rw [e] at key
   exact key
  ·have c1 : ¬ (x : Int) = (i : Int) := fun h => hxi (Int.ofNat_inj.1 h)
   simp only [c1, if_false]
   by_cases hlt : i < x
   ·have c2 : ((x : Int) > (i : Int)) := Int.ofNat_lt.2 hlt
    simp only [c2, if_true]
    by_cases hab : (rd_T63 l (x : Int)).f1 = (rd_T63 l (i : Int)).f0
    ·simp only [hab, if_true, cohousingref28_narrow.f, Option.bind_some]
     have hvx := hv x (by omega)
     have e : eqAt l r i x = ⟨mx (rd_T38 r (x : Int)).f0 (wrap64 (wrap64 (ownA l r i - (rd_T63 l (i : Int)).f2) - wrap64 (sH l r i - (rd_T38 r (x : Int)).f1))), mn (rd_T38 r (x : Int)).f1 (wrap64 (ownB l r i - wrap64 (sL l r i - (rd_T38 r (x : Int)).f0)))⟩ := by
      unfold eqAt
      rw [if_neg hxi, if_pos ⟨hlt, hab⟩, mx_max, mn_min]
      have w1 : (rd_T38 r (x : Int)).f0 = lo9 r x := rfl
      have w2 : (rd_T38 r (x : Int)).f1 = hi9 r x := rfl
      have w3 : (rd_T63 l (i : Int)).f2 = loP l i := rfl
      rw [w1, w2, w3, wrap_id (n := ownA l r i - loP l i) (by omega) (by omega), wrap_id (n := sH l r i - hi9 r x) (by omega) (by omega), wrap_id (n := sL l r i - lo9 r x) (by omega) (by omega), wrap_id (by omega) (by omega), wrap_id (by omega) (by omega)]
     rw [e] at key
     exact key
    ·simp only [hab, if_false]
     have e : eqAt l r i x = ⟨(rd_T38 r (x : Int)).f0, (rd_T38 r (x : Int)).f1⟩ := by
      unfold eqAt
      rw [if_neg hxi, if_neg (fun h => hab h.2)]
     rw [e] at key
     exact key
   ·have c2 : ¬ ((x : Int) > (i : Int)) := fun h => hlt (Int.ofNat_lt.1 h)
    simp only [c2, if_false]
    have e : eqAt l r i x = ⟨(rd_T38 r (x : Int)).f0, (rd_T38 r (x : Int)).f1⟩ := by
     unfold eqAt
     rw [if_neg hxi, if_neg (fun h => hlt h.1)]
    rw [e] at key
    exact key
theorem eq_l0 (hok : okL l) (hn : l.length ≤ 200) (hr : r.length = l.length) (hv : Vol l.length (lo9 r) (hi9 r)) (hi : i < l.length) : ∀ (d x : Nat), x + d = (kidsAt l l.length i).length →
  Ev (fun k => cohousingref28_equation.l0 k l r (i : Int) ((kidsAt l l.length i).map Int.ofNat) (sm (lo9 r) ((kidsAt l l.length i).take x)) (sm (hi9 r) ((kidsAt l l.length i).take x)) (x : Int)) ((List.range l.length).map (eqAt l r i)) := by
 intro d
 have hb := sums_bound (i := i) hn hv
 have hvi := hv i hi
 have hlo := (hok i hi).2.2.1
 have hkl := kids_len l i
 have hkm : ∀ k ∈ kidsAt l l.length i, k < l.length := fun k hk => (kidsAt_mem.1 hk).1
 induction d with
 | zero =>
  intro x hx
  have h1 : ¬ ((x : Int) < (((kidsAt l l.length i).map Int.ofNat).length : Int)) := by rw [List.length_map]; omega
  have h2 : (0 : Int) ≤ (i : Int) := by omega
  have h3 : ((i : Int) < (r.length : Int)) := by omega
  have h4 : ((i : Int) < (l.length : Int)) := by omega
  refine Ev.step ?_
  rw [List.take_of_length_le (by omega)]
  simp only [cohousingref28_equation.l0, h1, h2, h3, h4, if_true, if_false, cohousingref28_narrow.f, Option.bind_some]
  have e1 : mx (rd_T38 r (i : Int)).f0 (sm (lo9 r) (kidsAt l l.length i)) = ownA l r i := by rw [mx_max]; rfl
  have e2 : mn (rd_T38 r (i : Int)).f1 (wrap64 (sm (hi9 r) (kidsAt l l.length i) + (rd_T63 l (i : Int)).f2)) = ownB l r i := by
   rw [mn_min]
   have w1 : (rd_T63 l (i : Int)).f2 = loP l i := rfl
   have w2 : sm (hi9 r) (kidsAt l l.length i) = sH l r i := rfl
   rw [w1, w2, wrap_id (by omega) (by omega)]
   rfl
  rw [e1, e2]
  have := eq_l1 hok hn hr hv hi l.length 0 [] (by omega) rfl
  rw [List.nil_append, ← List.range_eq_range'] at this
  exact this
 | succ d ih =>
  intro x hx
  have hxl : x < (kidsAt l l.length i).length := by omega
  have h1 : ((x : Int) < (((kidsAt l l.length i).map Int.ofNat).length : Int)) := by rw [List.length_map]; omega
  have h2 : (0 : Int) ≤ (x : Int) := by omega
  have hk := hkm _ (List.getElem_mem hxl)
  have h3 : (0 : Int) ≤ (((kidsAt l l.length i)[x] : Nat) : Int) := by omega
  have h4 : ((((kidsAt l l.length i)[x] : Nat) : Int) < (r.length : Int)) := by omega
  have hvk := hv _ hk
  have t1 := sm_take_le (f := lo9 r) (ks := kidsAt l l.length i) (B := 1000000000) (fun k hk' => by have := hv k (hkm k hk'); omega) (x + 1)
  have t2 := sm_take_le (f := hi9 r) (ks := kidsAt l l.length i) (B := 1000000000) (fun k hk' => by have := hv k (hkm k hk'); omega) (x + 1)
  have hb1 : sm (lo9 r) (kidsAt l l.length i) ≤ 200000000000 := hb.1.2
  have hb2 : sm (hi9 r) (kidsAt l l.length i) ≤ 200000000000 := hb.2.2
  refine Ev.step ?_
  simp only [cohousingref28_equation.l0, h1, h2, if_true, rd_ofNat _ _ hxl, h3, h4, wrap_nat (show x ≤ 140737488355328 by omega)]
  have e1 : wrap64 (sm (lo9 r) ((kidsAt l l.length i).take x) + (rd_T38 r (((kidsAt l l.length i)[x] : Nat) : Int)).f0) = sm (lo9 r) ((kidsAt l l.length i).take (x + 1)) := by
   have w1 : (rd_T38 r (((kidsAt l l.length i)[x] : Nat) : Int)).f0 = lo9 r (kidsAt l l.length i)[x] := rfl
   rw [w1, ← take_sm _ _ _ hxl, wrap_id (by omega) (by omega)]
  have e2 : wrap64 (sm (hi9 r) ((kidsAt l l.length i).take x) + (rd_T38 r (((kidsAt l l.length i)[x] : Nat) : Int)).f1) = sm (hi9 r) ((kidsAt l l.length i).take (x + 1)) := by
   have w1 : (rd_T38 r (((kidsAt l l.length i)[x] : Nat) : Int)).f1 = hi9 r (kidsAt l l.length i)[x] := rfl
   rw [w1, ← take_sm _ _ _ hxl, wrap_id (by omega) (by omega)]
  rw [e1, e2]
  exact ih (x + 1) (by omega)
theorem eq_f (hok : okL l) (hn : l.length ≤ 200) (hr : r.length = l.length) (hv : Vol l.length (lo9 r) (hi9 r)) (hi : i < l.length) :
  Ev (fun k => cohousingref28_equation.f k l r (i : Int) ((kidsAt l l.length i).map Int.ofNat)) ((List.range l.length).map (eqAt l r i)) :=
 eq_l0 hok hn hr hv hi (kidsAt l l.length i).length 0 (by omega)
theorem rr_map (f : Nat → RG) (n j : Nat) (h : j < n) : rr ((List.range n).map f) j = f j := by
 simp [rr, rd_T38, List.getD_eq_getElem?_getD, h]
end
end Go.Proofs.Ytbgchacafglcpaa.P
end
section
namespace Go.Proofs.Ytbgchacafglcpaa.P
open Go.RowKit Go.Proofs.YtbgchacafglcpaaW.PrintWords Go.Proofs.YtbgchacafglcpaaW.PrintLast Go.Proofs.YtbgchacafglcpaaW.PrintMore Go.Proofs.YtbgchacafglcpaaH Go.Proofs.FlowTree
open Classical
section
variable {l : List PI}
def Done (l : List PI) (r : List RG) (p : Nat) : Prop := kidsAt l l.length p ≠ [] → (sL l r p ≤ lo9 r p ∧ hi9 r p ≤ sH l r p + loP l p) ∧
 ∀ k ∈ kidsAt l l.length p, lo9 r p - loP l p - (sH l r p - hi9 r k) ≤ lo9 r k ∧ hi9 r k ≤ hi9 r p - (sL l r p - lo9 r k)
structure Narrow (l : List PI) (r e : List RG) : Prop where
 len : e.length = l.length
 rng : ∀ j, j < l.length → lo9 r j ≤ lo9 e j ∧ hi9 e j ≤ hi9 r j
 sol : ∀ x, Sol (netT l) (lo9 r) (hi9 r) x → Sol (netT l) (lo9 e) (hi9 e) x
theorem Narrow.refl {r : List RG} (h : r.length = l.length) : Narrow l r r := ⟨h, fun _ _ => ⟨Int.le_refl _, Int.le_refl _⟩, fun _ hx => hx⟩
theorem Narrow.trans {r e f : List RG} (h : Narrow l r e) (h' : Narrow l e f) : Narrow l r f :=
 ⟨h'.len, fun j hj => by have := h.rng j hj; have := h'.rng j hj; omega, fun x hx => h'.sol x (h.sol x hx)⟩
def Dead (l : List PI) (e : List RG) : Prop := ∃ j, j < l.length ∧ hi9 e j < lo9 e j
theorem vol_not_dead {e : List RG} (h : Vol l.length (lo9 e) (hi9 e)) : ¬ Dead l e := fun ⟨j, hj, hd⟩ => by have := h j hj; omega
theorem dead_no_sol {e : List RG} (h : Dead l e) : ¬ ∃ x, Sol (netT l) (lo9 e) (hi9 e) x := fun ⟨x, hx⟩ => by
 obtain ⟨j, hj, hd⟩ := h
 have := hx.1 j hj
 omega
theorem eq_step (hok : okL l) (hn : l.length ≤ 200) {r : List RG} (hr : r.length = l.length) (hv : Vol l.length (lo9 r) (hi9 r)) {i : Nat} (hi : i < l.length) (hne : kidsAt l l.length i ≠ []) :
  Narrow l r ((List.range l.length).map (eqAt l r i)) ∧ (Dead l ((List.range l.length).map (eqAt l r i)) ∨ Vol l.length (lo9 ((List.range l.length).map (eqAt l r i))) (hi9 ((List.range l.length).map (eqAt l r i)))) ∧
   (((List.range l.length).map (eqAt l r i)) = r → Done l r i) := by
 have hT := netT_ok hok
 have hvi := hv i hi
 have hlo := (hok i hi).2.2.1
 have hat : ∀ j, j < l.length → rr ((List.range l.length).map (eqAt l r i)) j = eqAt l r i j := fun j hj => rr_map _ _ j hj
 obtain ⟨e, he⟩ : ∃ e, e = (List.range l.length).map (eqAt l r i) := ⟨_, rfl⟩
 rw [← he] at hat ⊢
 have hlen : e.length = l.length := by rw [he, List.length_map, List.length_range]
 have hkid : ∀ k ∈ kidsAt l l.length i, i < k ∧ k < l.length := fun k hk' => hT.lt i k hk'
 have hkid' : ∀ k, k < l.length → (i < k ∧ abP l k = idP l i) → k ∈ kidsAt l l.length i := fun k hk h => kidsAt_mem.2 ⟨hk, h.1, h.2⟩
 have hown : lo9 e i = ownA l r i ∧ hi9 e i = ownB l r i := by
  have := hat i hi
  unfold eqAt at this
  rw [if_pos rfl] at this
  exact ⟨by unfold lo9; rw [this], by unfold hi9; rw [this]⟩
 have hk : ∀ k ∈ kidsAt l l.length i, lo9 e k = max (lo9 r k) (ownA l r i - loP l i - (sH l r i - hi9 r k)) ∧ hi9 e k = min (hi9 r k) (ownB l r i - (sL l r i - lo9 r k)) := by
  intro k hk'
  have hm := kidsAt_mem.1 hk'
  have := hat k (hkid k hk').2
  unfold eqAt at this
  rw [if_neg (by omega), if_pos ⟨hm.2.1, hm.2.2⟩] at this
  exact ⟨by unfold lo9; rw [this]; rfl, by unfold hi9; rw [this]; rfl⟩
 have hsame : ∀ j, j < l.length → j ≠ i → j ∉ kidsAt l l.length i → lo9 e j = lo9 r j ∧ hi9 e j = hi9 r j := by
  intro j hj h1 h2
  have := hat j hj
  unfold eqAt at this
  rw [if_neg h1, if_neg (fun h => h2 (hkid' j hj h))] at this
  exact ⟨by unfold lo9; rw [this], by unfold hi9; rw [this]⟩
 have hsplit : ∀ k ∈ kidsAt l l.length i, ∃ a b, sL l r i = lo9 r k + sm (lo9 r) (a ++ b) ∧ sH l r i = hi9 r k + sm (hi9 r) (a ++ b) ∧ (∀ x, sm x (kidsAt l l.length i) = x k + sm x (a ++ b)) ∧ (∀ q ∈ a ++ b, q ∈ kidsAt l l.length i) := by
  intro k hk'
  obtain ⟨a, b, hab, _⟩ := sm_split (lo9 r) hk'
  have hx : ∀ x : Nat → Int, sm x (kidsAt l l.length i) = x k + sm x (a ++ b) := fun x => by rw [hab, sm_append, sm_append, sm_cons]; omega
  refine ⟨a, b, hx _, hx _, hx, fun q hq => ?_⟩
  rw [hab]
  rcases List.mem_append.1 hq with h' | h'
  ·exact List.mem_append.2 (.inl h')
  ·exact List.mem_append.2 (.inr (List.mem_cons_of_mem _ h'))
 have hnar : Narrow l r e := by
  refine ⟨hlen, fun j hj => ?_, fun x hx => ⟨fun j hj => ?_, hx.2⟩⟩
  ·by_cases h1 : j = i
   ·subst h1
    rw [hown.1, hown.2]
    unfold ownA ownB
    omega
   ·by_cases h2 : j ∈ kidsAt l l.length i
    ·have := hk j h2; omega
    ·have := hsame j hj h1 h2; omega
  ·have hxj := hx.1 j hj
   have hxi := hx.1 i hi
   have h4 := hx.2 i hi hne
   simp only [netT] at h4
   have l1 : sL l r i ≤ sm x (kidsAt l l.length i) := sm_le (fun q hq => (hx.1 q (hkid q hq).2).1)
   have l2 : sm x (kidsAt l l.length i) ≤ sH l r i := sm_le (fun q hq => (hx.1 q (hkid q hq).2).2)
   have ho : ownA l r i ≤ x i ∧ x i ≤ ownB l r i := by unfold ownA ownB; omega
   by_cases h1 : j = i
   ·subst h1
    rw [hown.1, hown.2]
    exact ho
   ·by_cases h2 : j ∈ kidsAt l l.length i
    ·obtain ⟨a, b, e1, e2, e3, hq⟩ := hsplit j h2
     have e4 := e3 x
     have m1 : sm (lo9 r) (a ++ b) ≤ sm x (a ++ b) := sm_le (fun q h => (hx.1 q (hkid q (hq q h)).2).1)
     have m2 : sm x (a ++ b) ≤ sm (hi9 r) (a ++ b) := sm_le (fun q h => (hx.1 q (hkid q (hq q h)).2).2)
     have := hk j h2
     omega
    ·have := hsame j hj h1 h2; omega
 refine ⟨hnar, ?_, fun hee => ?_⟩
 ·by_cases hd : ownA l r i ≤ ownB l r i
  ·refine .inr (fun j hj => ?_)
   have hvj := hv j hj
   have hoA : lo9 r i ≤ ownA l r i ∧ sL l r i ≤ ownA l r i := by unfold ownA; omega
   have hoB : ownB l r i ≤ hi9 r i ∧ ownB l r i ≤ sH l r i + loP l i := by unfold ownB; omega
   by_cases h1 : j = i
   ·subst h1
    rw [hown.1, hown.2]
    omega
   ·by_cases h2 : j ∈ kidsAt l l.length i
    ·obtain ⟨a, b, e1, e2, e3, hq⟩ := hsplit j h2
     have m1 : sm (lo9 r) (a ++ b) ≤ sm (hi9 r) (a ++ b) := sm_le (fun q h => (hv q (hkid q (hq q h)).2).2.1)
     have := hk j h2
     omega
    ·have := hsame j hj h1 h2; omega
  ·exact .inl ⟨i, hi, by rw [hown.1, hown.2]; omega⟩
 ·intro _
  have h1 : lo9 r i = ownA l r i ∧ hi9 r i = ownB l r i := by rw [← hown.1, ← hown.2, hee]; exact ⟨rfl, rfl⟩
  refine ⟨?_, fun k hk' => ?_⟩
  ·unfold ownA ownB at h1
   omega
  ·have h2 := hk k hk'
   rw [hee] at h2
   omega
structure OnceAt (l : List PI) (r : List RG) (m : Nat) (e : List RG) : Prop where
 nar : Narrow l r e
 now : Dead l e ∨ Vol l.length (lo9 e) (hi9 e)
 fix : Vol l.length (lo9 e) (hi9 e) → e = r → ∀ p, p < m → Done l r p
theorem nil_len (l : List PI) (p : Nat) (h : kidsAt l l.length p = []) : ∀ r, Done l r p := fun _ hc => absurd h hc
theorem once_dead (hn : l.length ≤ 200) {r : List RG} (hr : r.length = l.length) (hd : Dead l r) : ∀ m, m ≤ l.length → Ev (fun k => cohousingref28_once.l0 k l r ((m : Int) - 1)) r := by
 intro m
 induction m with
 | zero =>
  intro _
  have h1 : ¬ (((0 : Nat) : Int) - 1 ≥ 0) := by omega
  refine Ev.step ?_
  simp only [cohousingref28_once.l0, h1, if_false]
  exact Ev.pure _
 | succ m ih =>
  intro hm
  have e : ((m + 1 : Nat) : Int) - 1 = (m : Int) := by omega
  have h1 : ((m : Int) ≥ 0) := by omega
  have e2 : wrap64 ((m : Int) - 1) = (m : Int) - 1 := wrap_id (by omega) (by omega)
  rw [e]
  refine Ev.step ?_
  simp only [cohousingref28_once.l0, h1, if_true, e2]
  refine Ev.bnd (below_f' l hn m (by omega)) ?_
  have hem := empty_f r (by omega)
  rw [decide_eq_true (show ∃ j, j < r.length ∧ (rr r j).f1 < (rr r j).f0 from by
   obtain ⟨j, hj, h⟩ := hd
   exact ⟨j, by omega, h⟩)] at hem
  by_cases hc : (((kidsAt l l.length m).map Int.ofNat).length : Int) > 0
  ·simp only [hc, if_true]
   refine Ev.bnd hem ?_
   simp only [if_true]
   exact ih (by omega)
  ·simp only [hc, if_false]
   exact ih (by omega)
theorem once_l0 (hok : okL l) (hn : l.length ≤ 200) : ∀ m, m ≤ l.length → ∀ r : List RG, r.length = l.length → Vol l.length (lo9 r) (hi9 r) → ∃ e, Ev (fun k => cohousingref28_once.l0 k l r ((m : Int) - 1)) e ∧ OnceAt l r m e := by
 intro m
 induction m with
 | zero =>
  intro _ r hr hv
  refine ⟨r, ?_, ⟨Narrow.refl hr, .inr hv, fun _ _ p hp => absurd hp (Nat.not_lt_zero _)⟩⟩
  have h1 : ¬ (((0 : Nat) : Int) - 1 ≥ 0) := by omega
  refine Ev.step ?_
  simp only [cohousingref28_once.l0, h1, if_false]
  exact Ev.pure _
 | succ m ih =>
  intro hm r hr hv
  have e : ((m + 1 : Nat) : Int) - 1 = (m : Int) := by omega
  have h1 : ((m : Int) ≥ 0) := by omega
  have e2 : wrap64 ((m : Int) - 1) = (m : Int) - 1 := wrap_id (by omega) (by omega)
  have hem := empty_f r (by omega)
  rw [decide_eq_false (show ¬ ∃ j, j < r.length ∧ (rr r j).f1 < (rr r j).f0 from by
   rintro ⟨j, hj, h⟩
   exact vol_not_dead hv ⟨j, by omega, h⟩)] at hem
  rw [e]
  by_cases hne : kidsAt l l.length m = []
  ·obtain ⟨e', he', ho⟩ := ih (by omega) r hr hv
   refine ⟨e', Ev.step ?_, ⟨ho.nar, ho.now, fun hv' hee p hp => ?_⟩⟩
   ·simp only [cohousingref28_once.l0, h1, if_true, e2]
    refine Ev.bnd (below_f' l hn m (by omega)) ?_
    have hc : ¬ (((kidsAt l l.length m).map Int.ofNat).length : Int) > 0 := by rw [hne]; simp
    simp only [hc, if_false]
    exact he'
   ·by_cases h' : p < m
    ·exact ho.fix hv' hee p h'
    ·rw [show p = m by omega]; exact nil_len l m hne r
  ·have hst := eq_step hok hn hr hv (i := m) (by omega) hne
   obtain ⟨q, hq⟩ : ∃ q, q = (List.range l.length).map (eqAt l r m) := ⟨_, rfl⟩
   rw [← hq] at hst
   have hqf := eq_f hok hn hr hv (i := m) (by omega)
   rw [← hq] at hqf
   have hrest : ∃ e', Ev (fun k => cohousingref28_once.l0 k l q ((m : Int) - 1)) e' ∧ OnceAt l q m e' := by
    rcases hst.2.1 with hd | hv'
    ·exact ⟨q, once_dead hn hst.1.len hd m (by omega), Narrow.refl hst.1.len, .inl hd, fun hv2 _ => absurd hd (vol_not_dead hv2)⟩
    ·exact ih (by omega) q hst.1.len hv'
   obtain ⟨e', he', ho⟩ := hrest
   refine ⟨e', Ev.step ?_, ⟨hst.1.trans ho.nar, ho.now, fun hv' hee p hp => ?_⟩⟩
   ·simp only [cohousingref28_once.l0, h1, if_true, e2]
    refine Ev.bnd (below_f' l hn m (by omega)) ?_
    have hc : (((kidsAt l l.length m).map Int.ofNat).length : Int) > 0 := by
     have := List.length_pos_iff.2 hne
     rw [List.length_map]; omega
    simp only [hc, if_true]
    refine Ev.bnd hem ?_
    simp only [Bool.false_eq_true, if_false]
    exact Ev.bnd hqf he'
   ·have hqr : q = r := by
     apply rr_ext (by rw [hst.1.len, hr])
     intro j hj
     rw [hst.1.len] at hj
     have a1 := hst.1.rng j hj
     have a2 := ho.nar.rng j hj
     rw [hee] at a2
     have b1 : lo9 q j = lo9 r j := by omega
     have b2 : hi9 q j = hi9 r j := by omega
     unfold lo9 at b1
     unfold hi9 at b2
     cases h1 : rr q j
     cases h2 : rr r j
     rw [h1, h2] at b1 b2
     simp only at b1 b2
     rw [b1, b2]
    by_cases h' : p < m
    ·have := ho.fix hv' (hee.trans hqr.symm) p h'
     rw [hqr] at this
     exact this
    ·rw [show p = m by omega]
     exact hst.2.2 hqr
theorem once_f (hok : okL l) (hn : l.length ≤ 200) (r : List RG) (hr : r.length = l.length) (hv : Vol l.length (lo9 r) (hi9 r)) : ∃ e, Ev (fun k => cohousingref28_once.f k l r) e ∧ OnceAt l r l.length e := by
 obtain ⟨e, he, ho⟩ := once_l0 hok hn l.length (Nat.le_refl _) r hr hv
 refine ⟨e, ?_, ho⟩
 unfold cohousingref28_once.f
 rw [wrap_id (by omega) (by omega)]
 exact he
def wide (n : Nat) (e : List RG) : Nat := (List.range n).foldl (fun s j => s + (hi9 e j - lo9 e j).toNat) 0
theorem wide_succ (n : Nat) (e : List RG) : wide (n + 1) e = wide n e + (hi9 e n - lo9 e n).toNat := by
 unfold wide
 rw [List.range_succ, List.foldl_append]
 rfl
theorem wide_le (r e : List RG) : ∀ n, (∀ j, j < n → lo9 r j ≤ lo9 e j ∧ hi9 e j ≤ hi9 r j) → wide n e ≤ wide n r := by
 intro n
 induction n with
 | zero => intro _; exact Nat.le_refl _
 | succ n ih =>
  intro h
  rw [wide_succ, wide_succ]
  have h1 := ih (fun j hj => h j (by omega))
  have h2 := h n (by omega)
  omega
theorem wide_lt (r e : List RG) : ∀ n, (∀ j, j < n → lo9 r j ≤ lo9 e j ∧ hi9 e j ≤ hi9 r j ∧ lo9 e j ≤ hi9 e j) → (∃ j, j < n ∧ (lo9 r j ≠ lo9 e j ∨ hi9 r j ≠ hi9 e j)) → wide n e < wide n r := by
 intro n
 induction n with
 | zero => rintro _ ⟨j, hj, _⟩; omega
 | succ n ih =>
  rintro h ⟨j, hj, hd⟩
  rw [wide_succ, wide_succ]
  have h2 := h n (by omega)
  by_cases hjn : j < n
  ·have h1 := ih (fun j hj => h j (by omega)) ⟨j, hjn, hd⟩
   omega
  ·have e1 : j = n := by omega
   subst e1
   have h1 := wide_le r e j (fun j hj => by have := h j (by omega); omega)
   omega
theorem bounds_l0 (hok : okL l) (hn : l.length ≤ 200) : ∀ (μ : Nat) (r : List RG), wide l.length r = μ → r.length = l.length → Vol l.length (lo9 r) (hi9 r) →
  (Ev (fun k => cohousingref28_bounds.l0 k l r) ([], false) ∧ ¬ ∃ x, Sol (netT l) (lo9 r) (hi9 r) x) ∨
  (∃ d, Ev (fun k => cohousingref28_bounds.l0 k l r) (d, true) ∧ Narrow l r d ∧ Vol l.length (lo9 d) (hi9 d) ∧ ∀ p, p < l.length → Done l d p) := by
 intro μ
 induction μ using Nat.strongRecOn with
 | ind μ ih =>
  intro r hμ hr hv
  obtain ⟨e, he, ho⟩ := once_f hok hn r hr hv
  have hem := empty_f e (by have := ho.nar.len; omega)
  have hsf := same_f e r (by have := ho.nar.len; omega)
  rcases ho.now with hd | hv'
  ·refine .inl ⟨Ev.step ?_, fun ⟨x, hx⟩ => dead_no_sol hd ⟨x, ho.nar.sol x hx⟩⟩
   rw [decide_eq_true (show ∃ j, j < e.length ∧ (rr e j).f1 < (rr e j).f0 from by
    obtain ⟨j, hj, h⟩ := hd
    exact ⟨j, by rw [ho.nar.len]; exact hj, h⟩)] at hem
   simp only [cohousingref28_bounds.l0]
   refine Ev.bnd he (Ev.bnd hem ?_)
   simp only [if_true]
   exact Ev.pure _
  ·rw [decide_eq_false (show ¬ ∃ j, j < e.length ∧ (rr e j).f1 < (rr e j).f0 from by
    rintro ⟨j, hj, h⟩
    exact vol_not_dead hv' ⟨j, by rw [← ho.nar.len]; exact hj, h⟩)] at hem
   by_cases hee : e = r
   ·rw [decide_eq_true hee] at hsf
    refine .inr ⟨e, Ev.step ?_, ho.nar, hv', fun p hp => by rw [hee]; exact ho.fix hv' hee p hp⟩
    simp only [cohousingref28_bounds.l0]
    refine Ev.bnd he (Ev.bnd hem ?_)
    simp only [Bool.false_eq_true, if_false]
    refine Ev.bnd hsf ?_
    simp only [if_true]
    exact Ev.pure _
   ·rw [decide_eq_false hee] at hsf
    have hlt : wide l.length e < μ := by
     rw [← hμ]
     refine wide_lt r e l.length (fun j hj => by have := ho.nar.rng j hj; have := hv' j hj; omega) ?_
     by_cases hex : ∃ j, j < l.length ∧ (lo9 r j ≠ lo9 e j ∨ hi9 r j ≠ hi9 e j)
     ·exact hex
     ·refine absurd (rr_ext (by rw [ho.nar.len, hr]) (fun j hj => ?_)) hee
      rw [ho.nar.len] at hj
      have b1 : lo9 e j = lo9 r j := by
       by_cases h : lo9 r j = lo9 e j
       ·exact h.symm
       ·exact absurd ⟨j, hj, .inl h⟩ hex
      have b2 : hi9 e j = hi9 r j := by
       by_cases h : hi9 r j = hi9 e j
       ·exact h.symm
       ·exact absurd ⟨j, hj, .inr h⟩ hex
      unfold lo9 at b1
      unfold hi9 at b2
      cases h1 : rr e j
      cases h2 : rr r j
      rw [h1, h2] at b1 b2
      simp only at b1 b2
      rw [b1, b2]
    have hrest : ∀ R, Ev (fun k => cohousingref28_bounds.l0 k l e) R → Ev (fun k => cohousingref28_bounds.l0 k l r) R := fun R hR => by
     refine Ev.step ?_
     simp only [cohousingref28_bounds.l0]
     refine Ev.bnd he (Ev.bnd hem ?_)
     simp only [Bool.false_eq_true, if_false]
     refine Ev.bnd hsf ?_
     simp only [Bool.false_eq_true, if_false]
     exact hR
    rcases ih (wide l.length e) hlt e rfl ho.nar.len hv' with ⟨h1, h2⟩ | ⟨d, h1, h2, h3, h4⟩
    ·exact .inl ⟨hrest _ h1, fun ⟨x, hx⟩ => h2 ⟨x, ho.nar.sol x hx⟩⟩
    ·exact .inr ⟨d, hrest _ h1, ho.nar.trans h2, h3, h4⟩
end
end Go.Proofs.Ytbgchacafglcpaa.P
end
section
namespace Go.Proofs.Ytbgchacafglcpaa.P
open Go.RowKit Go.Proofs.YtbgchacafglcpaaW.PrintWords Go.Proofs.YtbgchacafglcpaaW.PrintLast Go.Proofs.YtbgchacafglcpaaW.PrintMore Go.Proofs.YtbgchacafglcpaaH Go.Proofs.FlowTree
open Classical
theorem Lo_map (r : List RG) : Lo (r.map toI) = lo9 r := funext (fun i => Lo_toI r i)
theorem Hi_map (r : List RG) : Hi (r.map toI) = hi9 r := funext (fun i => Hi_toI r i)
theorem rr_toR (d : List IV) (i : Nat) : rr (d.map toR) i = toR (rv d i) := by
 simp only [rv, rr, rd_T74, rd_T38, Int.toNat_natCast, List.getD_eq_getElem?_getD, List.getElem?_map]
 cases d[i]? <;> rfl
theorem lo_map (d : List IV) : lo9 (d.map toR) = Lo d := funext (fun i => by unfold lo9; rw [rr_toR]; rfl)
theorem hi_map (d : List IV) : hi9 (d.map toR) = Hi d := funext (fun i => by unfold hi9; rw [rr_toR]; rfl)
theorem toI_toR (d : List IV) : (d.map toR).map toI = d := by
 rw [List.map_map]
 exact List.map_id d
theorem belongs_iff (n : Nat) (r : List RG) : belongsB n r = true ↔ r.length = n ∧ Vol n (lo9 r) (hi9 r) := by
 unfold belongsB
 rw [Bool.and_eq_true, decide_eq_true_eq, Bool.not_eq_true', List.any_eq_false]
 constructor
 ·rintro ⟨h1, h2⟩
  refine ⟨h1, fun j hj => ?_⟩
  have hj' : j < r.length := by omega
  have := h2 r[j] (List.getElem_mem hj')
  simp only [oddR, Bool.not_eq_true, decide_eq_false_iff_not, Decidable.not_not] at this
  have e : rr r j = r[j] := by simp [rr, rd_T38, List.getD_eq_getElem?_getD, hj']
  unfold lo9 hi9
  rw [e]
  omega
 ·rintro ⟨h1, h2⟩
  refine ⟨h1, fun x hx => ?_⟩
  obtain ⟨j, hj, rfl⟩ := List.mem_iff_getElem.1 hx
  have := h2 j (by omega)
  have e : rr r j = r[j] := by simp [rr, rd_T38, List.getD_eq_getElem?_getD, hj]
  unfold lo9 hi9 at this
  rw [e] at this
  simp only [oddR, Bool.not_eq_true, decide_eq_false_iff_not, Decidable.not_not]
  omega
structure Good (l : List PI) (r : List RG) : Prop where
 ok : okL l
 n : l.length ≤ 200
 len : r.length = l.length
 vol : Vol l.length (lo9 r) (hi9 r)
theorem good_iff (l : List PI) (r : List RG) : Good l r ↔ (okL l ∧ l.length ≤ 200) ∧ belongsB l.length r = true := by
 rw [belongs_iff]
 exact ⟨fun h => ⟨⟨h.ok, h.n⟩, h.len, h.vol⟩, fun h => ⟨h.1.1, h.1.2, h.2.1, h.2.2⟩⟩
theorem netOk_some {l : List PI} (h : okL l) (hn : l.length ≤ 200) : ∃ kids, netOk l = some kids ∧ ∀ j, j < l.length → rdK kids j = (kidsAt l l.length j).map Int.ofNat := by
 obtain ⟨kids, hk⟩ := openK_of h
 exact ⟨kids, by unfold netOk; rw [if_pos hn, hk], (openK_some hk).2⟩
theorem netOk_none {l : List PI} (h : ¬ (okL l ∧ l.length ≤ 200)) : netOk l = none := by
 unfold netOk
 by_cases hn : l.length ≤ 200
 ·rw [if_pos hn]
  cases ho : openK l with
  | none => rfl
  | some kids => exact absurd ⟨(openK_some ho).1, hn⟩ h
 ·rw [if_neg hn]
theorem exact_uniq {l : List PI} {lo hi : Nat → Int} {d : List IV} (h : Exact l lo hi d) {e : List RG} (he : e.length = l.length) (hs : ∀ x, Sol (netT l) lo hi x → ∀ j, j < l.length → lo9 e j ≤ x j ∧ x j ≤ hi9 e j)
  (hv : Vol l.length (lo9 e) (hi9 e)) (hh : ∀ j, j < l.length → ∀ v, lo9 e j ≤ v → v ≤ hi9 e j → ∃ x, Sol (netT l) lo hi x ∧ x j = v) : e = d.map toR := by
 apply rr_ext (by rw [he, List.length_map, h.len])
 intro j hj
 rw [he] at hj
 have hd := h.rng j hj
 have hvj := hv j hj
 obtain ⟨x1, s1, e1⟩ := h.had j hj (Lo d j) (by omega) (by omega)
 obtain ⟨x2, s2, e2⟩ := h.had j hj (Hi d j) (by omega) (by omega)
 obtain ⟨x3, s3, e3⟩ := hh j hj (lo9 e j) (by omega) (by omega)
 obtain ⟨x4, s4, e4⟩ := hh j hj (hi9 e j) (by omega) (by omega)
 have a1 := hs x1 s1 j hj
 have a2 := hs x2 s2 j hj
 have a3 := h.sol x3 s3 j hj
 have a4 := h.sol x4 s4 j hj
 rw [rr_toR]
 have b1 : (rr e j).f0 = (rv d j).f0 := by unfold lo9 at *; unfold Lo at *; unfold hi9 at *; unfold Hi at *; omega
 have b2 : (rr e j).f1 = (rv d j).f1 := by unfold lo9 at *; unfold Lo at *; unfold hi9 at *; unfold Hi at *; omega
 unfold toR
 rw [← b1, ← b2]
section
variable {l : List PI} {kids : List (List Int)}
theorem ref_bounds (hok : okL l) (hn : l.length ≤ 200) (hk : ∀ j, j < l.length → rdK kids j = (kidsAt l l.length j).map Int.ofNat) {r : List RG} (hr : r.length = l.length) (hv : Vol l.length (lo9 r) (hi9 r)) :
  ((boundsF l kids (r.map toI)).1 = false ∧ (¬ ∃ x, Sol (netT l) (lo9 r) (hi9 r) x) ∧ Ev (fun k => cohousingref28_bounds.f k l r) ([], false)) ∨
  ((boundsF l kids (r.map toI)).1 = true ∧ Exact l (lo9 r) (hi9 r) (boundsF l kids (r.map toI)).2 ∧ Ev (fun k => cohousingref28_bounds.f k l r) ((boundsF l kids (r.map toI)).2.map toR, true)) := by
 have hb := boundsF_spec hok hn hk (r := r.map toI) (by rw [List.length_map, hr]) (by rw [Lo_map, Hi_map]; exact hv)
 rw [Lo_map, Hi_map] at hb
 have href := bounds_l0 hok hn (wide l.length r) r rfl hr hv
 rcases hb with ⟨b1, b2⟩ | ⟨b1, b2⟩
 ·refine .inl ⟨b1, b2, ?_⟩
  rcases href with ⟨h1, _⟩ | ⟨d, h1, h2, h3, h4⟩
  ·exact h1
  ·exfalso
   by_cases hz : 0 < l.length
   ·obtain ⟨x, hx, _⟩ := exact (netT l) (netT_ok hok) (lo9 d) (hi9 d) (lo9 d) (hi9 d) (fun i hi => (h3 i hi).2.1) (fun i hi hne => (h4 i hi hne).1) (fun i hi => ⟨Int.le_refl _, (h3 i hi).2.1, Int.le_refl _⟩)
     (fun i hi k hk' => (h4 i hi (fun hh => by simp only [netT] at hk'; rw [hh] at hk'; cases hk')).2 k hk') 0 hz (lo9 d 0) (Int.le_refl _) (h3 0 hz).2.1
    exact b2 ⟨x, fun i hi => by have := hx.1 i hi; have := h2.rng i hi; omega, hx.2⟩
   ·exact b2 ⟨fun _ => 0, fun i hi => absurd hi (by simp only [netT]; omega), fun i hi => absurd hi (by simp only [netT]; omega)⟩
 ·refine .inr ⟨b1, b2, ?_⟩
  rcases href with ⟨_, h2⟩ | ⟨d, h1, h2, h3, h4⟩
  ·exfalso
   by_cases hz : 0 < l.length
   ·obtain ⟨x, hx, _⟩ := b2.had 0 hz (Lo _ 0) (Int.le_refl _) (b2.rng 0 hz).2.1
    exact h2 ⟨x, hx⟩
   ·exact h2 ⟨fun _ => 0, fun i hi => absurd hi (by simp only [netT]; omega), fun i hi => absurd hi (by simp only [netT]; omega)⟩
  ·have e := exact_uniq b2 (e := d) h2.len (fun x hx => (h2.sol x hx).1) h3 (fun j hj v hv1 hv2 => by
    obtain ⟨x, hx, hxv⟩ := exact (netT l) (netT_ok hok) (lo9 d) (hi9 d) (lo9 d) (hi9 d) (fun i hi => (h3 i hi).2.1) (fun i hi hne => (h4 i hi hne).1) (fun i hi => ⟨Int.le_refl _, (h3 i hi).2.1, Int.le_refl _⟩)
     (fun i hi k hk' => (h4 i hi (fun hh => by simp only [netT] at hk'; rw [hh] at hk'; cases hk')).2 k hk') j hj v hv1 hv2
    exact ⟨x, ⟨fun i hi => by have := hx.1 i hi; have := h2.rng i hi; omega, hx.2⟩, hxv⟩)
   rw [← e]
   exact h1
end
inductive BoundsIs (l : List PI) (r : List RG) : List RG × Int → Prop
 | arg : ¬ Good l r → BoundsIs l r ([], 1)
 | flow : Good l r → (¬ ∃ x, Sol (netT l) (lo9 r) (hi9 r) x) → BoundsIs l r ([], 30)
 | ok (d : List IV) : Good l r → Exact l (lo9 r) (hi9 r) d → BoundsIs l r (d.map toR, 0)
theorem boundsR_is (l : List PI) (r : List RG) : BoundsIs l r (boundsR l r) := by
 unfold boundsR
 by_cases hg : Good l r
 ·obtain ⟨kids, h1, h2⟩ := netOk_some hg.ok hg.n
  rw [h1]
  simp only []
  rw [if_pos ((good_iff l r).1 hg).2]
  rcases ref_bounds hg.ok hg.n h2 hg.len hg.vol with ⟨b1, b2, _⟩ | ⟨b1, b2, _⟩
  ·rw [if_neg (by rw [b1]; decide)]
   exact .flow hg b2
  ·rw [if_pos b1]
   exact .ok _ hg b2
 ·have hno := fun h => hg ((good_iff l r).2 h)
  by_cases hv : okL l ∧ l.length ≤ 200
  ·obtain ⟨kids, h1, h2⟩ := netOk_some hv.1 hv.2
   rw [h1]
   simp only []
   rw [if_neg (fun h => hno ⟨hv, h⟩)]
   exact .arg hg
  ·rw [netOk_none hv]
   exact .arg hg
end Go.Proofs.Ytbgchacafglcpaa.P
end
section
namespace Go.Proofs.Ytbgchacafglcpaa.P
open Go.RowKit Go.Proofs.YtbgchacafglcpaaW.PrintWords Go.Proofs.YtbgchacafglcpaaW.PrintLast Go.Proofs.YtbgchacafglcpaaW.PrintMore Go.Proofs.YtbgchacafglcpaaH Go.Proofs.FlowTree
open Classical
abbrev fx (x : List Int) (j : Nat) : Int := rd x (j : Int)
theorem okIn_iff (r : List RG) (x : List Int) (i : Nat) : okIn r x i = true ↔ lo9 r i ≤ fx x i ∧ fx x i ≤ hi9 r i := by
 unfold okIn lo9 hi9 fx rr
 simp only [Bool.and_eq_true, Bool.not_eq_true', decide_eq_false_iff_not]
 omega
theorem mk_map (x : List Int) (j : Nat) : (rv (x.map mkI) j).f0 = fx x j := by
 simp only [rv, rd_T74, fx, rd, Int.toNat_natCast, List.getD_eq_getElem?_getD, List.getElem?_map]
 cases x[j]? <;> rfl
section
variable {l : List PI} {kids : List (List Int)}
theorem lost_eq (hn : l.length ≤ 200) (hk : ∀ j, j < l.length → rdK kids j = (kidsAt l l.length j).map Int.ofNat) {x : List Int} (hx : ∀ j, j < l.length → 0 ≤ fx x j ∧ fx x j ≤ 1000000000) {i : Nat} (hi : i < l.length) :
  (belowI kids (x.map mkI) i).length = (kidsAt l l.length i).length ∧ lostI kids x i = fx x i - sm (fx x) (kidsAt l l.length i) := by
 have hkm : ∀ k ∈ kidsAt l l.length i, k < l.length := fun k hk' => (kidsAt_mem.1 hk').1
 have hbl := kids_len l i
 have hb := sm_bound (f := fx x) (ks := kidsAt l l.length i) (a := 0) (b := 1000000000) (fun k hk' => hx k (hkm k hk'))
 have hxi := hx i hi
 unfold lostI
 rw [below_eq hk _ i hi, List.length_map]
 refine ⟨rfl, ?_⟩
 rw [total_eq _ _ _ (by omega) (fun k hk' => by rw [mk_map]; exact hx k (hkm k hk'))]
 rw [sm_congr (f := fun k => (rv (x.map mkI) k).f0) (g := fx x) (fun k _ => mk_map x k)]
 show wrap64 (fx x i - sm (fx x) (kidsAt l l.length i)) = _
 exact wrap_id (by omega) (by omega)
theorem okEq_iff (hn : l.length ≤ 200) (hk : ∀ j, j < l.length → rdK kids j = (kidsAt l l.length j).map Int.ofNat) {x : List Int} (hx : ∀ j, j < l.length → 0 ≤ fx x j ∧ fx x j ≤ 1000000000) {i : Nat} (hi : i < l.length) :
  okEq l kids x i = true ↔ (netT l).eq (fx x) i := by
 have h := lost_eq hn hk hx hi
 unfold okEq Net.eq
 rw [h.1, h.2]
 simp only [netT, Bool.or_eq_true, Bool.and_eq_true, Bool.not_eq_true', decide_eq_true_eq, decide_eq_false_iff_not]
 constructor
 ·rintro (h1 | h1) hne
  ·exact absurd (List.length_eq_zero_iff.1 h1) hne
  ·unfold loP; omega
 ·intro h1
  by_cases hne : kidsAt l l.length i = []
  ·exact .inl (by rw [hne]; rfl)
  ·have := h1 hne
   unfold loP at this
   exact .inr (by omega)
theorem cons_sol {r : List RG} (hg : Good l r) (hk : ∀ j, j < l.length → rdK kids j = (kidsAt l l.length j).map Int.ofNat) (x : List Int) :
  ((List.range l.length).all (okIn r x) && (List.range l.length).all (okEq l kids x)) = decide (Sol (netT l) (lo9 r) (hi9 r) (fx x)) := by
 by_cases hin : ∀ i, i < l.length → lo9 r i ≤ fx x i ∧ fx x i ≤ hi9 r i
 ·have hx : ∀ j, j < l.length → 0 ≤ fx x j ∧ fx x j ≤ 1000000000 := fun j hj => by have := hin j hj; have := hg.vol j hj; omega
  rw [all_true (fun i hi => (okIn_iff r x i).2 (hin i hi)), Bool.true_and]
  by_cases heq : ∀ i, i < l.length → (netT l).eq (fx x) i
  ·rw [all_true (fun i hi => (okEq_iff hg.n hk hx hi).2 (heq i hi)), decide_eq_true ⟨hin, heq⟩]
  ·rw [decide_eq_false (fun h => heq h.2)]
   have hex : ∃ i, i < l.length ∧ ¬ (netT l).eq (fx x) i := by
    apply Classical.byContradiction
    intro hc
    exact heq (fun i hi => Classical.byContradiction (fun h => hc ⟨i, hi, h⟩))
   obtain ⟨i, hi, hne⟩ := hex
   exact all_false hi (by rw [Bool.eq_false_iff]; exact fun h => hne ((okEq_iff hg.n hk hx hi).1 h))
 ·rw [decide_eq_false (fun h => hin h.1)]
  have hex : ∃ i, i < l.length ∧ ¬ (lo9 r i ≤ fx x i ∧ fx x i ≤ hi9 r i) := by
   apply Classical.byContradiction
   intro hc
   exact hin (fun i hi => Classical.byContradiction (fun h => hc ⟨i, hi, h⟩))
  obtain ⟨i, hi, hne⟩ := hex
  rw [all_false hi (by rw [Bool.eq_false_iff]; exact fun h => hne ((okIn_iff r x i).1 h)), Bool.false_and]
end
theorem consR_is (l : List PI) (r : List RG) (x : List Int) : consR l r x = if Good l r ∧ x.length = l.length then (decide (Sol (netT l) (lo9 r) (hi9 r) (fx x)), 0) else (false, 1) := by
 unfold consR
 by_cases hg : Good l r
 ·obtain ⟨kids, h1, h2⟩ := netOk_some hg.ok hg.n
  rw [h1]
  simp only []
  rw [if_pos ((good_iff l r).1 hg).2]
  by_cases hx : x.length = l.length
  ·rw [if_pos hx, if_pos ⟨hg, hx⟩, cons_sol hg h2]
  ·rw [if_neg hx, if_neg (fun h => hx h.2)]
 ·rw [if_neg (fun h => hg h.1)]
  have hno := fun h => hg ((good_iff l r).2 h)
  by_cases hv : okL l ∧ l.length ≤ 200
  ·obtain ⟨kids, h1, h2⟩ := netOk_some hv.1 hv.2
   rw [h1]
   simp only []
   rw [if_neg (fun h => hno ⟨hv, h⟩)]
  ·rw [netOk_none hv]
section
variable {l : List PI} {r : List RG} {x : List Int}
end
end Go.Proofs.Ytbgchacafglcpaa.P
end
section
namespace Go.Proofs.Ytbgchacafglcpaa.P
open Go.RowKit Go.Proofs.YtbgchacafglcpaaW.PrintWords Go.Proofs.YtbgchacafglcpaaW.PrintLast Go.Proofs.YtbgchacafglcpaaW.PrintMore Go.Proofs.YtbgchacafglcpaaH Go.Proofs.FlowTree
open Classical
theorem fx_set (x : List Int) (k j : Nat) (v : Int) (h : k < x.length) : fx (x.set k v) j = if k = j then v else fx x j := by
 simp only [fx, rd, List.getD_eq_getElem?_getD, Int.toNat_natCast, List.getElem?_set]
 by_cases e : k = j
 ·subst e; simp [h]
 ·simp [e]
theorem Lo_set (r : List IV) (k j : Nat) (y : IV) (h : k < r.length) : Lo (r.set k y) j = if k = j then y.f0 else Lo r j := by
 unfold Lo; rw [rv_set r k j y h]; split <;> rfl
theorem Hi_set (r : List IV) (k j : Nat) (y : IV) (h : k < r.length) : Hi (r.set k y) j = if k = j then y.f1 else Hi r j := by
 unfold Hi; rw [rv_set r k j y h]; split <;> rfl
section
variable {l : List PI} {kids : List (List Int)}
def Tight (l : List PI) (q : List IV) : Prop := Exact l (Lo q) (Hi q) q
theorem exact_tight {lo hi : Nat → Int} {d : List IV} (h : Exact l lo hi d) : Tight l d ∧ ∀ y, Sol (netT l) (Lo d) (Hi d) y ↔ Sol (netT l) lo hi y := by
 have key : ∀ y, Sol (netT l) (Lo d) (Hi d) y ↔ Sol (netT l) lo hi y := fun y =>
  ⟨fun hy => ⟨fun i hi => by have := hy.1 i hi; have := h.rng i hi; omega, hy.2⟩, fun hy => ⟨fun i hi => h.sol y hy i hi, hy.2⟩⟩
 refine ⟨⟨h.len, fun j hj => ?_, fun x hx j hj => hx.1 j hj, fun j hj v h1 h2 => ?_⟩, key⟩
 ·have := h.rng j hj
  exact ⟨this.1, this.2.1, this.2.2.1, Int.le_refl _, Int.le_refl _⟩
 ·obtain ⟨x, hx, e⟩ := h.had j hj v h1 h2
  exact ⟨x, (key x).2 hx, e⟩
theorem fixed (hok : okL l) (hn : l.length ≤ 200) (hk : ∀ j, j < l.length → rdK kids j = (kidsAt l l.length j).map Int.ofNat) {q : List IV} (hq : q.length = l.length) (hv : Vol l.length (Lo q) (Hi q)) {k : Nat} (hkl : k < l.length) {v : Int}
  (hr : Lo q k ≤ v ∧ v ≤ Hi q k) (hs : ∃ x, Sol (netT l) (Lo q) (Hi q) x ∧ x k = v) :
  (boundsF l kids (q.set k ⟨v, v⟩)).1 = true ∧ Tight l (boundsF l kids (q.set k ⟨v, v⟩)).2 ∧ ∀ y, Sol (netT l) (Lo (boundsF l kids (q.set k ⟨v, v⟩)).2) (Hi (boundsF l kids (q.set k ⟨v, v⟩)).2) y ↔ Sol (netT l) (Lo q) (Hi q) y ∧ y k = v := by
 have hkq : k < q.length := by omega
 have hset : ∀ j, Lo (q.set k ⟨v, v⟩) j = (if k = j then v else Lo q j) ∧ Hi (q.set k ⟨v, v⟩) j = (if k = j then v else Hi q j) := fun j => ⟨Lo_set q k j _ hkq, Hi_set q k j _ hkq⟩
 have hsol : ∀ y, Sol (netT l) (Lo (q.set k ⟨v, v⟩)) (Hi (q.set k ⟨v, v⟩)) y ↔ Sol (netT l) (Lo q) (Hi q) y ∧ y k = v := by
  intro y
  constructor
  ·intro hy
   have hyk := hy.1 k hkl
   rw [(hset k).1, (hset k).2, if_pos rfl, if_pos rfl] at hyk
   refine ⟨⟨fun i hi => ?_, hy.2⟩, by omega⟩
   have := hy.1 i hi
   rw [(hset i).1, (hset i).2] at this
   by_cases e : k = i
   ·subst e; omega
   ·rw [if_neg e, if_neg e] at this; exact this
  ·rintro ⟨hy, e⟩
   refine ⟨fun i hi => ?_, hy.2⟩
   rw [(hset i).1, (hset i).2]
   by_cases e' : k = i
   ·subst e'; rw [if_pos rfl, if_pos rfl]; omega
   ·rw [if_neg e', if_neg e']; exact hy.1 i hi
 have hvol : Vol l.length (Lo (q.set k ⟨v, v⟩)) (Hi (q.set k ⟨v, v⟩)) := fun i hi => by
  rw [(hset i).1, (hset i).2]
  have := hv i hi
  by_cases e : k = i
  ·subst e; rw [if_pos rfl, if_pos rfl]; omega
  ·rw [if_neg e, if_neg e]; exact this
 rcases boundsF_spec hok hn hk (r := q.set k ⟨v, v⟩) (by rw [List.length_set, hq]) hvol with ⟨_, b2⟩ | ⟨b1, b2⟩
 ·obtain ⟨x, hx, e⟩ := hs
  exact absurd ⟨x, (hsol x).2 ⟨hx, e⟩⟩ b2
 ·have := exact_tight b2
  exact ⟨b1, this.1, fun y => (this.2 y).trans (hsol y)⟩
structure StateAt (l : List PI) (b : List IV) (m : Nat) (p : List Int × List IV) : Prop where
 len : p.1.length = l.length
 tight : Tight l p.2
 sol : ∀ y, Sol (netT l) (Lo p.2) (Hi p.2) y ↔ Sol (netT l) (Lo b) (Hi b) y ∧ ∀ j, j < m → y j = fx p.1 j
 first : ∀ y, Sol (netT l) (Lo b) (Hi b) y → (∀ j, j < m → y j = fx p.1 j) ∨ ∃ j, j < m ∧ fx p.1 j < y j ∧ ∀ i, i < j → y i = fx p.1 i
theorem state_at (hok : okL l) (hn : l.length ≤ 200) (hk : ∀ j, j < l.length → rdK kids j = (kidsAt l l.length j).map Int.ofNat) {b : List IV} (hb : Tight l b) : ∀ m, m ≤ l.length → StateAt l b m (stateFold l kids b m) := by
 intro m
 induction m with
 | zero => intro _; exact ⟨by simp [stateFold], hb, fun y => ⟨fun h => ⟨h, fun j hj => absurd hj (Nat.not_lt_zero _)⟩, fun h => h.1⟩, fun y _ => .inl (fun j hj => absurd hj (Nat.not_lt_zero _))⟩
 | succ m ih =>
  intro hm
  have h := ih (by omega)
  rw [stateFold_succ]
  obtain ⟨p, hp⟩ : ∃ p, p = stateFold l kids b m := ⟨_, rfl⟩
  rw [← hp] at h ⊢
  have hmp : m < p.1.length := by rw [h.len]; omega
  have hrm := h.tight.rng m (by omega)
  have hhad := h.tight.had m (by omega) (Lo p.2 m) (Int.le_refl _) (by omega)
  have hf := fixed hok hn hk h.tight.len (fun i hi => by have := h.tight.rng i hi; omega) (show m < l.length by omega) (v := Lo p.2 m) (by omega) hhad
  have hset : ∀ j, fx (p.1.set m (Lo p.2 m)) j = if m = j then Lo p.2 m else fx p.1 j := fun j => fx_set p.1 m j _ hmp
  have hstep : stateStep l kids p m = (p.1.set m (Lo p.2 m), (boundsF l kids (p.2.set m ⟨Lo p.2 m, Lo p.2 m⟩)).2) := rfl
  rw [hstep]
  refine ⟨by rw [List.length_set]; exact h.len, hf.2.1, fun y => ?_, fun y hy => ?_⟩
  ·rw [hf.2.2 y, h.sol y]
   constructor
   ·rintro ⟨⟨h1, h2⟩, h3⟩
    refine ⟨h1, fun j hj => ?_⟩
    show y j = fx (p.1.set m (Lo p.2 m)) j
    rw [hset]
    by_cases e : m = j
    ·subst e; rw [if_pos rfl]; exact h3
    ·rw [if_neg e]; exact h2 j (by omega)
   ·rintro ⟨h1, h2⟩
    refine ⟨⟨h1, fun j hj => ?_⟩, ?_⟩
    ·have : y j = fx (p.1.set m (Lo p.2 m)) j := h2 j (by omega)
     rw [hset, if_neg (by omega)] at this
     exact this
    ·have : y m = fx (p.1.set m (Lo p.2 m)) m := h2 m (by omega)
     rw [hset, if_pos rfl] at this
     exact this
  ·show (∀ j, j < m + 1 → y j = fx (p.1.set m (Lo p.2 m)) j) ∨ ∃ j, j < m + 1 ∧ fx (p.1.set m (Lo p.2 m)) j < y j ∧ ∀ i, i < j → y i = fx (p.1.set m (Lo p.2 m)) i
   rcases h.first y hy with h1 | ⟨j, hj, h2, h3⟩
   ·have hy2 := (h.sol y).2 ⟨hy, h1⟩
    have hym := hy2.1 m (by simp only [netT]; omega)
    by_cases e : y m = Lo p.2 m
    ·refine .inl (fun j hj => ?_)
     rw [hset]
     by_cases e' : m = j
     ·subst e'; rw [if_pos rfl]; exact e
     ·rw [if_neg e']; exact h1 j (by omega)
    ·refine .inr ⟨m, by omega, ?_, fun i hi => ?_⟩
     ·rw [hset, if_pos rfl]; omega
     ·rw [hset, if_neg (by omega)]; exact h1 i hi
   ·refine .inr ⟨j, by omega, ?_, fun i hi => ?_⟩
    ·rw [hset, if_neg (by omega)]; exact h2
    ·rw [hset, if_neg (by omega)]; exact h3 i hi
end
inductive StateIs (l : List PI) (r : List RG) (i v : Int) : List Int × Int → Prop
 | arg : ¬ (Good l r ∧ 0 ≤ i ∧ i < (l.length : Int)) → StateIs l r i v ([], 1)
 | flow : Good l r → 0 ≤ i → i < (l.length : Int) → (¬ ∃ x, Sol (netT l) (lo9 r) (hi9 r) x ∧ x i.toNat = v) → StateIs l r i v ([], 30)
 | ok (x : List Int) : Good l r → 0 ≤ i → i < (l.length : Int) → x.length = l.length → Sol (netT l) (lo9 r) (hi9 r) (fx x) → fx x i.toNat = v →
   (∀ y, Sol (netT l) (lo9 r) (hi9 r) y → y i.toNat = v → (∀ j, j < l.length → y j = fx x j) ∨ ∃ j, j < l.length ∧ fx x j < y j ∧ ∀ k, k < j → y k = fx x k) → StateIs l r i v (x, 0)
theorem set_one (r : List RG) (n : Nat) (v : Int) : (r.set n ⟨v, v⟩).map toI = (r.map toI).set n ⟨v, v⟩ := by rw [List.map_set]; rfl
theorem with_f (r : List RG) (n : Nat) (v : Int) (h : n < r.length) (hl : r.length ≤ 200) : cohousingref28_with.f r (n : Int) v = some (r.set n ⟨v, v⟩) := by
 unfold cohousingref28_with.f
 have h1 : ([] : List RG).length + r.length < 8796093022208 := by simp; omega
 have h2 : (0 : Int) ≤ (n : Int) := by omega
 have h3 : ((n : Int) < (r.length : Int)) := by omega
 simp only [Option.bind_some, h1, if_true, List.nil_append, h2, h3, Int.toNat_natCast]
section
variable {l : List PI} {kids : List (List Int)}
theorem ref_state_l0 (hok : okL l) (hn : l.length ≤ 200) (hk : ∀ j, j < l.length → rdK kids j = (kidsAt l l.length j).map Int.ofNat) {b : List IV} (hb : Tight l b) : ∀ (d m : Nat), m + d = l.length →
  Ev (fun k => cohousingref28_State.l0 k l ((stateFold l kids b m).2.map toR) ((stateFold l kids b m).1.take m) (m : Int)) ((stateFold l kids b l.length).1, 0) := by
 intro d
 induction d with
 | zero =>
  intro m hm
  have h1 : ¬ ((m : Int) < (l.length : Int)) := by omega
  refine Ev.step ?_
  simp only [cohousingref28_State.l0, h1, if_false]
  have e : m = l.length := by omega
  subst e
  rw [List.take_of_length_le (by rw [(state_at hok hn hk hb l.length (Nat.le_refl _)).len]; exact Nat.le_refl _)]
  exact Ev.pure _
 | succ d ih =>
  intro m hm
  have hs := state_at hok hn hk hb m (by omega)
  have hrec := ih (m + 1) (by omega)
  rw [stateFold_succ] at hrec
  obtain ⟨p, hp⟩ : ∃ p, p = stateFold l kids b m := ⟨_, rfl⟩
  rw [← hp] at hs hrec ⊢
  have hp2 : p.2.length = l.length := hs.tight.len
  have hrm := hs.tight.rng m (by omega)
  have h1 : ((m : Int) < (l.length : Int)) := by omega
  have h2 : (0 : Int) ≤ (m : Int) := by omega
  have h3 : ((m : Int) < ((p.2.map toR).length : Int)) := by rw [List.length_map]; omega
  have h4 : (p.1.take m).length < 17592186044416 := by rw [List.length_take]; omega
  have hlo : (rd_T38 (p.2.map toR) (m : Int)).f0 = Lo p.2 m := congrFun (lo_map p.2) m
  have hw := with_f (p.2.map toR) m (Lo p.2 m) (by rw [List.length_map]; omega) (by rw [List.length_map]; omega)
  have hf := fixed hok hn hk hs.tight.len (fun i hi => by have := hs.tight.rng i hi; omega) (show m < l.length by omega) (v := Lo p.2 m) (by omega) (hs.tight.had m (by omega) (Lo p.2 m) (Int.le_refl _) (by omega))
  have hmap : ((p.2.map toR).set m ⟨Lo p.2 m, Lo p.2 m⟩).map toI = p.2.set m ⟨Lo p.2 m, Lo p.2 m⟩ := by rw [set_one, toI_toR]
  have hvol : Vol l.length (lo9 ((p.2.map toR).set m ⟨Lo p.2 m, Lo p.2 m⟩)) (hi9 ((p.2.map toR).set m ⟨Lo p.2 m, Lo p.2 m⟩)) := fun i hi => by
   rw [← Lo_map, ← Hi_map, hmap, Lo_set _ _ _ _ (by omega), Hi_set _ _ _ _ (by omega)]
   have := hs.tight.rng i hi
   by_cases e : m = i
   ·subst e; rw [if_pos rfl, if_pos rfl]; dsimp only; omega
   ·rw [if_neg e, if_neg e]; omega
  have hrb := ref_bounds hok hn hk (r := (p.2.map toR).set m ⟨Lo p.2 m, Lo p.2 m⟩) (by rw [List.length_set, List.length_map, hp2]) hvol
  rw [hmap] at hrb
  rcases hrb with ⟨b1, _⟩ | ⟨b1, _, b3⟩
  ·rw [hf.1] at b1; cases b1
  ·refine Ev.step ?_
   simp only [cohousingref28_State.l0, h1, h2, h3, h4, if_true, hlo, Option.bind_some, hw, wrap_nat (show m ≤ 140737488355328 by omega)]
   refine Ev.bnd b3 ?_
   simp only [if_true]
   have hstep : stateStep l kids p m = (p.1.set m (Lo p.2 m), (boundsF l kids (p.2.set m ⟨Lo p.2 m, Lo p.2 m⟩)).2) := rfl
   rw [hstep] at hrec
   have htake : (p.1.set m (Lo p.2 m)).take (m + 1) = p.1.take m ++ [Lo p.2 m] := by
    rw [List.take_succ_eq_append_getElem (by rw [List.length_set, hs.len]; omega), List.take_set_of_le (Nat.le_refl _)]
    simp
   rw [htake] at hrec
   exact hrec
end
theorem stateR_is (l : List PI) (r : List RG) (i v : Int) : StateIs l r i v (stateR l r i v) ∧ (l.length ≤ 5864062014805 → r.length ≤ 140737488355328 → Ev (fun k => cohousingref28_State.f k l r i v) (stateR l r i v)) := by
 have hpre : ∀ R, (Good l r → Ev (fun k => if i < 0 then cohousingref28_State.j0 k l r i v true else cohousingref28_State.j0 k l r i v (decide (i ≥ (l.length : Int)))) R) → (¬ Good l r → R = ([], 1)) →
   l.length ≤ 5864062014805 → r.length ≤ 140737488355328 → Ev (fun k => cohousingref28_State.f k l r i v) R := by
  intro R h1 h2 hl hr
  have hbel : cohousingref28_Belongs.f l r = some (belongsB l.length r) := by unfold cohousingref28_Belongs.f; rw [if_pos ⟨by omega, hr⟩]
  unfold cohousingref28_State.f
  refine Ev.bnd (valid_f l (by omega)) ?_
  simp only [hbel, Option.bind_some]
  by_cases hg : Good l r
  ·rw [decide_eq_true ((good_iff l r).1 hg).1, ((good_iff l r).1 hg).2]
   simp only [if_true]
   exact h1 hg
  ·rw [h2 hg]
   have hj : Ev (fun k => cohousingref28_State.j0 k l r i v true) ([], 1) := by
    refine Ev.step ?_
    simp only [cohousingref28_State.j0, if_true]
    exact Ev.pure _
   by_cases hv : okL l ∧ l.length ≤ 200
   ·have hb : belongsB l.length r = false := by rw [Bool.eq_false_iff]; exact fun h => hg ((good_iff l r).2 ⟨hv, h⟩)
    rw [decide_eq_true hv, hb]
    simp only [if_true, Bool.false_eq_true, if_false]
    exact hj
   ·rw [decide_eq_false hv]
    simp only [Bool.false_eq_true, if_false]
    exact hj
 by_cases hg : Good l r
 case neg =>
  have e : stateR l r i v = ([], 1) := by
   unfold stateR
   have hno := fun h => hg ((good_iff l r).2 h)
   by_cases hv : okL l ∧ l.length ≤ 200
   ·obtain ⟨kids, h1, h2⟩ := netOk_some hv.1 hv.2
    rw [h1]
    simp only []
    rw [if_neg (fun h => hno ⟨hv, h⟩)]
   ·rw [netOk_none hv]
  rw [e]
  exact ⟨.arg (fun h => hg h.1), hpre _ (fun h => absurd h hg) (fun _ => rfl)⟩
 obtain ⟨kids, h1, h2⟩ := netOk_some hg.ok hg.n
 have hn := hg.n
 have e0 : stateR l r i v = (if i < 0 then ([], 1) else if (l.length : Int) ≤ i then ([], 1) else
   if emptyI (cutI (rd_T74 (r.map toI) i) v v) = true then ([], 30) else
   if (boundsF l kids ((r.map toI).set i.toNat (cutI (rd_T74 (r.map toI) i) v v))).1 = true then
    ((stateFold l kids (boundsF l kids ((r.map toI).set i.toNat (cutI (rd_T74 (r.map toI) i) v v))).2 l.length).1, 0) else ([], 30)) := by
  unfold stateR
  rw [h1]
  simp only []
  rw [if_pos ((good_iff l r).1 hg).2]
 rw [e0]
 by_cases hi0 : i < 0
 ·rw [if_pos hi0]
  refine ⟨.arg (fun h => by omega), hpre _ (fun _ => ?_) (fun h => absurd hg h)⟩
  simp only [hi0, if_true]
  refine Ev.step ?_
  simp only [cohousingref28_State.j0, if_true]
  exact Ev.pure _
 rw [if_neg hi0]
 by_cases hi1 : (l.length : Int) ≤ i
 ·rw [if_pos hi1]
  refine ⟨.arg (fun h => by omega), hpre _ (fun _ => ?_) (fun h => absurd hg h)⟩
  have hd : decide (i ≥ (l.length : Int)) = true := decide_eq_true hi1
  simp only [hi0, if_false, hd]
  refine Ev.step ?_
  simp only [cohousingref28_State.j0, if_true]
  exact Ev.pure _
 rw [if_neg hi1]
 obtain ⟨n, rfl⟩ : ∃ n : Nat, i = n := ⟨i.toNat, by omega⟩
 have hnl : n < l.length := by omega
 have hnr : n < r.length := by have := hg.len; omega
 have hvn := hg.vol n hnl
 rw [Int.toNat_natCast]
 have hd : decide ((n : Int) ≥ (l.length : Int)) = false := decide_eq_false hi1
 have hx0 : (rd_T74 (r.map toI) (n : Int)).f0 = lo9 r n := congrFun (Lo_map r) n
 have hx1 : (rd_T74 (r.map toI) (n : Int)).f1 = hi9 r n := congrFun (Hi_map r) n
 have w2 : (rd_T38 r (n : Int)).f0 = lo9 r n := rfl
 have w3 : (rd_T38 r (n : Int)).f1 = hi9 r n := rfl
 have g2 : (0 : Int) ≤ (n : Int) := by omega
 have g3 : ((n : Int) < (r.length : Int)) := by omega
 have hem : emptyI (cutI (rd_T74 (r.map toI) (n : Int)) v v) = decide (¬ (lo9 r n ≤ v ∧ v ≤ hi9 r n)) := by
  unfold emptyI
  rw [cutI_f0, cutI_f1, hx0, hx1]
  exact decide_eq_decide.2 (by omega)
 have hno : ∀ R, (∀ R', (Ev (fun k => cohousingref28_State.j1 k l r (n : Int) v (decide (¬ (lo9 r n ≤ v ∧ v ≤ hi9 r n)))) R' → R' = R → l.length ≤ 5864062014805 → r.length ≤ 140737488355328 → Ev (fun k => cohousingref28_State.f k l r (n : Int) v) R)) := by
  intro R R' hj hR
  subst hR
  refine hpre R' (fun _ => ?_) (fun h => absurd hg h)
  simp only [hi0, if_false, hd]
  refine Ev.step ?_
  simp only [cohousingref28_State.j0, Bool.false_eq_true, if_false, g2, g3, if_true, w2, w3]
  by_cases c : v < lo9 r n
  ·simp only [c, if_true]
   rw [decide_eq_true (show ¬ (lo9 r n ≤ v ∧ v ≤ hi9 r n) by omega)] at hj
   exact hj
  ·simp only [c, if_false]
   rw [show decide (v > hi9 r n) = decide (¬ (lo9 r n ≤ v ∧ v ≤ hi9 r n)) from decide_eq_decide.2 (by omega)]
   exact hj
 by_cases hin : lo9 r n ≤ v ∧ v ≤ hi9 r n
 case neg =>
  rw [if_pos (by rw [hem, decide_eq_true hin])]
  refine ⟨.flow hg g2 (by omega) ?_, hno _ _ ?_ rfl⟩
  ·rintro ⟨x, hx, e⟩
   have := hx.1 n hnl
   rw [Int.toNat_natCast] at e
   omega
  ·rw [decide_eq_true hin]
   refine Ev.step ?_
   simp only [cohousingref28_State.j1, if_true]
   exact Ev.pure _
 rw [if_neg (by rw [hem, decide_eq_false (fun h => h hin)]; decide)]
 have hcut : cutI (rd_T74 (r.map toI) (n : Int)) v v = ⟨v, v⟩ := by
  have a := cutI_f0 (rd_T74 (r.map toI) (n : Int)) v v
  have b := cutI_f1 (rd_T74 (r.map toI) (n : Int)) v v
  rw [hx0] at a
  rw [hx1] at b
  cases hc : cutI (rd_T74 (r.map toI) (n : Int)) v v with
  | mk c0 c1 =>
   rw [hc] at a b
   simp only at a b
   rw [a, b]
   congr 1 <;> omega
 rw [hcut]
 have hmap : (r.set n ⟨v, v⟩).map toI = (r.map toI).set n ⟨v, v⟩ := set_one r n v
 have hlen' : n < (r.map toI).length := by rw [List.length_map]; exact hnr
 have hvol : Vol l.length (lo9 (r.set n ⟨v, v⟩)) (hi9 (r.set n ⟨v, v⟩)) := fun j hj => by
  rw [← Lo_map, ← Hi_map, hmap, Lo_set _ _ _ _ hlen', Hi_set _ _ _ _ hlen', Lo_map, Hi_map]
  have := hg.vol j hj
  by_cases e : n = j
  ·subst e; rw [if_pos rfl, if_pos rfl]; dsimp only; omega
  ·rw [if_neg e, if_neg e]; exact this
 have hsol : ∀ y, Sol (netT l) (lo9 (r.set n ⟨v, v⟩)) (hi9 (r.set n ⟨v, v⟩)) y ↔ Sol (netT l) (lo9 r) (hi9 r) y ∧ y n = v := by
  intro y
  rw [← Lo_map (r.set n ⟨v, v⟩), ← Hi_map (r.set n ⟨v, v⟩), hmap]
  have hset : ∀ j, Lo ((r.map toI).set n ⟨v, v⟩) j = (if n = j then v else lo9 r j) ∧ Hi ((r.map toI).set n ⟨v, v⟩) j = (if n = j then v else hi9 r j) := fun j => by
   rw [Lo_set _ _ _ _ hlen', Hi_set _ _ _ _ hlen', Lo_map, Hi_map]; exact ⟨rfl, rfl⟩
  constructor
  ·intro hy
   have hyk := hy.1 n hnl
   rw [(hset n).1, (hset n).2, if_pos rfl, if_pos rfl] at hyk
   refine ⟨⟨fun j hj => ?_, hy.2⟩, by omega⟩
   have := hy.1 j hj
   rw [(hset j).1, (hset j).2] at this
   by_cases e : n = j
   ·subst e; omega
   ·rw [if_neg e, if_neg e] at this; exact this
  ·rintro ⟨hy, e⟩
   refine ⟨fun j hj => ?_, hy.2⟩
   rw [(hset j).1, (hset j).2]
   by_cases e' : n = j
   ·subst e'; rw [if_pos rfl, if_pos rfl]; omega
   ·rw [if_neg e', if_neg e']; exact hy.1 j hj
 have hrb := ref_bounds hg.ok hn h2 (r := r.set n ⟨v, v⟩) (by rw [List.length_set, hg.len]) hvol
 rw [hmap] at hrb
 have hw := with_f r n v hnr (by have := hg.len; omega)
 rcases hrb with ⟨b1, b2, b3⟩ | ⟨b1, b2, b3⟩
 ·rw [if_neg (by rw [b1]; decide)]
  refine ⟨.flow hg g2 (by omega) ?_, hno _ _ ?_ rfl⟩
  ·rintro ⟨x, hx, e⟩
   rw [Int.toNat_natCast] at e
   exact b2 ⟨x, (hsol x).2 ⟨hx, e⟩⟩
  ·rw [decide_eq_false (fun h => h hin)]
   refine Ev.step ?_
   simp only [cohousingref28_State.j1, Bool.false_eq_true, if_false, hw, Option.bind_some]
   refine Ev.bnd b3 ?_
   simp only [Bool.false_eq_true, if_false]
   exact Ev.pure _
 ·rw [if_pos b1]
  obtain ⟨b, hb⟩ : ∃ b, b = (boundsF l kids ((r.map toI).set n ⟨v, v⟩)).2 := ⟨_, rfl⟩
  rw [← hb] at b2 b3 ⊢
  have ht := exact_tight b2
  have hs := state_at hg.ok hn h2 ht.1 l.length (Nat.le_refl _)
  obtain ⟨p, hp⟩ : ∃ p, p = stateFold l kids b l.length := ⟨_, rfl⟩
  have hrec := ref_state_l0 hg.ok hn h2 ht.1 l.length 0 (by omega)
  rw [← hp] at hs hrec ⊢
  have hz : 0 < l.length := by omega
  obtain ⟨y, hy, _⟩ := hs.tight.had 0 hz (Lo p.2 0) (Int.le_refl _) (hs.tight.rng 0 hz).2.1
  have hy2 := (hs.sol y).1 hy
  have hy3 := (hsol y).1 ((ht.2 y).1 hy2.1)
  have hxsol : Sol (netT l) (lo9 r) (hi9 r) (fx p.1) := by
   refine ⟨fun j hj => ?_, fun j hj => ?_⟩
   ·rw [← hy2.2 j hj]; exact hy3.1.1 j hj
   ·exact eq_congr (x := y) (hy2.2 j hj) (fun k hk' => hy2.2 k ((netT_ok hg.ok).lt j k hk').2) (hy3.1.2 j hj)
  refine ⟨.ok p.1 hg g2 (by omega) hs.len hxsol ?_ ?_, hno _ _ ?_ rfl⟩
  ·rw [Int.toNat_natCast, ← hy2.2 n hnl]; exact hy3.2
  ·intro q hq hqv
   rw [Int.toNat_natCast] at hqv
   exact hs.first q ((ht.2 q).2 ((hsol q).2 ⟨hq, hqv⟩))
  ·rw [decide_eq_false (fun h => h hin)]
   refine Ev.step ?_
   simp only [cohousingref28_State.j1, Bool.false_eq_true, if_false, hw, Option.bind_some]
   refine Ev.bnd b3 ?_
   simp only [if_true]
   exact hrec
end Go.Proofs.Ytbgchacafglcpaa.P
end
section
namespace Go.Proofs.Ytbgchacafglcpaa.P
open Go.RowKit Go.Proofs.YtbgchacafglcpaaW.PrintWords Go.Proofs.YtbgchacafglcpaaW.PrintLast Go.Proofs.YtbgchacafglcpaaW.PrintMore
attribute [local go_sem] max2_int min2_int max_two min_two max_three min_three max_four min_four
set_option linter.unusedVariables false
set_option linter.unusedSimpArgs false
set_option maxHeartbeats 8000000
set_option maxRecDepth 100000
section
def cohousingref29_cost.f (a0 : Int) : Option (Bool) := if a0 ≥ 0 then (some (decide (a0 ≤ 1000000000))) else (some false)
end
section
def cohousingref29_Homes.l0 : Nat → List Int → Int → Option (Bool)
 | 0, _, _ => none
 | k + 1, x0, x5 => if x5 < (x0.length : Int) then (if 0 ≤ x5 then (if (rd x0 x5) < 1 then (some false) else (if (rd x0 x5) > 64 then (some false) else (if x5 > 0 then (if 0 ≤ (wrap64 (x5 - 1)) then (if (wrap64 (x5 - 1)) < (x0.length : Int) then (if (rd x0 x5) ≤ (rd x0 (wrap64 (x5 - 1))) then (some false) else (cohousingref29_Homes.l0 k x0 (wrap64 (x5 + 1)))) else (none)) else (none)) else (cohousingref29_Homes.l0 k x0 (wrap64 (x5 + 1)))))) else (none)) else (some true)
def cohousingref29_Homes.f (k : Nat) (l0 : List Int) (a1 : Int) : Option (Bool) := if (l0.length : Int) = a1 then (cohousingref29_Homes.l0 k l0 0) else (some false)
theorem cohousingref29_Homes.mono_l : ∀ k, (∀ y0 y1, LeO (cohousingref29_Homes.l0 k y0 y1) (cohousingref29_Homes.l0 (k + 1) y0 y1))
 | 0 => fun _ _ r h => by simp [cohousingref29_Homes.l0] at h
 | k + 1 => by
  have ih0 := cohousingref29_Homes.mono_l k
  ·intro y0 y1
   unfold cohousingref29_Homes.l0
   repeat' first
   | (with_reducible exact ih0 _ _)
   | (with_reducible exact LeO.refl _)
   | (with_reducible exact LeO.none _)
   | (with_reducible refine LeO.ite ?_ ?_)
   | (with_reducible refine LeO.bind ?_ (fun _ => ?_))
   | exact ih0 _ _
   | exact LeO.none _
   | refine LeO.ite ?_ ?_
   | refine LeO.bind ?_ (fun _ => ?_)
theorem cohousingref29_Homes.mono : ∀ a0 a1 k, LeO (cohousingref29_Homes.f k a0 a1) (cohousingref29_Homes.f (k + 1) a0 a1) := by
 intro a0 a1 k
 have ih0 := cohousingref29_Homes.mono_l k
 unfold cohousingref29_Homes.f
 repeat' first
   | (with_reducible exact ih0 _ _)
   | (with_reducible exact LeO.refl _)
   | (with_reducible exact LeO.none _)
   | (with_reducible refine LeO.ite ?_ ?_)
   | (with_reducible refine LeO.bind ?_ (fun _ => ?_))
   | exact ih0 _ _
   | exact LeO.none _
   | refine LeO.ite ?_ ?_
   | refine LeO.bind ?_ (fun _ => ?_)
end
section
mutual
def cohousingref29_Parts.j0 : Nat → Int → List (S38) → Bool → Option (Bool)
 | 0, _, _, _ => none
 | k + 1, x0, x1, x16 => if x16 = true then (some false) else (cohousingref29_Parts.l0 k x0 x1 0)
def cohousingref29_Parts.l0 : Nat → Int → List (S38) → Int → Option (Bool)
 | 0, _, _, _ => none
 | k + 1, x0, x1, x5 => if x5 < (x1.length : Int) then (if 0 ≤ x5 then (if ((rd_T38 x1 x5).f0) < 0 then (some false) else (if ((rd_T38 x1 x5).f0) > ((rd_T38 x1 x5).f1) then (some false) else (if ((rd_T38 x1 x5).f1) > x0 then (some false) else (cohousingref29_Parts.l0 k x0 x1 (wrap64 (x5 + 1)))))) else (none)) else (some true)
end
def cohousingref29_Parts.f (k : Nat) (a0 : Int) (l1 : List (S38)) : Option (Bool) := if a0 < 1 then (cohousingref29_Parts.j0 k a0 l1 true) else (if a0 > 1000000000 then (cohousingref29_Parts.j0 k a0 l1 true) else (cohousingref29_Parts.j0 k a0 l1 (decide ((l1.length : Int) > 200))))
theorem cohousingref29_Parts.mono_l : ∀ k, (∀ y0 y1 y2, LeO (cohousingref29_Parts.j0 k y0 y1 y2) (cohousingref29_Parts.j0 (k + 1) y0 y1 y2)) ∧ (∀ y0 y1 y2, LeO (cohousingref29_Parts.l0 k y0 y1 y2) (cohousingref29_Parts.l0 (k + 1) y0 y1 y2))
 | 0 => ⟨fun _ _ _ r h => by simp [cohousingref29_Parts.j0] at h, fun _ _ _ r h => by simp [cohousingref29_Parts.l0] at h⟩
 | k + 1 => by
  obtain ⟨ih0, ih1⟩ := cohousingref29_Parts.mono_l k
  refine ⟨?_, ?_⟩
  ·intro y0 y1 y2
   unfold cohousingref29_Parts.j0
   repeat' first
   | (with_reducible exact ih0 _ _ _)
   | (with_reducible exact ih1 _ _ _)
   | (with_reducible exact LeO.refl _)
   | (with_reducible exact LeO.none _)
   | (with_reducible refine LeO.ite ?_ ?_)
   | (with_reducible refine LeO.bind ?_ (fun _ => ?_))
   | exact ih0 _ _ _
   | exact ih1 _ _ _
   | exact LeO.none _
   | refine LeO.ite ?_ ?_
   | refine LeO.bind ?_ (fun _ => ?_)
  ·intro y0 y1 y2
   unfold cohousingref29_Parts.l0
   repeat' first
   | (with_reducible exact ih0 _ _ _)
   | (with_reducible exact ih1 _ _ _)
   | (with_reducible exact LeO.refl _)
   | (with_reducible exact LeO.none _)
   | (with_reducible refine LeO.ite ?_ ?_)
   | (with_reducible refine LeO.bind ?_ (fun _ => ?_))
   | exact ih0 _ _ _
   | exact ih1 _ _ _
   | exact LeO.none _
   | refine LeO.ite ?_ ?_
   | refine LeO.bind ?_ (fun _ => ?_)
theorem cohousingref29_Parts.mono : ∀ a0 a1 k, LeO (cohousingref29_Parts.f k a0 a1) (cohousingref29_Parts.f (k + 1) a0 a1) := by
 intro a0 a1 k
 obtain ⟨ih0, ih1⟩ := cohousingref29_Parts.mono_l k
 unfold cohousingref29_Parts.f
 repeat' first
   | (with_reducible exact ih0 _ _ _)
   | (with_reducible exact ih1 _ _ _)
   | (with_reducible exact LeO.refl _)
   | (with_reducible exact LeO.none _)
   | (with_reducible refine LeO.ite ?_ ?_)
   | (with_reducible refine LeO.bind ?_ (fun _ => ?_))
   | exact ih0 _ _ _
   | exact ih1 _ _ _
   | exact LeO.none _
   | refine LeO.ite ?_ ?_
   | refine LeO.bind ?_ (fun _ => ?_)
end
section
mutual
def cohousingref29_Bounds.j0 : Nat → Int → Int → List (S38) → Bool → Option ((List (S38)) × Int)
 | 0, _, _, _, _ => none
 | k + 1, x0, x1, x2, x22 => if x22 = true then (some (([] : List (S38)), 1)) else (cohousingref29_Bounds.l0 k x0 x1 x2 ([] : List (S38)) 0)
def cohousingref29_Bounds.l0 : Nat → Int → Int → List (S38) → List (S38) → Int → Option ((List (S38)) × Int)
 | 0, _, _, _, _, _ => none
 | k + 1, x0, x1, x2, x10, x11 => if x11 < (x2.length : Int) then (if 0 ≤ x11 then ((cohousingref29_Right.f k x0 x1 ((rd_T38 x2 x11).f0)).bind fun t224 => ((cohousingref29_Right.f k x0 x1 ((rd_T38 x2 x11).f1)).bind fun t226 => (if x10.length < 8796093022208 then (cohousingref29_Bounds.l0 k x0 x1 x2 (x10 ++ [(⟨t224, t226⟩ : S38)]) (wrap64 (x11 + 1))) else (none)))) else (none)) else (some (x10, 0))
end
def cohousingref29_Bounds.f (k : Nat) (a0 : Int) (a1 : Int) (l2 : List (S38)) : Option ((List (S38)) × Int) := (cohousingref29_cost.f a0).bind fun t221 => ((cohousingref29_Parts.f k a1 l2).bind fun t222 => (if t221 = true then (cohousingref29_Bounds.j0 k a0 a1 l2 (!t222)) else (cohousingref29_Bounds.j0 k a0 a1 l2 true)))
theorem cohousingref29_Bounds.mono_l : ∀ k, (∀ y0 y1 y2 y3, LeO (cohousingref29_Bounds.j0 k y0 y1 y2 y3) (cohousingref29_Bounds.j0 (k + 1) y0 y1 y2 y3)) ∧ (∀ y0 y1 y2 y3 y4, LeO (cohousingref29_Bounds.l0 k y0 y1 y2 y3 y4) (cohousingref29_Bounds.l0 (k + 1) y0 y1 y2 y3 y4))
 | 0 => ⟨fun _ _ _ _ r h => by simp [cohousingref29_Bounds.j0] at h, fun _ _ _ _ _ r h => by simp [cohousingref29_Bounds.l0] at h⟩
 | k + 1 => by
  obtain ⟨ih0, ih1⟩ := cohousingref29_Bounds.mono_l k
  refine ⟨?_, ?_⟩
  ·intro y0 y1 y2 y3
   unfold cohousingref29_Bounds.j0
   repeat' first
   | (with_reducible exact ih0 _ _ _ _)
   | (with_reducible exact ih1 _ _ _ _ _)
   | (with_reducible exact cohousingref29_Parts.mono _ _ _)
   | (with_reducible exact cohousingref29_Right.mono _ _ _ _)
   | (with_reducible exact LeO.refl _)
   | (with_reducible exact LeO.none _)
   | (with_reducible refine LeO.ite ?_ ?_)
   | (with_reducible refine LeO.bind ?_ (fun _ => ?_))
   | exact ih0 _ _ _ _
   | exact ih1 _ _ _ _ _
   | exact cohousingref29_Parts.mono _ _ _
   | exact cohousingref29_Right.mono _ _ _ _
   | exact LeO.none _
   | refine LeO.ite ?_ ?_
   | refine LeO.bind ?_ (fun _ => ?_)
  ·intro y0 y1 y2 y3 y4
   unfold cohousingref29_Bounds.l0
   repeat' first
   | (with_reducible exact ih0 _ _ _ _)
   | (with_reducible exact ih1 _ _ _ _ _)
   | (with_reducible exact cohousingref29_Parts.mono _ _ _)
   | (with_reducible exact cohousingref29_Right.mono _ _ _ _)
   | (with_reducible exact LeO.refl _)
   | (with_reducible exact LeO.none _)
   | (with_reducible refine LeO.ite ?_ ?_)
   | (with_reducible refine LeO.bind ?_ (fun _ => ?_))
   | exact ih0 _ _ _ _
   | exact ih1 _ _ _ _ _
   | exact cohousingref29_Parts.mono _ _ _
   | exact cohousingref29_Right.mono _ _ _ _
   | exact LeO.none _
   | refine LeO.ite ?_ ?_
   | refine LeO.bind ?_ (fun _ => ?_)
theorem cohousingref29_Bounds.mono : ∀ a0 a1 a2 k, LeO (cohousingref29_Bounds.f k a0 a1 a2) (cohousingref29_Bounds.f (k + 1) a0 a1 a2) := by
 intro a0 a1 a2 k
 obtain ⟨ih0, ih1⟩ := cohousingref29_Bounds.mono_l k
 unfold cohousingref29_Bounds.f
 repeat' first
   | (with_reducible exact ih0 _ _ _ _)
   | (with_reducible exact ih1 _ _ _ _ _)
   | (with_reducible exact cohousingref29_Parts.mono _ _ _)
   | (with_reducible exact cohousingref29_Right.mono _ _ _ _)
   | (with_reducible exact LeO.refl _)
   | (with_reducible exact LeO.none _)
   | (with_reducible refine LeO.ite ?_ ?_)
   | (with_reducible refine LeO.bind ?_ (fun _ => ?_))
   | exact ih0 _ _ _ _
   | exact ih1 _ _ _ _ _
   | exact cohousingref29_Parts.mono _ _ _
   | exact cohousingref29_Right.mono _ _ _ _
   | exact LeO.none _
   | refine LeO.ite ?_ ?_
   | refine LeO.bind ?_ (fun _ => ?_)
end
section
mutual
def cohousingref29_Share.l0 : Nat → Int → Int → List Int → List (S38) → List (S38) → Int → Int → List (S43) → Int → Option ((List (S43)) × Int × Int)
 | 0, _, _, _, _, _, _, _, _, _ => none
 | k + 1, x0, x1, x2, x3, x11, x14, x15, x16, x17 => if x17 < (x3.length : Int) then (if 0 ≤ x17 then (if x17 < (x11.length : Int) then (if x17 < (x2.length : Int) then (if x16.length < 3518437208883 then (cohousingref29_Share.l0 k x0 x1 x2 x3 x11 (wrap64 (x14 + ((rd_T38 x3 x17).f0))) (wrap64 (x15 + (wrap64 (Int.tdiv (wrap64 (((rd_T38 x11 x17).f0) + ((rd_T38 x11 x17).f1))) 2)))) (x16 ++ [(⟨rd x2 x17, wrap64 (Int.tdiv (wrap64 (((rd_T38 x11 x17).f0) + ((rd_T38 x11 x17).f1))) 2), (⟨(rd_T38 x11 x17).f0, (rd_T38 x11 x17).f1⟩ : S38), (((rd_T38 x11 x17).f0) == ((rd_T38 x11 x17).f1))⟩ : S43)]) (wrap64 (x17 + 1))) else (none)) else (none)) else (none)) else (none)) else (if x14 > x1 then (some (([] : List (S43)), 0, 30)) else (cohousingref29_Share.l1 k x0 x15 x16 (wrap64 ((x16.length : Int) - 1))))
def cohousingref29_Share.l1 : Nat → Int → Int → List (S43) → Int → Option ((List (S43)) × Int × Int)
 | 0, _, _, _, _ => none
 | k + 1, x0, x15, x16, x20 => if x20 ≥ 0 then (if 0 ≤ x20 then (if x20 < (x16.length : Int) then (if (mn (wrap64 (x15 - x0)) (wrap64 (((rd_T43 x16 x20).f1) - ((rd_T43 x16 x20).f2.f0)))) > 0 then (cohousingref29_Share.l1 k x0 (wrap64 (x15 - (mn (wrap64 (x15 - x0)) (wrap64 (((rd_T43 x16 x20).f1) - ((rd_T43 x16 x20).f2.f0)))))) (x16.set (x20 : Int).toNat (⟨(rd_T43 x16 x20).f0, wrap64 (((rd_T43 x16 x20).f1) - (mn (wrap64 (x15 - x0)) (wrap64 (((rd_T43 x16 x20).f1) - ((rd_T43 x16 x20).f2.f0))))), (⟨(rd_T43 x16 x20).f2.f0, (rd_T43 x16 x20).f2.f1⟩ : S38), (rd_T43 x16 x20).f3⟩ : S43)) (wrap64 (x20 - 1))) else (cohousingref29_Share.l1 k x0 x15 x16 (wrap64 (x20 - 1)))) else (none)) else (none)) else (some (x16, wrap64 (x0 - x15), 0))
end
def cohousingref29_Share.f (k : Nat) (a0 : Int) (a1 : Int) (l2 : List Int) (l3 : List (S38)) : Option ((List (S43)) × Int × Int) := (cohousingref29_Bounds.f k a0 a1 l3).bind fun bt236 => (if bt236.2 = 0 then ((cohousingref29_Homes.f k l2 (l3.length : Int)).bind fun t240 => (if t240 = true then (cohousingref29_Share.l0 k a0 a1 l2 l3 bt236.1 0 0 ([] : List (S43)) 0) else (some (([] : List (S43)), 0, 1)))) else (some (([] : List (S43)), 0, bt236.2)))
theorem cohousingref29_Share.mono_l : ∀ k, (∀ y0 y1 y2 y3 y4 y5 y6 y7 y8, LeO (cohousingref29_Share.l0 k y0 y1 y2 y3 y4 y5 y6 y7 y8) (cohousingref29_Share.l0 (k + 1) y0 y1 y2 y3 y4 y5 y6 y7 y8)) ∧ (∀ y0 y1 y2 y3, LeO (cohousingref29_Share.l1 k y0 y1 y2 y3) (cohousingref29_Share.l1 (k + 1) y0 y1 y2 y3))
 | 0 => ⟨fun _ _ _ _ _ _ _ _ _ r h => by simp [cohousingref29_Share.l0] at h, fun _ _ _ _ r h => by simp [cohousingref29_Share.l1] at h⟩
 | k + 1 => by
  obtain ⟨ih0, ih1⟩ := cohousingref29_Share.mono_l k
  refine ⟨?_, ?_⟩
  ·intro y0 y1 y2 y3 y4 y5 y6 y7 y8
   unfold cohousingref29_Share.l0
   repeat' first
   | (with_reducible exact ih0 _ _ _ _ _ _ _ _ _)
   | (with_reducible exact ih1 _ _ _ _)
   | (with_reducible exact cohousingref29_Bounds.mono _ _ _ _)
   | (with_reducible exact cohousingref29_Homes.mono _ _ _)
   | (with_reducible exact LeO.refl _)
   | (with_reducible exact LeO.none _)
   | (with_reducible refine LeO.ite ?_ ?_)
   | (with_reducible refine LeO.bind ?_ (fun _ => ?_))
   | exact ih0 _ _ _ _ _ _ _ _ _
   | exact ih1 _ _ _ _
   | exact cohousingref29_Bounds.mono _ _ _ _
   | exact cohousingref29_Homes.mono _ _ _
   | exact LeO.none _
   | refine LeO.ite ?_ ?_
   | refine LeO.bind ?_ (fun _ => ?_)
  ·intro y0 y1 y2 y3
   unfold cohousingref29_Share.l1
   repeat' first
   | (with_reducible exact ih0 _ _ _ _ _ _ _ _ _)
   | (with_reducible exact ih1 _ _ _ _)
   | (with_reducible exact cohousingref29_Bounds.mono _ _ _ _)
   | (with_reducible exact cohousingref29_Homes.mono _ _ _)
   | (with_reducible exact LeO.refl _)
   | (with_reducible exact LeO.none _)
   | (with_reducible refine LeO.ite ?_ ?_)
   | (with_reducible refine LeO.bind ?_ (fun _ => ?_))
   | exact ih0 _ _ _ _ _ _ _ _ _
   | exact ih1 _ _ _ _
   | exact cohousingref29_Bounds.mono _ _ _ _
   | exact cohousingref29_Homes.mono _ _ _
   | exact LeO.none _
   | refine LeO.ite ?_ ?_
   | refine LeO.bind ?_ (fun _ => ?_)
theorem cohousingref29_Share.mono : ∀ a0 a1 a2 a3 k, LeO (cohousingref29_Share.f k a0 a1 a2 a3) (cohousingref29_Share.f (k + 1) a0 a1 a2 a3) := by
 intro a0 a1 a2 a3 k
 obtain ⟨ih0, ih1⟩ := cohousingref29_Share.mono_l k
 unfold cohousingref29_Share.f
 repeat' first
   | (with_reducible exact ih0 _ _ _ _ _ _ _ _ _)
   | (with_reducible exact ih1 _ _ _ _)
   | (with_reducible exact cohousingref29_Bounds.mono _ _ _ _)
   | (with_reducible exact cohousingref29_Homes.mono _ _ _)
   | (with_reducible exact LeO.refl _)
   | (with_reducible exact LeO.none _)
   | (with_reducible refine LeO.ite ?_ ?_)
   | (with_reducible refine LeO.bind ?_ (fun _ => ?_))
   | exact ih0 _ _ _ _ _ _ _ _ _
   | exact ih1 _ _ _ _
   | exact cohousingref29_Bounds.mono _ _ _ _
   | exact cohousingref29_Homes.mono _ _ _
   | exact LeO.none _
   | refine LeO.ite ?_ ?_
   | refine LeO.bind ?_ (fun _ => ?_)
end
section
mutual
def cohousingref29_Network.j0 : Nat → Int → List Int → List (S38) → List Int → Int → Bool → Option ((List (S43)) × Int × Int)
 | 0, _, _, _, _, _, _ => none
 | k + 1, x0, x3, x11, x13, x14, x50 => if x50 = true then (some (([] : List (S43)), 0, 1)) else (if 0 ≤ x14 then (if x14 < (x11.length : Int) then (if ((rd_T38 x11 x14).f0) = ((rd_T38 x11 x14).f1) then (cohousingref29_Network.j1 k x0 x3 x11 x13 x14 (((rd_T38 x11 x14).f0) == 0)) else (cohousingref29_Network.j1 k x0 x3 x11 x13 x14 true)) else (none)) else (none))
def cohousingref29_Network.j1 : Nat → Int → List Int → List (S38) → List Int → Int → Bool → Option ((List (S43)) × Int × Int)
 | 0, _, _, _, _, _, _ => none
 | k + 1, x0, x3, x11, x13, x14, x69 => if x69 = true then (some (([] : List (S43)), 0, 3)) else (cohousingref29_Network.l0 k x0 x3 x11 x13 x14 ([] : List (S38)) 0)
def cohousingref29_Network.l0 : Nat → Int → List Int → List (S38) → List Int → Int → List (S38) → Int → Option ((List (S43)) × Int × Int)
 | 0, _, _, _, _, _, _, _ => none
 | k + 1, x0, x3, x11, x13, x14, x17, x18 => if x18 < (x13.length : Int) then (if 0 ≤ x18 then (if 0 ≤ (rd x13 x18) then (if (rd x13 x18) < (x11.length : Int) then (if x17.length < 8796093022208 then (cohousingref29_Network.l0 k x0 x3 x11 x13 x14 (x17 ++ [(⟨(rd_T38 x11 (rd x13 x18)).f0, (rd_T38 x11 (rd x13 x18)).f1⟩ : S38)]) (wrap64 (x18 + 1))) else (none)) else (none)) else (none)) else (none)) else (if 0 ≤ x14 then (if x14 < (x11.length : Int) then ((cohousingref29_Share.f k x0 ((rd_T38 x11 x14).f0) x3 x17).bind fun bt366 => (some (bt366.1, bt366.2.1, bt366.2.2))) else (none)) else (none))
end
def cohousingref29_Network.f (k : Nat) (a0 : Int) (l1 : List (S63)) (l2 : List (S38)) (l3 : List Int) : Option ((List (S43)) × Int × Int) := (cohousingref28_Bounds.f k l1 l2).bind fun bt347 => (if bt347.2 = 0 then ((cohousingref29_Leaves.f k l1).bind fun t351 => ((cohousingref29_Root.f k l1).bind fun t354 => ((cohousingref29_cost.f a0).bind fun t355 => ((cohousingref29_Homes.f k l3 (t351.length : Int)).bind fun t356 => (if t355 = true then (if t356 = true then (cohousingref29_Network.j0 k a0 l3 bt347.1 t351 t354 (decide (t354 < 0))) else (cohousingref29_Network.j0 k a0 l3 bt347.1 t351 t354 true)) else (cohousingref29_Network.j0 k a0 l3 bt347.1 t351 t354 true)))))) else (some (([] : List (S43)), 0, bt347.2)))
theorem cohousingref29_Network.mono_l : ∀ k, (∀ y0 y1 y2 y3 y4 y5, LeO (cohousingref29_Network.j0 k y0 y1 y2 y3 y4 y5) (cohousingref29_Network.j0 (k + 1) y0 y1 y2 y3 y4 y5)) ∧ (∀ y0 y1 y2 y3 y4 y5, LeO (cohousingref29_Network.j1 k y0 y1 y2 y3 y4 y5) (cohousingref29_Network.j1 (k + 1) y0 y1 y2 y3 y4 y5)) ∧ (∀ y0 y1 y2 y3 y4 y5 y6, LeO (cohousingref29_Network.l0 k y0 y1 y2 y3 y4 y5 y6) (cohousingref29_Network.l0 (k + 1) y0 y1 y2 y3 y4 y5 y6))
 | 0 => ⟨fun _ _ _ _ _ _ r h => by simp [cohousingref29_Network.j0] at h, fun _ _ _ _ _ _ r h => by simp [cohousingref29_Network.j1] at h, fun _ _ _ _ _ _ _ r h => by simp [cohousingref29_Network.l0] at h⟩
 | k + 1 => by
  obtain ⟨ih0, ih1, ih2⟩ := cohousingref29_Network.mono_l k
  refine ⟨?_, ?_, ?_⟩
  ·intro y0 y1 y2 y3 y4 y5
   unfold cohousingref29_Network.j0
   repeat' first
   | (with_reducible exact ih0 _ _ _ _ _ _)
   | (with_reducible exact ih1 _ _ _ _ _ _)
   | (with_reducible exact ih2 _ _ _ _ _ _ _)
   | (with_reducible exact cohousingref28_Bounds.mono _ _ _)
   | (with_reducible exact cohousingref29_Homes.mono _ _ _)
   | (with_reducible exact cohousingref29_Leaves.mono _ _)
   | (with_reducible exact cohousingref29_Root.mono _ _)
   | (with_reducible exact cohousingref29_Share.mono _ _ _ _ _)
   | (with_reducible exact LeO.refl _)
   | (with_reducible exact LeO.none _)
   | (with_reducible refine LeO.ite ?_ ?_)
   | (with_reducible refine LeO.bind ?_ (fun _ => ?_))
   | exact ih0 _ _ _ _ _ _
   | exact ih1 _ _ _ _ _ _
   | exact ih2 _ _ _ _ _ _ _
   | exact cohousingref28_Bounds.mono _ _ _
   | exact cohousingref29_Homes.mono _ _ _
   | exact cohousingref29_Leaves.mono _ _
   | exact cohousingref29_Root.mono _ _
   | exact cohousingref29_Share.mono _ _ _ _ _
   | exact LeO.none _
   | refine LeO.ite ?_ ?_
   | refine LeO.bind ?_ (fun _ => ?_)
  ·intro y0 y1 y2 y3 y4 y5
   unfold cohousingref29_Network.j1
   repeat' first
   | (with_reducible exact ih0 _ _ _ _ _ _)
   | (with_reducible exact ih1 _ _ _ _ _ _)
   | (with_reducible exact ih2 _ _ _ _ _ _ _)
   | (with_reducible exact cohousingref28_Bounds.mono _ _ _)
   | (with_reducible exact cohousingref29_Homes.mono _ _ _)
   | (with_reducible exact cohousingref29_Leaves.mono _ _)
   | (with_reducible exact cohousingref29_Root.mono _ _)
   | (with_reducible exact cohousingref29_Share.mono _ _ _ _ _)
   | (with_reducible exact LeO.refl _)
   | (with_reducible exact LeO.none _)
   | (with_reducible refine LeO.ite ?_ ?_)
   | (with_reducible refine LeO.bind ?_ (fun _ => ?_))
   | exact ih0 _ _ _ _ _ _
   | exact ih1 _ _ _ _ _ _
   | exact ih2 _ _ _ _ _ _ _
   | exact cohousingref28_Bounds.mono _ _ _
   | exact cohousingref29_Homes.mono _ _ _
   | exact cohousingref29_Leaves.mono _ _
   | exact cohousingref29_Root.mono _ _
   | exact cohousingref29_Share.mono _ _ _ _ _
   | exact LeO.none _
   | refine LeO.ite ?_ ?_
   | refine LeO.bind ?_ (fun _ => ?_)
  ·intro y0 y1 y2 y3 y4 y5 y6
   unfold cohousingref29_Network.l0
   repeat' first
   | (with_reducible exact ih0 _ _ _ _ _ _)
   | (with_reducible exact ih1 _ _ _ _ _ _)
   | (with_reducible exact ih2 _ _ _ _ _ _ _)
   | (with_reducible exact cohousingref28_Bounds.mono _ _ _)
   | (with_reducible exact cohousingref29_Homes.mono _ _ _)
   | (with_reducible exact cohousingref29_Leaves.mono _ _)
   | (with_reducible exact cohousingref29_Root.mono _ _)
   | (with_reducible exact cohousingref29_Share.mono _ _ _ _ _)
   | (with_reducible exact LeO.refl _)
   | (with_reducible exact LeO.none _)
   | (with_reducible refine LeO.ite ?_ ?_)
   | (with_reducible refine LeO.bind ?_ (fun _ => ?_))
   | exact ih0 _ _ _ _ _ _
   | exact ih1 _ _ _ _ _ _
   | exact ih2 _ _ _ _ _ _ _
   | exact cohousingref28_Bounds.mono _ _ _
   | exact cohousingref29_Homes.mono _ _ _
   | exact cohousingref29_Leaves.mono _ _
   | exact cohousingref29_Root.mono _ _
   | exact cohousingref29_Share.mono _ _ _ _ _
   | exact LeO.none _
   | refine LeO.ite ?_ ?_
   | refine LeO.bind ?_ (fun _ => ?_)
theorem cohousingref29_Network.mono : ∀ a0 a1 a2 a3 k, LeO (cohousingref29_Network.f k a0 a1 a2 a3) (cohousingref29_Network.f (k + 1) a0 a1 a2 a3) := by
 intro a0 a1 a2 a3 k
 obtain ⟨ih0, ih1, ih2⟩ := cohousingref29_Network.mono_l k
 unfold cohousingref29_Network.f
 repeat' first
   | (with_reducible exact ih0 _ _ _ _ _ _)
   | (with_reducible exact ih1 _ _ _ _ _ _)
   | (with_reducible exact ih2 _ _ _ _ _ _ _)
   | (with_reducible exact cohousingref28_Bounds.mono _ _ _)
   | (with_reducible exact cohousingref29_Homes.mono _ _ _)
   | (with_reducible exact cohousingref29_Leaves.mono _ _)
   | (with_reducible exact cohousingref29_Root.mono _ _)
   | (with_reducible exact cohousingref29_Share.mono _ _ _ _ _)
   | (with_reducible exact LeO.refl _)
   | (with_reducible exact LeO.none _)
   | (with_reducible refine LeO.ite ?_ ?_)
   | (with_reducible refine LeO.bind ?_ (fun _ => ?_))
   | exact ih0 _ _ _ _ _ _
   | exact ih1 _ _ _ _ _ _
   | exact ih2 _ _ _ _ _ _ _
   | exact cohousingref28_Bounds.mono _ _ _
   | exact cohousingref29_Homes.mono _ _ _
   | exact cohousingref29_Leaves.mono _ _
   | exact cohousingref29_Root.mono _ _
   | exact cohousingref29_Share.mono _ _ _ _ _
   | exact LeO.none _
   | refine LeO.ite ?_ ?_
   | refine LeO.bind ?_ (fun _ => ?_)
end
end Go.Proofs.Ytbgchacafglcpaa.P
end
