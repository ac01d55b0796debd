/- Part 2 of the base that the seat's proofs share: words, walks and plain laws. -/
import Derived.ArgAppend
import Derived.Below
import Derived.BigQuiet
import Derived.ChangeOld
import Derived.ChangeSlices
import Derived.Deep.AppendLies
import Derived.Deep.CutBlock
import Derived.Deep.DeepCutAuto
import Derived.Deep.Draws
import Derived.Deep.LoopGhost
import Derived.Deep.OwnRows
import Derived.Deep.QuietTactic
import Derived.Deep.RegionHeld3
import Derived.Deep.Slices
import Derived.KernelRfl
import Derived.Laws.BitsLemmas
import Derived.Laws.BytesArg
import Derived.Laws.IdiomCopy
import Derived.Laws.MakeOwn
import Derived.Laws.OwnMore
import Derived.Laws.Rows
import Derived.Laws.Slices
import Derived.Laws.StructEq
import Derived.Lib.AppendStr
import Derived.Lib.ConvBytes
import Derived.LoopIn
import Derived.LoopNIn
import Derived.Maps.AppendAt
import Derived.Maps.Own
import Derived.OpenShut
import Derived.OrdersHeld
import Derived.OwnWalk
import Derived.OwnWalkIn
import Derived.ProofKit
import Derived.RangeFuncBound
import Derived.RangeFuncCalls
import Derived.RangeFuncLeaves
import Derived.RangeFuncNested
import Derived.RowKit
import Derived.RowKit3
import Derived.ShutString
import Derived.SizedLaws
import Derived.Tactics
import Derived.TacticsInMore
import Derived.Test.YtmojlpafpeeelaaProg
import Derived.WalkKit
import Derived.WideLaws
import Derived.Test.YtmojlpafpeeelaaCBa
set_option linter.unusedVariables false
set_option linter.unusedSimpArgs false
section
namespace Go.Proofs.Ytmojlpafpeeelaa.P
open Go.RowKit Go.Proofs.YtmojlpafpeeelaaW.PrintWords Go.Proofs.YtmojlpafpeeelaaW.PrintLast Go.Proofs.YtmojlpafpeeelaaW.PrintMore
attribute [local go_sem] max2_int min2_int max_two min_two max_three min_three max_four min_four
set_option linter.unusedVariables false
set_option linter.unusedSimpArgs false
open Go.Proofs.YtmojlpafpeeelaaH
def belowI (kids : List (List Int)) (r : List S59) (i : Int) : List S59 := (rdK kids i).map (fun k => rd_T59 r k)
def cutI (x : S59) (lo hi : Int) : S59 := ⟨mx x.f0 lo, mn x.f1 hi⟩
def upStep (l : List S44) (kids : List (List Int)) (r : List S59) (i : Int) : List S59 :=
 if 0 < (belowI kids r i).length then r.set i.toNat (cutI (rd_T59 r i) (totalF S59.f0 (belowI kids r i)) (wrap64 (totalF S59.f1 (belowI kids r i) + (rd_T44 l i).f2))) else r
def KidsOk (kids : List (List Int)) (n : Nat) : Prop := kids.length = n ∧ ∀ i, (rdK kids i).length ≤ n ∧ ∀ j ∈ rdK kids i, 0 ≤ j ∧ j < n
def downTo (n k : Nat) : List Nat := (List.range k).map (fun j => n - 1 - j)
theorem downTo_succ (n k : Nat) : downTo n (k + 1) = downTo n k ++ [n - 1 - k] := by simp [downTo, List.range_succ]
theorem downTo_length (n k : Nat) : (downTo n k).length = k := by simp [downTo]
abbrev Ix (l : List S44) := { j : Nat // j < l.length }
def encIx (l : List S44) (x : Ix l) : Array Value := #[.int .i64 (x.1 : Int), .agg #[.int .i64 (rd_T44 l x.1).f0, .int .i64 (rd_T44 l x.1).f1, .int .i64 (rd_T44 l x.1).f2]]
theorem backward_calls (A0 : Option Addr) (n c : Nat) (w : World) :
  Calls Try.prog 49 #[.slice A0 n c] w fun e w' => e = .returned (.func (.func 53) #[] #[.pointer (some ⟨w.heap.size, 0, none⟩)]) ∧ w' = w.alloc (.cells #[.slice A0 n c] 22) := by
 go_enter Try.func49, Try.ntmps49
 go_wp2
 go_ret
 exact ⟨rfl, rfl⟩
theorem below_l0 (r : List S59) (ks : List Int) (hks : ∀ j ∈ ks, 0 ≤ j ∧ j < (r.length : Int)) (hlen : ks.length ≤ 8796093022207) : ∀ (d : Nat) (k : Nat) (acc : List S59) (x : Int), 0 ≤ x → x + d = ks.length → d < k → acc.length = x.toNat →
  flow_network_below.l0 k r acc ks (ks.length : Int) x = some (acc ++ (ks.drop x.toNat).map (fun j => rd_T59 r j)) := by
 intro d
 induction d with
 | zero =>
  intro k acc x h0 hd hk ha
  obtain ⟨k, rfl⟩ : ∃ m, k = m + 1 := ⟨k - 1, by omega⟩
  simp only [flow_network_below.l0]
  rw [if_neg (by omega), List.drop_of_length_le (by omega)]
  simp
 | succ d ih =>
  intro k acc x h0 hd hk ha
  obtain ⟨k, rfl⟩ : ∃ m, k = m + 1 := ⟨k - 1, by omega⟩
  have hx : x.toNat < ks.length := by omega
  have hrd : rd ks x = ks[x.toNat] := by simp [rd, List.getD_eq_getElem?_getD, hx]
  have hm := hks _ (List.getElem_mem hx)
  simp only [flow_network_below.l0]
  rw [if_pos (by omega), if_pos h0, if_pos (by omega), hrd, if_pos hm.1, if_pos hm.2, if_pos (by omega)]
  have hw : wrap64 (x + 1) = x + 1 := by unfold wrap64; omega
  rw [hw, ih k _ (x + 1) (by omega) (by omega) (by omega) (by simp; omega)]
  have e : (x + 1).toNat = x.toNat + 1 := by omega
  rw [e, List.drop_eq_getElem_cons hx, List.map_cons, List.append_assoc]
  rfl
theorem below_f (l : List S44) (kids : List (List Int)) (r : List S59) (i : Int) (h0 : 0 ≤ i) (h1 : i < kids.length) (hr : r.length = kids.length) (hk : KidsOk kids kids.length) (hn : kids.length ≤ 5864062014805) :
  flow_network_below.f (kids.length + 1) l kids r i = some (belowI kids r i) := by
 unfold flow_network_below.f
 rw [if_pos h0, if_pos h1]
 have h2 := hk.2 i
 have := below_l0 r (rdK kids i) (by rw [hr]; exact h2.2) (by omega) (rdK kids i).length (kids.length + 1) [] 0 (by omega) (by omega) (by omega) rfl
 exact this
theorem below_calls (A0 : Option Addr) (n0 c0 : Nat) (l : List S44) (A2 : Option Addr) (n2 c2 : Nat) (kids : List (List Int)) (A1 : Option Addr) (n1 c1 : Nat) (r : List S59) (i : Int) (w : World)
  (e0 : n0 = l.length) (e2 : n2 = kids.length) (e1 : n1 = r.length) (hr0 : Kd.C k44 w A0 l.length l) (hc0 : l.length ≤ c0) (hr2 : Kd.C (Kd.slice 3 (Kd.int .i64)) w A2 kids.length kids) (hc2 : kids.length ≤ c2) (hr1 : Kd.C k59 w A1 r.length r) (hc1 : r.length ≤ c1)
  (h0 : 0 ≤ i) (h1 : i < kids.length) (hr : r.length = kids.length) (hk : KidsOk kids kids.length) (hn : kids.length ≤ 5864062014805) :
  Calls Try.prog 33 #[.agg #[.slice A0 n0 c0, .slice A2 n2 c2], .slice A1 n1 c1, .int .i64 i] w fun e w' => ∃ A c, e = .returned (.slice A (belowI kids r i).length c) ∧ Kd.R k59 59 w' w.heap.size (fun _ => True) (.slice A (belowI kids r i).length c) (belowI kids r i) ∧ Below w.heap.size w w' := by
 subst e0 e1 e2
 refine (flow_network_below.calls _ A0 c0 l A2 c2 kids A1 c1 r i _ w hr0 hc0 hr2 hc2 hr1 hc1 (below_f l kids r i h0 h1 hr hk hn)).mono ?_
 rintro e w' ⟨v, he, hR, hb⟩
 obtain ⟨A, c, rfl⟩ := Kd.R_slice hR
 exact ⟨A, c, he, hR, hb⟩
theorem iv_elem {W : World} {base g n cap : Nat} {xs : List S59} (h : Kd.R k59 59 W base (fun _ => True) (.slice (some ⟨g, 0, none⟩) n cap) xs) (i : Int) (h0 : 0 ≤ i) (h1 : i < n) :
  (W.cell? ⟨g, i.toNat * 2, none⟩ = some (.int .i64 (rd_T59 xs i).f0) ∧ W.cell? ⟨g, i.toNat * 2 + 1, none⟩ = some (.int .i64 (rd_T59 xs i).f1)) ∧ (W.frozen? ⟨g, i.toNat * 2, none⟩ = false ∧ W.frozen? ⟨g, i.toNat * 2 + 1, none⟩ = false) ∧
   ∀ y : S59, Kd.R k59 59 ((W.setCell ⟨g, i.toNat * 2, none⟩ (.int .i64 y.f0)).setCell ⟨g, i.toNat * 2 + 1, none⟩ (.int .i64 y.f1)) base (fun _ => True) (.slice (some ⟨g, 0, none⟩) n cap) (xs.set i.toNat y) ∧
    W.grownBy ((W.setCell ⟨g, i.toNat * 2, none⟩ (.int .i64 y.f0)).setCell ⟨g, i.toNat * 2 + 1, none⟩ (.int .i64 y.f1)) (some g) := by
 obtain ⟨c, hcl, hM, hcc, hfr⟩ := Kd.R_elem h z59 i h0 h1
 obtain rfl := k59_openM hM
 have e : k59.sz = 2 := rfl
 refine ⟨⟨hcc 0 _ rfl, hcc 1 _ rfl⟩, ⟨hfr 0, hfr 1⟩, fun y => ?_⟩
 exact Kd.R_seg h i h0 h1 hcl hcc (seg := [.int .i64 y.f0, .int .i64 y.f1]) (j := 0) (show 0 + 2 ≤ 2 from Nat.le_refl _) (x' := y) (okp := fun _ => False) (k59_mkM _ _ _ y) (fun _ hk => hk.elim)
theorem upStep_len (l : List S44) (kids : List (List Int)) (r : List S59) (i : Int) : (upStep l kids r i).length = r.length := by
 unfold upStep
 split <;> simp
theorem upFold_len (l : List S44) (kids : List (List Int)) (js : List Nat) : ∀ (r : List S59), (js.foldl (fun r (j : Nat) => upStep l kids r j) r).length = r.length := by
 induction js with
 | nil => intro r; rfl
 | cons j js ih => intro r; rw [List.foldl_cons, ih, upStep_len]
attribute [local go_sem] Oper.semAt_some
set_option maxRecDepth 100000 in
set_option maxHeartbeats 4000000 in
theorem back1_in (n : Nat) (hn : 1 ≤ n) (lr Bn n0 : Nat) (A0 : Option Addr) (c0 : Nat) (l : List S44) (hsz : l.length ≤ 5864062014805) (J Jx : List (Ix l) → World → Prop)
  (hY : ∀ pre x W, J pre W → pre.length < l.length → YieldAt Fence.wide (n - 1) Try.prog lr (encIx l x) W fun e W' =>
   (e = .returned (.bool true) ∧ J (pre ++ [x]) W' ∧ KeepIt n0 Bn W W') ∨ (e = .returned (.bool false) ∧ Jx (pre ++ [x]) W'))
  (W : World) (hBn : W.heap[Bn]? = some (.cells #[.slice A0 l.length c0] 22 (0, 0))) (hC : ∀ W', Below n0 W W' → Kd.C k44 W' A0 l.length l) (h0 : J [] W) :
  CallsIn Fence.wide n Try.prog 53 #[.func (.yield lr) #[] #[], .pointer (some ⟨Bn, 0, none⟩)] W fun e W' => (∃ v, e = .returned v) ∧
   ((∃ xs : List (Ix l), xs.map (·.1) = downTo l.length l.length ∧ J xs W') ∨ (∃ pre, True ∧ Jx pre W')) := by
 refine callsIn_of_wp Try.func53 rfl trivial ?_ rfl
 simp only [Try.ntmps53, List.size_toArray, List.length_cons, List.length_nil, Nat.reduceAdd, Nat.reduceSub, Array.replicate_succ, Array.replicate_zero, List.push_toArray, List.append_toArray, List.nil_append, List.cons_append]
 have hc0 : W.cell? ⟨Bn, 0, none⟩ = some (.slice A0 l.length c0) := (blk_cell hBn 0).trans rfl
 have HSZ := Aside0.mk hsz
 have HC := Aside0.mk hC
 have HY := Aside0.mk hY
 have HBN := Aside0.mk hBn
 have H0 := Aside0.mk h0
 clear hsz hC hY hBn h0
 have hq1 : (l.length : Int) - 1 ≤ 9223372036854775807 := by have := HSZ.out; omega
 have hq2 : -9223372036854775808 ≤ (l.length : Int) - 1 := by omega
 gi_wp2
 gi_loopw [3] (fun i wr => ∃ (k : Nat) (pre : List (Ix l)), k ≤ l.length ∧ i = .int .i64 ((l.length : Int) - 1 - k) ∧ Aside0 (pre.map (·.1) = downTo l.length k) ∧ Aside0 (J pre wr) ∧ Aside0 (KeepIt n0 Bn W wr))
  (fun i _ => (intOf i + 1).toNat)
 case atStart => exact ⟨0, [], Nat.zero_le _, by simp, ⟨by simp [downTo]⟩, H0, ⟨⟨Below.refl _ _, rfl⟩⟩⟩
 case round =>
  clear hc0 H0
  obtain ⟨k, pre, hk, rfl, HP, HJ, HK⟩ := hrel
  have hc0 : wr.cell? ⟨Bn, 0, none⟩ = some (.slice A0 l.length c0) := (blk_cell (HK.out.2.trans HBN.out) 0).trans rfl
  by_cases hlt : k < l.length
  ·obtain ⟨i, hi⟩ : ∃ i : Int, i = (l.length : Int) - 1 - k := ⟨_, rfl⟩
   rw [← hi]
   have hi0 : 0 ≤ i := by omega
   have hi1 : i < l.length := by omega
   obtain ⟨xi, hti⟩ : ∃ xi : Ix l, (xi.1 : Int) = i := ⟨⟨i.toNat, by omega⟩, by show ((i.toNat : Nat) : Int) = i; omega⟩
   obtain ⟨fn, tmps, assign, body, hy, hR⟩ := HY.out pre xi wr HJ.out (by have := congrArg List.length HP.out; rw [List.length_map, downTo_length] at this; omega)
   simp only [encIx, hti] at hy
   have HTI := Aside0.mk hti
   obtain ⟨ad, e, hx0, hx1, hx2⟩ := at_T44 (HC.out wr HK.out.1) i hi0 hi1
   have HI := Aside0.mk hi
   have HR := Aside0.mk hR
   have HL := Aside0.mk (And.intro hi0 (And.intro hi1 hlt))
   have c1 : decide (0 ≤ i) = true := decide_eq_true hi0
   have c2 : (0 ≤ i) = True := eq_true hi0
   have c3 : (i < l.length) = True := eq_true hi1
   have hb1 : i - 1 ≤ 9223372036854775807 := by have := HSZ.out; omega
   have hb2 : -9223372036854775808 ≤ i - 1 := by omega
   clear hi hR hi0 hi1 hlt hti hk
   subst e
   gi_wp2
   refine HR.out.mono ?_
   rintro e W3 (⟨rfl, hJ3, hk3⟩ | ⟨rfl, hJx3⟩)
   ·have HJ3 := Aside0.mk hJ3
    have HK3 := Aside0.mk hk3
    clear hJ3 hk3
    gi_wp2
    go_roundw
    case rel =>
     refine ⟨k + 1, _, ?_, ?_, ⟨?_⟩, HJ3, ⟨keepIt_t HK.out HK3.out⟩⟩
     ·have := HL.out; omega
     ·have := HI.out; first | (rw [show i - 1 = (l.length : Int) - 1 - ((k + 1 : Nat) : Int) from by omega]; done) | (simp; omega)
     ·rw [List.map_append, HP.out, downTo_succ]
      have h1 := HTI.out
      have h2 := HI.out
      have h3 := HL.out
      simp only [List.map_cons, List.map_nil]
      congr 2
      omega
    case measure => have := HL.out; simp [intOf]; omega
   ·gi_wp2
    refine bodyPost_ret (results_none rfl _ _ _) rfl ?_
    exact ⟨⟨_, rfl⟩, .inr ⟨_, trivial, hJx3⟩⟩
  ·obtain ⟨i, hi⟩ : ∃ i : Int, i = (l.length : Int) - 1 - k := ⟨_, rfl⟩
   rw [← hi]
   have c1 : decide (0 ≤ i) = false := decide_eq_false (by omega)
   have HKL := Aside0.mk (show k = l.length by omega)
   clear hlt hk hi
   gi_wp2
   go_end0
   exact ⟨⟨_, rfl⟩, .inl ⟨pre, by rw [HP.out, HKL.out], HJ.out⟩⟩
theorem back_stops (n : Nat) (hn : 1 ≤ n) (Bn n0 : Nat) (A0 : Option Addr) (c0 : Nat) (l : List S44) (hsz : l.length ≤ 5864062014805) (w : World) (hBn : w.heap[Bn]? = some (.cells #[.slice A0 l.length c0] 22 (0, 0))) (hC : ∀ W', Below n0 w W' → Kd.C k44 W' A0 l.length l) (hn0 : n0 ≤ w.heap.size) :
  SeqStopsK Fence.wide n Try.prog 53 #[.pointer (some ⟨Bn, 0, none⟩)] (encIx l) (KeepIt n0 Bn) (fun xs => xs.map (·.1) = downTo l.length l.length) (fun _ => True) l.length w := by
 intro lr J Jx W hW _ _ hY h0
 refine back1_in n hn lr Bn n0 A0 c0 l hsz J Jx hY W (blk_below hBn hW) (fun W' h => hC W' ((hW.mono hn0).trans h)) h0
set_option maxRecDepth 100000 in
set_option maxHeartbeats 8000000 in
theorem up_calls (w0 w : World) (A0 : Option Addr) (c0 : Nat) (l : List S44) (A2 : Option Addr) (c2 : Nat) (kids : List (List Int)) (A1 : Option Addr) (c1 : Nat) (xs : List S59)
  (hB : Below w0.heap.size w0 w) (hr0 : Kd.C k44 w0 A0 l.length l) (hc0 : l.length ≤ c0) (hsz : l.length ≤ 5864062014805)
  (hk : Kd.S (Kd.slice 3 (Kd.int .i64)) 24 w w0.heap.size (fun _ => True) (.slice A2 l.length c2) kids) (hkids : KidsOk kids l.length)
  (hr : Kd.R k59 59 w w0.heap.size (fun _ => True) (.slice A1 l.length c1) xs) (hxl : xs.length = l.length) :
  Calls Try.prog 43 #[.agg #[.slice A0 l.length c0, .slice A2 l.length c2], .slice A1 l.length c1] w fun e w' => e = .returned (.tuple #[]) ∧
   Kd.R k59 59 w' w0.heap.size (fun _ => True) (.slice A1 l.length c1) ((downTo l.length l.length).foldl (fun r (j : Nat) => upStep l kids r j) xs) ∧ w.grownBy w' (Value.slice A1 l.length c1).ownBlock := by
 refine (callsIn_wide (n := 5)).1 ?_
 refine callsIn_of_wp_marks Try.func43 rfl trivial ?_ rfl
 simp only [Try.ntmps43, List.size_toArray, List.length_cons, List.length_nil, Nat.reduceAdd, Nat.reduceSub, Array.replicate_succ, Array.replicate_zero, List.push_toArray, List.append_toArray, List.nil_append, List.cons_append]
 have hu52 := Try.underlying52
 obtain ⟨g2, hg2⟩ : ∃ g2, w.heap.size = g2 := ⟨_, rfl⟩
 have HB := Aside0.mk hB
 have HR0 := Aside0.mk hr0
 have HSZ := Aside0.mk hsz
 have HK := Aside0.mk hk
 have HKO := Aside0.mk hkids
 have HR := Aside0.mk hr
 have HXL := Aside0.mk hxl
 clear hB hr0 hsz hk hkids hr hxl
 gi_wp2_with (refine ⟨trivial, ?_⟩; gi_at_call 49; refine (callsIn_wide.2 (backward_calls _ _ _ _)).mono ?_; rintro e w' ⟨rfl, rfl⟩)
 obtain ⟨W3, hW3⟩ : ∃ W3, W3 = ((w.alloc (Obj.cells #[Value.slice A0 l.length c0, Value.slice A2 l.length c2] 52)).alloc (Obj.cells #[Value.slice A1 l.length c1] 56)).alloc (Obj.cells #[Value.slice A0 l.length c0] 22) := ⟨_, rfl⟩
 rw [← hW3]
 have hB3 : Below w.heap.size w W3 := by rw [hW3]; exact (((Below.refl _ w).alloc (Nat.le_refl _) _).alloc (by simp) _).alloc (by simp; omega) _
 have hs3 : W3.heap.size = g2 + 3 := by rw [hW3, ← hg2]; simp
 have b2 : W3.heap[g2]? = some (.cells #[.slice A0 l.length c0, .slice A2 l.length c2] 52 (0, 0)) := by rw [hW3, ← hg2]; exact blk_alloc (blk_alloc (blk_new w _) _) _
 have b3 : W3.heap[g2 + 1]? = some (.cells #[.slice A1 l.length c1] 56 (0, 0)) := by rw [hW3, ← hg2]; have := blk_alloc (blk_new (w.alloc (Obj.cells #[Value.slice A0 l.length c0, Value.slice A2 l.length c2] 52)) (Obj.cells #[Value.slice A1 l.length c1] 56)) (Obj.cells #[Value.slice A0 l.length c0] 22); rwa [World.size_alloc] at this
 have b4 : W3.heap[g2 + 1 + 1]? = some (.cells #[.slice A0 l.length c0] 22 (0, 0)) := by rw [hW3, ← hg2]; have := blk_new ((w.alloc (Obj.cells #[Value.slice A0 l.length c0, Value.slice A2 l.length c2] 52)).alloc (Obj.cells #[Value.slice A1 l.length c1] 56)) (Obj.cells #[Value.slice A0 l.length c0] 22); rwa [World.size_alloc, World.size_alloc] at this
 have HGO := Aside0.mk (show ∀ k, (Value.slice A1 l.length c1).ownBlock = some k → w0.heap.size ≤ k from fun k hk => by obtain ⟨inner, ho⟩ := Kd.R_own HR.out; exact own_base ho k hk)
 have hsw := HB.out.size
 clear hW3
 refine wpIn_rangeFunc_ownG rfl (by omega) (gf := 53) (lb := #[.pointer (some ⟨g2 + 1 + 1, 0, none⟩)]) rfl trivial (enters_fn Try.func53 (by kernel_rfl) rfl)
  (back_stops 4 (by omega) (g2 + 1 + 1) w0.heap.size A0 c0 l HSZ.out W3 b4 (fun W' h => Kd.C_below HR0.out ((HB.out.trans (hB3.mono HB.out.size)).trans h)) (by omega)) keepIt_t (keepIt_b (by omega) (by omega)) (Below.refl _ _) (fun _ => rfl)
  (fun pre W => (W.heap[g2]? = some (.cells #[.slice A0 l.length c0, .slice A2 l.length c2] 52 (0, 0)) ∧ W.heap[g2 + 1]? = some (.cells #[.slice A1 l.length c1] 56 (0, 0)) ∧ W.heap[g2 + 1 + 1]? = some (.cells #[.slice A0 l.length c0] 22 (0, 0)))
   ∧ Kd.R k59 59 W w0.heap.size (fun _ => True) (.slice A1 l.length c1) ((pre.map (·.1)).foldl (fun r (j : Nat) => upStep l kids r j) xs)
   ∧ Kd.S (Kd.slice 3 (Kd.int .i64)) 24 W w0.heap.size (fun _ => True) (.slice A2 l.length c2) kids ∧ w.grownBy W (Value.slice A1 l.length c1).ownBlock)
  (fun _ _ _ => False)
  (fun s A B row hs hg hr => by
   have hr' : ∀ r, row = some r → ∃ o : Obj, A.heap[r]? = some o ∧ o.isCells = false := fun r e => (hr r e).2
   exact ⟨⟨blk_objs hs.1.1 hg hr', blk_objs hs.1.2.1 hg hr', blk_objs hs.1.2.2 hg hr'⟩, R_objs hs.2.1 hg hr', S_objs hs.2.2.1 hg hr', grown_from hs.2.2.2 hg (fun r e => by have := (hr r e).1; omega)⟩)
  (fun _ _ _ _ _ hs _ _ => hs)
  ⟨⟨b2, b3, b4⟩, Kd.R_below HR.out hB3, Kd.S_below HK.out hB3, grown_of_below hB3 _⟩
  (fun x => { tmps := #[.agg #[.slice A0 l.length c0, .slice A2 l.length c2], .slice A1 l.length c1, .pointer (some ⟨g2, 0, none⟩), .pointer (some ⟨g2 + 1, 0, none⟩), .int .i64 (x.1 : Int), undef,
   .pointer (some ⟨g2, 0, none⟩), .slice A0 l.length c0, .func (.func 53) #[] #[.pointer (some ⟨g2 + 1 + 1, 0, none⟩)], .int .i64 (x.1 : Int), .agg #[.int .i64 (rd_T44 l x.1).f0, .int .i64 (rd_T44 l x.1).f1, .int .i64 (rd_T44 l x.1).f2],
   undef, undef, undef, undef, undef, undef, undef, undef, undef, undef, undef, undef, undef, undef, undef, undef, undef, undef, undef, undef, undef, undef, undef, undef, undef, undef], defers := [] }) ?assign ?body ?done ?stop
 case assign =>
  intro lr x W K hK
  simp only [encIx]
  gi_wp2
  exact hK
 case done =>
  rintro D ys W hD hys ⟨hb, hRR, hSS, hG⟩ hDD
  gi_wp2
  refine ⟨by simp, .inl ⟨_, _, rfl, run_takeDeferred hDD, ?_⟩⟩
  have hobj : ∀ r, some D = some r → ∃ o : Obj, W.heap[r]? = some o ∧ o.isCells = false := fun r e => by cases e; exact ⟨_, hDD, rfl⟩
  refine ⟨_, results_none rfl _ _ _, rfl, ?_, grown_from hG (grownBy_putObj' W D (.deferred none)) (fun k e => by cases e; omega)⟩
  rw [hys] at hRR
  exact R_objs hRR (grownBy_putObj' W D (.deferred none)) hobj
 case stop =>
  rintro D c pre W _ _ h _
  exact h.elim
 case body =>
  rintro lr pre x W ⟨⟨hb2, hb3, hb4⟩, hRR, hSS, hG⟩ hlen
  obtain ⟨r, hr⟩ : ∃ r, r = (pre.map (·.1)).foldl (fun r (j : Nat) => upStep l kids r j) xs := ⟨_, rfl⟩
  rw [← hr] at hRR
  have hrl : r.length = l.length := by rw [hr, upFold_len, HXL.out]
  have HRN := Aside0.mk hr
  have hBW := grown_below HB.out hG HGO.out
  have hC0 := Kd.C_below HR0.out hBW
  have hSr := Kd.S_reads' hSS
  have hRr := Kd.R_reads' hRR
  obtain ⟨i, hi⟩ : ∃ i : Int, i = (x.1 : Int) := ⟨_, rfl⟩
  have hi0 : 0 ≤ i := by omega
  have hi1 : i < l.length := by have := x.2; omega
  obtain ⟨bl, hbl⟩ : ∃ bl, bl = belowI kids r i := ⟨_, rfl⟩
  have hc20 : W.cell? ⟨g2, 0, none⟩ = some (.slice A0 l.length c0) := (blk_cell hb2 0).trans rfl
  have hc21 : W.cell? ⟨g2, 1, none⟩ = some (.slice A2 l.length c2) := (blk_cell hb2 1).trans rfl
  have hc30 : W.cell? ⟨g2 + 1, 0, none⟩ = some (.slice A1 l.length c1) := (blk_cell hb3 0).trans rfl
  have HCALL := Aside0.mk (below_calls A0 l.length c0 l A2 l.length c2 kids A1 l.length c1 r i W rfl hSr.1 hrl.symm hC0 hc0 hSr.2.2 (hSr.1 ▸ hSr.2.1) hRr.2.2 (hrl ▸ hRr.2.1) hi0 (hSr.1 ▸ hi1) (hrl.trans hSr.1) (hSr.1 ▸ HKO.out) (hSr.1 ▸ HSZ.out))
  rw [← hbl] at HCALL
  have HBK := Aside0.mk (And.intro hb2 (And.intro hb3 hb4))
  have HRR := Aside0.mk hRR
  have HSS := Aside0.mk hSS
  have HG := Aside0.mk hG
  have HBW := Aside0.mk hBW
  have HC0 := Aside0.mk hC0
  have HI := Aside0.mk (And.intro hi0 (And.intro hi1 (And.intro hrl hi)))
  have HBL := Aside0.mk hbl
  have HSR := Aside0.mk hSr.1
  have HBLN := Aside0.mk (show bl.length ≤ 140737488355328 by rw [hbl]; unfold belowI; rw [List.length_map]; have := (HKO.out.2 i).1; have := HSZ.out; omega)
  rw [← hi]
  clear hb2 hb3 hb4 hRR hSS hG hr hrl hBW hC0 hSr hRr hi0 hi1 hi hbl
  by_cases hz : 0 < bl.length
  ·have z1 : decide (0 < (bl.length : Int)) = true := decide_eq_true (by omega)
   have z2 : decide (0 < bl.length) = true := decide_eq_true hz
   have HZ := Aside0.mk hz
   clear hz
   gi_wp2_with (refine ⟨trivial, ?_⟩; gi_at_call 33; refine (CallsIn.inRound lr (callsIn_wide.2 HCALL.out)).mono ?_; rintro e w1 ⟨Ab, cb, rfl, hRb, hb⟩; have HRB := Aside0.mk hRb; have HW1 := Aside0.mk hb; replace hc20 := (hb.cell (World.block_lt_of_cell? W _ hc20)).trans hc20; replace hc21 := (hb.cell (World.block_lt_of_cell? W _ hc21)).trans hc21; replace hc30 := (hb.cell (World.block_lt_of_cell? W _ hc30)).trans hc30; clear hRb hb)
   obtain ⟨g, cap, e1, gb1, gl1, gcl, hgcl⟩ := Kd.R_form HRR.out (by have := HI.out; omega)
   injection e1 with ea en ec
   subst ea
   subst ec
   have EN := Aside0.mk en
   have GB1 := Aside0.mk gb1
   have hR1 := Kd.R_below HRR.out HW1.out
   have hgcl1 := blk_below hgcl HW1.out
   have hR1d := Kd.R_drew hR1
   have hIV := iv_elem hR1d i HI.out.1 (by have := HI.out; omega)
   have hx0 := hIV.1.1
   have hx1 := hIV.1.2
   obtain ⟨ad, ead, _, _, hx4⟩ := at_T44 HC0.out i HI.out.1 HI.out.2.1
   subst ead
   replace hx4 := (HW1.out.cell (World.block_lt_of_cell? W _ hx4)).trans hx4
   have HR1 := Aside0.mk hR1
   have HGC := Aside0.mk hgcl1
   have ci2 : (0 ≤ i) = True := eq_true HI.out.1
   have ci3 : (i < l.length) = True := eq_true HI.out.2.1
   have hRBC := Aside0.mk (Kd.R_reads' HRB.out)
   have HGW := Aside0.mk hgcl
   clear en gb1 gl1 hgcl hR1 hR1d hgcl1 hIV
   refine start_R (m := 20) (S := fun w' => w'.cell? ⟨g2 + 1, 0, none⟩ = some (.slice (some ⟨g, 0, none⟩) l.length c1) ∧ w'.cell? ⟨g, i.toNat * 2, none⟩ = some (.int .i64 (rd_T59 r i).f0) ∧ w'.cell? ⟨g, i.toNat * 2 + 1, none⟩ = some (.int .i64 (rd_T59 r i).f1) ∧ w'.cell? ⟨g2, 0, none⟩ = some (.slice (some ad) l.length c0) ∧ w'.cell? ⟨(ad.add (i.toNat * 3)).block, (ad.add (i.toNat * 3)).off + 2, none⟩ = some (.int .i64 (rd_T44 l i).f2)) (ds := [19]) (by kernel_rfl) (by rintro ⟨_, _, h⟩; exact h) #[n_, n_, n_, n_, n_, n_, n_, n_, n_, n_, n_, n_, n_, n_, n_, n_, n_, n_, n_, n_] (by kernel_rfl) rfl rfl ⟨hc30, hx0, hx1, hc20, hx4⟩ (fun hHeld => ?_)
   refine pure_ (i := 1) (N := some 19) (v := ?_) (a' := ?_) #[n_, y_, n_, n_, n_, n_, n_, n_, n_, n_, n_, n_, n_, n_, n_, n_, n_, n_, n_, n_] rfl rfl (by kernel_rfl) (fun _ _ _ h => h) (Or.inl ⟨by rfl, ?_⟩) ?_ ?_
   rotate_left
   ·intro w'
    go_simp
    with_reducible rfl
   rotate_left
   ·simp only [Act.put, sI_, s0_, sS_, i64_w, i32_w]
    rfl
   refine pure_ (i := 3) (N := some 21) (v := ?_) (a' := ?_) #[n_, y_, n_, y_, n_, n_, n_, n_, n_, n_, n_, n_, n_, n_, n_, n_, n_, n_, n_, n_] rfl rfl (by kernel_rfl) (fun _ _ _ h => h) (Or.inl ⟨by rfl, ?_⟩) ?_ ?_
   rotate_left
   ·intro w'
    go_simp
    with_reducible rfl
   rotate_left
   ·simp only [Act.put, sI_, s0_, sS_, i64_w, i32_w]
    rfl
   refine pure_ (i := 6) (N := some 24) (v := ?_) (a' := ?_) #[n_, y_, n_, y_, n_, n_, y_, n_, n_, n_, n_, n_, n_, n_, n_, n_, n_, n_, n_, n_] rfl rfl (by kernel_rfl) (fun _ _ _ h => h) (Or.inl ⟨by rfl, ?_⟩) ?_ ?_
   rotate_left
   ·intro w'
    go_simp
    with_reducible rfl
   rotate_left
   ·simp only [Act.put, sI_, s0_, sS_, i64_w, i32_w]
    rfl
   refine pure_ (i := 8) (N := some 26) (v := ?_) (a' := ?_) #[n_, y_, n_, y_, n_, n_, y_, n_, y_, n_, n_, n_, n_, n_, n_, n_, n_, n_, n_, n_] rfl rfl (by kernel_rfl) (fun _ _ _ h => h) (Or.inl ⟨by rfl, ?_⟩) ?_ ?_
   rotate_left
   ·intro w'
    go_simp
    with_reducible rfl
   rotate_left
   ·simp only [Act.put, sI_, s0_, sS_, i64_w, i32_w]
    rfl
   refine pure_ (i := 10) (N := some 28) (v := ?_) (a' := ?_) #[n_, y_, n_, y_, n_, n_, y_, n_, y_, n_, y_, n_, n_, n_, n_, n_, n_, n_, n_, n_] rfl rfl (by kernel_rfl) (fun _ _ _ h => h) (Or.inl ⟨by rfl, ?_⟩) ?_ ?_
   rotate_left
   ·intro w'
    go_simp
    with_reducible rfl
   rotate_left
   ·simp only [Act.put, sI_, s0_, sS_, i64_w, i32_w]
    rfl
   refine pure_ (i := 12) (N := some 30) (v := ?_) (a' := ?_) #[n_, y_, n_, y_, n_, n_, y_, n_, y_, n_, y_, n_, y_, n_, n_, n_, n_, n_, n_, n_] rfl rfl (by kernel_rfl) (fun _ _ _ h => h) (Or.inl ⟨by rfl, ?_⟩) ?_ ?_
   rotate_left
   ·intro w'
    go_simp
    with_reducible rfl
   rotate_left
   ·simp only [Act.put, sI_, s0_, sS_, i64_w, i32_w]
    rfl
   refine take_ (i := 0) (N := some 18) (v := ?_) (a' := ?_) #[y_, y_, n_, y_, n_, n_, y_, n_, y_, n_, y_, n_, y_, n_, n_, n_, n_, n_, n_, n_] rfl rfl (by kernel_rfl) (fun _ _ _ h => h) (Or.inl ⟨by rfl, ?_⟩) hHeld ?_ ?_
   rotate_left
   ·rintro w' ⟨s0, s1, s2, s3, s4⟩
    go_simp
    with_reducible rfl
   rotate_left
   ·simp only [Act.put, sI_, s0_, sS_, i64_w, i32_w]
    rfl
   refine take_ (i := 2) (N := some 20) (v := ?_) (a' := ?_) #[y_, y_, y_, y_, n_, n_, y_, n_, y_, n_, y_, n_, y_, n_, n_, n_, n_, n_, n_, n_] rfl rfl (by kernel_rfl) (fun _ _ _ h => h) (Or.inl ⟨by rfl, ?_⟩) hHeld ?_ ?_
   rotate_left
   ·rintro w' ⟨s0, s1, s2, s3, s4⟩
    go_simp
    with_reducible rfl
   rotate_left
   ·simp only [Act.put, sI_, s0_, sS_, i64_w, i32_w]
    rfl
   refine pure_ (i := 4) (N := some 22) (v := ?_) (a' := ?_) #[y_, y_, y_, y_, y_, n_, y_, n_, y_, n_, y_, n_, y_, n_, n_, n_, n_, n_, n_, n_] rfl rfl (by kernel_rfl) (fun _ _ _ h => h) (Or.inl ⟨by rfl, ?_⟩) ?_ ?_
   rotate_left
   ·intro w'
    go_simp
    with_reducible rfl
   rotate_left
   ·simp only [Act.put, sI_, s0_, sS_, i64_w, i32_w]
    rfl
   refine take_ (i := 5) (N := some 23) (v := ?_) (a' := ?_) #[y_, y_, y_, y_, y_, y_, y_, n_, y_, n_, y_, n_, y_, n_, n_, n_, n_, n_, n_, n_] rfl rfl (by kernel_rfl) (fun _ _ _ h => h) (Or.inl ⟨by rfl, ?_⟩) hHeld ?_ ?_
   rotate_left
   ·rintro w' ⟨s0, s1, s2, s3, s4⟩
    go_simp
    with_reducible rfl
   rotate_left
   ·simp only [Act.put, sI_, s0_, sS_, i64_w, i32_w]
    rfl
   refine take_ (i := 11) (N := some 29) (v := ?_) (a' := ?_) #[y_, y_, y_, y_, y_, y_, y_, n_, y_, n_, y_, y_, y_, n_, n_, n_, n_, n_, n_, n_] rfl rfl (by kernel_rfl) (fun _ _ _ h => h) (Or.inl ⟨by rfl, ?_⟩) hHeld ?_ ?_
   rotate_left
   ·rintro w' ⟨s0, s1, s2, s3, s4⟩
    go_simp
    with_reducible rfl
   rotate_left
   ·simp only [Act.put, sI_, s0_, sS_, i64_w, i32_w]
    rfl
   refine pure_ (i := 13) (N := some 31) (v := ?_) (a' := ?_) #[y_, y_, y_, y_, y_, y_, y_, n_, y_, n_, y_, y_, y_, y_, n_, n_, n_, n_, n_, n_] rfl rfl (by kernel_rfl) (fun _ _ _ h => h) (Or.inl ⟨by rfl, ?_⟩) ?_ ?_
   rotate_left
   ·intro w'
    go_simp
    with_reducible rfl
   rotate_left
   ·simp only [Act.put, sI_, s0_, sS_, i64_w, i32_w]
    rfl
   refine pure_ (i := 14) (N := some 32) (v := ?_) (a' := ?_) #[y_, y_, y_, y_, y_, y_, y_, n_, y_, n_, y_, y_, y_, y_, y_, n_, n_, n_, n_, n_] rfl rfl (by kernel_rfl) (fun _ _ _ h => h) (Or.inl ⟨by rfl, ?_⟩) ?_ ?_
   rotate_left
   ·intro w'
    go_simp
    with_reducible rfl
   rotate_left
   ·simp only [Act.put, sI_, s0_, sS_, i64_w, i32_w]
    rfl
   refine take_ (i := 15) (N := some 33) (v := ?_) (a' := ?_) #[y_, y_, y_, y_, y_, y_, y_, n_, y_, n_, y_, y_, y_, y_, y_, y_, n_, n_, n_, n_] rfl rfl (by kernel_rfl) (fun _ _ _ h => h) (Or.inl ⟨by rfl, ?_⟩) hHeld ?_ ?_
   rotate_left
   ·rintro w' ⟨s0, s1, s2, s3, s4⟩
    go_simp
    with_reducible rfl
   rotate_left
   ·simp only [Act.put, sI_, s0_, sS_, i64_w, i32_w]
    rfl
   refine one_ (i := 7) (N := some 25) #[y_, y_, y_, y_, y_, y_, y_, y_, y_, n_, y_, y_, y_, y_, y_, y_, n_, n_, n_, n_] rfl rfl (by kernel_rfl) (by decide) (fun K hK => ?_)
   refine goes_ Try.func34 (by kernel_rfl) rfl #[.slice Ab bl.length cb, .func (.func 35) #[] #[]] (by rfl) rfl rfl (by simp only [List.map_toArray, List.map_cons, List.map_nil]; rfl) ?_
   with_reducible refine (flow_total_low Ab cb bl _ (Kd.C_below hRBC.out.2.2 (below_drew (Below.refl _ _))) hRBC.out.2.1 HBLN.out).mono ?_
   rintro e w3 ⟨rfl, hb⟩
   refine ⟨_, rfl, ?_⟩
   have HB3 := Aside0.mk (below_step (below_drew (Below.refl _ _)) hb)
   refine hK.out _ _ ⟨(hb.cell (World.block_lt_of_cell? _ _ hHeld.1)).trans hHeld.1, (hb.cell (World.block_lt_of_cell? _ _ hHeld.2.1)).trans hHeld.2.1, (hb.cell (World.block_lt_of_cell? _ _ hHeld.2.2.1)).trans hHeld.2.2.1, (hb.cell (World.block_lt_of_cell? _ _ hHeld.2.2.2.1)).trans hHeld.2.2.2.1, (hb.cell (World.block_lt_of_cell? _ _ hHeld.2.2.2.2)).trans hHeld.2.2.2.2⟩ (fun hHeld => ?_)
   clear hK K
   refine norm_ (a' := ?_) ?_ ?_
   rotate_left
   ·show Act.put _ (some 25) _ = _
    simp only [Act.put, sI_, s0_, sS_, i64_w, i32_w]
    rfl
   refine one_ (i := 9) (N := some 27) #[y_, y_, y_, y_, y_, y_, y_, y_, y_, y_, y_, y_, y_, y_, y_, y_, n_, n_, n_, n_] rfl rfl (by kernel_rfl) (by decide) (fun K hK => ?_)
   refine goes_ Try.func34 (by kernel_rfl) rfl #[.slice Ab bl.length cb, .func (.func 50) #[] #[]] (by rfl) rfl rfl (by simp only [List.map_toArray, List.map_cons, List.map_nil]; rfl) ?_
   with_reducible refine (flow_total_high Ab cb bl _ (Kd.C_below hRBC.out.2.2 HB3.out) hRBC.out.2.1 HBLN.out).mono ?_
   rintro e w4 ⟨rfl, hb⟩
   refine ⟨_, rfl, ?_⟩
   have HB4 := Aside0.mk (below_step HB3.out hb)
   refine hK.out _ _ ⟨(hb.cell (World.block_lt_of_cell? _ _ hHeld.1)).trans hHeld.1, (hb.cell (World.block_lt_of_cell? _ _ hHeld.2.1)).trans hHeld.2.1, (hb.cell (World.block_lt_of_cell? _ _ hHeld.2.2.1)).trans hHeld.2.2.1, (hb.cell (World.block_lt_of_cell? _ _ hHeld.2.2.2.1)).trans hHeld.2.2.2.1, (hb.cell (World.block_lt_of_cell? _ _ hHeld.2.2.2.2)).trans hHeld.2.2.2.2⟩ (fun hHeld => ?_)
   clear hK K
   refine norm_ (a' := ?_) ?_ ?_
   rotate_left
   ·show Act.put _ (some 27) _ = _
    simp only [Act.put, sI_, s0_, sS_, i64_w, i32_w]
    rfl
   refine pure_ (i := 16) (N := some 34) (v := ?_) (a' := ?_) #[y_, y_, y_, y_, y_, y_, y_, y_, y_, y_, y_, y_, y_, y_, y_, y_, y_, n_, n_, n_] rfl rfl (by kernel_rfl) (fun _ _ _ h => h) (Or.inl ⟨by rfl, ?_⟩) ?_ ?_
   rotate_left
   ·intro w'
    go_simp
    with_reducible rfl
   rotate_left
   ·simp only [Act.put, sI_, s0_, sS_, i64_w, i32_w]
    rfl
   refine one_ (i := 17) (N := some 35) #[y_, y_, y_, y_, y_, y_, y_, y_, y_, y_, y_, y_, y_, y_, y_, y_, y_, y_, n_, n_] rfl rfl (by kernel_rfl) (by decide) (fun K hK => ?_)
   refine goes_ Try.func37 (by kernel_rfl) rfl #[.agg #[.int .i64 (rd_T59 r i).f0, .int .i64 (rd_T59 r i).f1], .int .i64 (totalF S59.f0 bl), .int .i64 (wrap64 (totalF S59.f1 bl + (rd_T44 l i).f2))] (by rfl) rfl rfl (by simp only [List.map_toArray, List.map_cons, List.map_nil]; rfl) ?_
   with_reducible refine (flow_interval_cut.calls _ _ _ _ _ _ _ rfl).mono ?_
   rintro e w5 ⟨rfl, hb⟩
   refine ⟨_, rfl, ?_⟩
   have HB5 := Aside0.mk (below_step HB4.out hb)
   have HIV5 := Aside0.mk (iv_elem (Kd.R_below HR1.out HB5.out) i HI.out.1 (by have := HI.out; omega))
   have hfz0 := HIV5.out.2.1.1
   have hfz1 := HIV5.out.2.1.2
   have hxz0 := HIV5.out.1.1
   have hxz1 := HIV5.out.1.2
   refine hK.out _ _ ⟨(hb.cell (World.block_lt_of_cell? _ _ hHeld.1)).trans hHeld.1, (hb.cell (World.block_lt_of_cell? _ _ hHeld.2.1)).trans hHeld.2.1, (hb.cell (World.block_lt_of_cell? _ _ hHeld.2.2.1)).trans hHeld.2.2.1, (hb.cell (World.block_lt_of_cell? _ _ hHeld.2.2.2.1)).trans hHeld.2.2.2.1, (hb.cell (World.block_lt_of_cell? _ _ hHeld.2.2.2.2)).trans hHeld.2.2.2.2⟩ (fun hHeld => ?_)
   clear hK K
   refine norm_ (a' := ?_) ?_ ?_
   rotate_left
   ·show Act.put _ (some 35) _ = _
    simp only [Act.put, sI_, s0_, sS_, i64_w, i32_w]
    rfl
   refine pure_ (i := 18) (N := some 36) (v := ?_) (a' := ?_) #[y_, y_, y_, y_, y_, y_, y_, y_, y_, y_, y_, y_, y_, y_, y_, y_, y_, y_, y_, n_] rfl rfl (by kernel_rfl) (fun _ _ _ h => h) (Or.inl ⟨by rfl, ?_⟩) ?_ ?_
   rotate_left
   ·intro w'
    go_simp
    with_reducible rfl
   rotate_left
   ·simp only [Act.put, sI_, s0_, sS_, i64_w, i32_w]
    rfl
   refine last_ (i := 19) (N := none) #[y_, y_, y_, y_, y_, y_, y_, y_, y_, y_, y_, y_, y_, y_, y_, y_, y_, y_, y_, y_] rfl rfl (by kernel_rfl) (by decide) (fun K hK => ?_)
   refine skip_ (w1 := ?_) (by rfl) rfl ?_ ?_
   rotate_left
   ·go_simp
    rfl
   refine hK.out _ _ ?_
   clear hK K
   refine done_ (by kernel_rfl) ?_
   have hP := HIV5.out.2.2 (cutI (rd_T59 r i) (totalF S59.f0 bl) (wrap64 (totalF S59.f1 bl + (rd_T44 l i).f2)))
   have hgW := grown_trans (grown_of_below HW1.out (some g)) (grown_trans (grown_of_below HB5.out (some g)) hP.2)
   have hown : (Value.slice (some ⟨g, 0, none⟩) l.length c1).ownBlock = some g := by simp [Value.ownBlock]
   obtain ⟨hb2, hb3, hb4⟩ := HBK.out
   have n2 : some g2 ≠ some g := by have := blk_ne hb2 HGW.out (by decide); simpa using this
   have n3 : some (g2 + 1) ≠ some g := by have := blk_ne hb3 HGW.out (by decide); simpa using this
   have n4 : some (g2 + 1 + 1) ≠ some g := by have := blk_ne hb4 HGW.out (by decide); simpa using this
   refine ⟨(KeepsOthers.of_grownBy hgW (fun j o ej ho => ?_)).from _, ⟨(Below.refl _ _).grown hgW HBW.out.size (fun k e => by cases e; exact GB1.out), hgW.block _ (blk_lt hb4) n4⟩, ⟨blk_grown hb2 hgW n2, blk_grown hb3 hgW n3, blk_grown hb4 hgW n4⟩, ?_, ?_, ?_⟩
   ·cases ej
    rw [HGW.out] at ho
    cases ho
    rfl
   ·rw [List.map_append, List.foldl_append, ← HRN.out]
    show Kd.R k59 59 _ w0.heap.size _ _ (upStep l kids r (x.1 : Int))
    unfold upStep
    rw [← HI.out.2.2.2, ← HBL.out, if_pos HZ.out]
    exact hP.1
   ·exact Kd.S_mono (Kd.S_grown (Kd.S_types HSS.out HGW.out (by decide)) hgW (fun k hk e => hk.2 (by cases e; rfl))) (fun _ hk => hk.1)
   ·rw [hown] at HG
    rw [hown]
    exact grown_trans HG.out hgW
  ·have z1 : decide (0 < (bl.length : Int)) = false := decide_eq_false (by omega)
   have z2 : decide (0 < bl.length) = false := decide_eq_false hz
   have HZ := Aside0.mk hz
   clear hz
   gi_wp2_with (refine ⟨trivial, ?_⟩; gi_at_call 33; refine (CallsIn.inRound lr (callsIn_wide.2 HCALL.out)).mono ?_; rintro e w1 ⟨Ab, cb, rfl, hRb, hb⟩; have HRB := Aside0.mk hRb; have HW1 := Aside0.mk hb; clear hRb hb)
   have hb := HW1.out
   have hg := grown_of_below hb (none : Option Nat)
   obtain ⟨hb2, hb3, hb4⟩ := HBK.out
   refine ⟨(KeepsOthers.of_grownBy hg (by simp)).from _, ⟨hb.mono HBW.out.size, hb.block _ (blk_lt hb4)⟩, ⟨blk_below hb2 hb, blk_below hb3 hb, blk_below hb4 hb⟩, ?_, Kd.S_below HSS.out hb, grown_then HG.out hb⟩
   rw [List.map_append, List.foldl_append, ← HRN.out]
   show Kd.R k59 59 w1 w0.heap.size _ _ (upStep l kids r (x.1 : Int))
   unfold upStep
   rw [← HI.out.2.2.2, ← HBL.out, if_neg HZ.out]
   exact Kd.R_below HRR.out hb
end Go.Proofs.Ytmojlpafpeeelaa.P
end
section
namespace Go.Proofs.Ytmojlpafpeeelaa.P
open Go.RowKit Go.Proofs.YtmojlpafpeeelaaW.PrintWords Go.Proofs.YtmojlpafpeeelaaW.PrintLast Go.Proofs.YtmojlpafpeeelaaW.PrintMore
attribute [local go_sem] max2_int min2_int max_two min_two max_three min_three max_four min_four
set_option linter.unusedVariables false
set_option linter.unusedSimpArgs false
open Go.Proofs.YtmojlpafpeeelaaH
def downCut (l : List S44) (i : Int) (lo hi : Int) (r : List S59) (k : Int) : List S59 :=
 r.set k.toNat (cutI (rd_T59 r k) (wrap64 (wrap64 ((rd_T59 r i).f0 - (rd_T44 l i).f2) - wrap64 (hi - (rd_T59 r k).f1))) (wrap64 ((rd_T59 r i).f1 - wrap64 (lo - (rd_T59 r k).f0))))
def downStep (l : List S44) (kids : List (List Int)) (r : List S59) (i : Int) : List S59 :=
 (rdK kids i).foldl (downCut l i (totalF S59.f0 (belowI kids r i)) (totalF S59.f1 (belowI kids r i))) r
theorem downCut_len (l : List S44) (i lo hi : Int) (r : List S59) (k : Int) : (downCut l i lo hi r k).length = r.length := by simp [downCut]
theorem downCuts_len (l : List S44) (i lo hi : Int) (ks : List Int) : ∀ r : List S59, (ks.foldl (downCut l i lo hi) r).length = r.length := by
 induction ks with
 | nil => intro r; rfl
 | cons j js ih => intro r; rw [List.foldl_cons, ih, downCut_len]
theorem downStep_len (l : List S44) (kids : List (List Int)) (r : List S59) (i : Int) : (downStep l kids r i).length = r.length := downCuts_len _ _ _ _ _ _
theorem downFold_len (l : List S44) (kids : List (List Int)) (js : List Nat) : ∀ (r : List S59), (js.foldl (fun r (j : Nat) => downStep l kids r j) r).length = r.length := by
 induction js with
 | nil => intro r; rfl
 | cons j js ih => intro r; rw [List.foldl_cons, ih, downStep_len]
def downF (l : List S44) (kids : List (List Int)) (r : List S59) : List S59 := (List.range l.length).foldl (fun r (j : Nat) => downStep l kids r j) r
def upF (l : List S44) (kids : List (List Int)) (r : List S59) : List S59 := (downTo l.length l.length).foldl (fun r (j : Nat) => upStep l kids r j) r
theorem foldl_range_succ {β : Type} (f : β → Nat → β) (x : β) (i : Nat) : (List.range (i + 1)).foldl f x = f ((List.range i).foldl f x) i := by rw [List.range_succ, List.foldl_append]; rfl
theorem foldl_take_succ {β : Type} (f : β → Int → β) (x : β) (ks : List Int) (j : Nat) (h : j < ks.length) : (ks.take (j + 1)).foldl f x = f ((ks.take j).foldl f x) (rd ks j) := by
 rw [List.take_succ_eq_append_getElem h, List.foldl_append]
 simp [rd, List.getD_eq_getElem?_getD, h]
set_option maxRecDepth 100000 in
set_option maxHeartbeats 8000000 in
theorem down_calls (w0 w : World) (A0 : Option Addr) (c0 : Nat) (l : List S44) (A2 : Option Addr) (c2 : Nat) (kids : List (List Int)) (A1 : Option Addr) (c1 : Nat) (xs : List S59)
  (hB : Below w0.heap.size w0 w) (hr0 : Kd.C k44 w0 A0 l.length l) (hc0 : l.length ≤ c0) (hsz : l.length ≤ 5864062014805)
  (hk : Kd.S (Kd.slice 3 (Kd.int .i64)) 24 w w0.heap.size (fun _ => True) (.slice A2 l.length c2) kids) (hkids : KidsOk kids l.length)
  (hr : Kd.R k59 59 w w0.heap.size (fun _ => True) (.slice A1 l.length c1) xs) (hxl : xs.length = l.length) :
  Calls Try.prog 44 #[.agg #[.slice A0 l.length c0, .slice A2 l.length c2], .slice A1 l.length c1] w fun e w' => e = .returned (.tuple #[]) ∧
   Kd.R k59 59 w' w0.heap.size (fun _ => True) (.slice A1 l.length c1) (downF l kids xs) ∧ w.grownBy w' (Value.slice A1 l.length c1).ownBlock := by
 have hu52 := Try.underlying52
 have HBW0 := Aside0.mk hB
 have HR0 := Aside0.mk hr0
 have HSZ := Aside0.mk hsz
 have HC0 := Aside0.mk hc0
 have HK := Aside0.mk hk
 have HKO := Aside0.mk hkids
 have HR := Aside0.mk hr
 have HXL := Aside0.mk hxl
 clear hB hr0 hsz hk hkids hr hxl hc0
 have HGO := Aside0.mk (show ∀ k, (Value.slice A1 l.length c1).ownBlock = some k → w0.heap.size ≤ k from fun k hk => by obtain ⟨inner, ho⟩ := Kd.R_own HR.out; exact own_base ho k hk)
 have HB := Aside0.mk (Below.refl w.heap.size w)
 go_enter Try.func44, Try.ntmps44
 go_wp2_with (first | ((with_reducible refine gate_dst (N := 2) rfl ?_); refine box_event ?hg (N := 2) ?hd (cs := #[.slice A0 l.length c0, .slice A2 l.length c2]) (t := 52) ?hr ?_; (case hd => rfl); (case hg => rfl); (case hr => first | (go_simp; done) | (go_simp; rfl)); intro gb hg wb hbox hb; have n0_ := Aside0.mk (below_step HB.out hb); have BK := Aside0.mk hbox; have GW := Aside0.mk ((by rw [hg]; exact (below_size HB.out)) : w.heap.size ≤ gb); clear HB; have HB := n0_; clear n0_; clear hb hbox hg; have hcz0 : wb.cell? ⟨gb, 0, none⟩ = some (.slice A0 l.length c0) := (blk_cell BK.out 0).trans rfl; have hcz1 : wb.cell? ⟨gb, 1, none⟩ = some (.slice A2 l.length c2) := (blk_cell BK.out 1).trans rfl))
 go_loopg [13] l.length (fun kq v13 wr => ∃ (i : Nat) (r : List S59), v13 = .int .i64 i ∧ Aside0 (kq + i = l.length) ∧ Aside0 (r = (List.range i).foldl (fun r (j : Nat) => downStep l kids r j) xs) ∧ Aside0 (wr.heap[gb]? = some (.cells #[.slice A0 l.length c0, .slice A2 l.length c2] 52 (0, 0)))
  ∧ Aside0 (Kd.R k59 59 wr w0.heap.size (fun _ => True) (.slice A1 l.length c1) r) ∧ Aside0 (Kd.S (Kd.slice 3 (Kd.int .i64)) 24 wr w0.heap.size (fun _ => True) (.slice A2 l.length c2) kids) ∧ Aside0 (w.grownBy wr (Value.slice A1 l.length c1).ownBlock))
 case atStart => exact ⟨0, xs, rfl, ⟨by omega⟩, ⟨rfl⟩, BK, ⟨Kd.R_below HR.out HB.out⟩, ⟨Kd.S_below HK.out HB.out⟩, ⟨grown_of_below HB.out _⟩⟩
 case round =>
  clear hcz0 hcz1 BK
  obtain ⟨n, r, rfl, HM, HRN, BK, HRR, HSS, HG⟩ := hrel
  have hcz0 : wr.cell? ⟨gb, 0, none⟩ = some (.slice A0 l.length c0) := (blk_cell BK.out 0).trans rfl
  have hcz1 : wr.cell? ⟨gb, 1, none⟩ = some (.slice A2 l.length c2) := (blk_cell BK.out 1).trans rfl
  have HRL := Aside0.mk (show r.length = l.length by rw [HRN.out, downFold_len, HXL.out])
  by_cases hlt : n < l.length
  ·obtain ⟨i, hi⟩ : ∃ i : Int, i = (n : Int) := ⟨_, rfl⟩
   rw [← hi]
   have hi0 : 0 ≤ i := by omega
   have hi1 : i < l.length := by omega
   have HI := Aside0.mk (And.intro hi0 (And.intro hi1 hi))
   have HBW := Aside0.mk (grown_below HBW0.out HG.out HGO.out)
   have HC0W := Aside0.mk (Kd.C_below HR0.out HBW.out)
   have hSr := Kd.S_reads' HSS.out
   have hRr := Kd.R_reads' HRR.out
   obtain ⟨bl, hbl⟩ : ∃ bl, bl = belowI kids r i := ⟨_, rfl⟩
   have HCALL := Aside0.mk (below_calls A0 l.length c0 l A2 l.length c2 kids A1 l.length c1 r i wr rfl hSr.1 HRL.out.symm HC0W.out HC0.out hSr.2.2 (hSr.1 ▸ hSr.2.1) hRr.2.2 (HRL.out ▸ hRr.2.1) hi0 (hSr.1 ▸ hi1) (HRL.out.trans hSr.1) (hSr.1 ▸ HKO.out) (hSr.1 ▸ HSZ.out))
   rw [← hbl] at HCALL
   have HBL := Aside0.mk hbl
   have HBLN := Aside0.mk (show bl.length ≤ 140737488355328 by rw [hbl]; unfold belowI; rw [List.length_map]; have := (HKO.out.2 i).1; have := HSZ.out; omega)
   have HSL := Aside0.mk hSr.1
   obtain ⟨g2, cap2, e2, gb2, gl2, gcl2⟩ := Kd.S_form HSS.out (by have := HI.out; have := HSL.out; omega)
   obtain ⟨cl2, hcl2⟩ := gcl2
   injection e2 with ea2 en2 ec2
   subst ea2
   subst ec2
   obtain ⟨Ak, ck, okk, hck, hfk, hRk, hokk, hput⟩ := kid_lend HSS.out i hi0 hi1
   clear hput hfk
   obtain ⟨g, cap, e1, gb1, gl1, gcl, hgcl⟩ := Kd.R_form HRR.out (by have := HI.out; have := HRL.out; omega)
   injection e1 with ea en ec
   subst ea
   subst ec
   have HGB := Aside0.mk gb1
   have HGC := Aside0.mk hgcl
   obtain ⟨ks, hks⟩ : ∃ ks, ks = rdK kids i := ⟨_, rfl⟩
   replace hck : wr.cell? ⟨g2, i.toNat, none⟩ = some (.slice Ak ks.length ck) := by rw [hks]; exact hck
   replace hRk : Kd.R (Kd.int .i64) 3 wr w0.heap.size okk (.slice Ak ks.length ck) ks := by rw [hks]; exact hRk
   have HKS := Aside0.mk hks
   have HKR := Aside0.mk hRk
   have HKN := Aside0.mk (show ks.length ≤ l.length ∧ ∀ k ∈ ks, 0 ≤ k ∧ k < l.length from hks ▸ HKO.out.2 i)
   have HB0 := Aside0.mk (Below.refl wr.heap.size wr)
   have d1 : decide (i < (l.length : Int)) = true := decide_eq_true hi1
   have ci2 : (0 ≤ i) = True := eq_true hi0
   have ci3 : (i < l.length) = True := eq_true hi1
   clear hi hi0 hi1 hlt hSr hRr hbl gb2 gl2 hcl2 hRk hokk gb1 gl1 hgcl hks en en2
   go_wp2_with (first | (go_at_call 33; (with_reducible refine HCALL.out.mono ?_); rintro e w1 ⟨Ab, cb, rfl, hRb, hb⟩; have HRB := Aside0.mk (Kd.R_reads' hRb).2; have n0_ := Aside0.mk (below_step HB0.out hb); have HB1 := Aside0.mk (Below.refl w1.heap.size w1); clear HB0; have HB0 := n0_; clear n0_; replace hcz0 := (hb.cell (World.block_lt_of_cell? _ _ hcz0)).trans hcz0; replace hcz1 := (hb.cell (World.block_lt_of_cell? _ _ hcz1)).trans hcz1; replace hck := (hb.cell (World.block_lt_of_cell? _ _ hck)).trans hck; clear hRb hb) | (go_at_call 34; (with_reducible refine (flow_total_low Ab cb bl _ (Kd.C_below HRB.out.2 HB1.out) HRB.out.1 HBLN.out).mono ?_); rintro e w2 ⟨rfl, hb⟩; have n0_ := Aside0.mk (below_step HB0.out hb); have n1_ := Aside0.mk (below_step HB1.out hb); clear HB0 HB1; have HB0 := n0_; have HB1 := n1_; clear n0_ n1_; replace hcz0 := (hb.cell (World.block_lt_of_cell? _ _ hcz0)).trans hcz0; replace hcz1 := (hb.cell (World.block_lt_of_cell? _ _ hcz1)).trans hcz1; replace hck := (hb.cell (World.block_lt_of_cell? _ _ hck)).trans hck; clear hb) | (go_at_call 34; (with_reducible refine (flow_total_high Ab cb bl _ (Kd.C_below HRB.out.2 HB1.out) HRB.out.1 HBLN.out).mono ?_); rintro e w2 ⟨rfl, hb⟩; have n0_ := Aside0.mk (below_step HB0.out hb); have n1_ := Aside0.mk (below_step HB1.out hb); clear HB0 HB1; have HB0 := n0_; have HB1 := n1_; clear n0_ n1_; replace hcz0 := (hb.cell (World.block_lt_of_cell? _ _ hcz0)).trans hcz0; replace hcz1 := (hb.cell (World.block_lt_of_cell? _ _ hcz1)).trans hcz1; replace hck := (hb.cell (World.block_lt_of_cell? _ _ hck)).trans hck; clear hb))
   clear hcz0 hcz1 hck HB1 HRB
   have HGS := Aside0.mk (grown_then HG.out HB0.out)
   have HRRS := Aside0.mk (Kd.R_below HRR.out HB0.out)
   have HSSS := Aside0.mk (Kd.S_below HSS.out HB0.out)
   have HKRS := Aside0.mk (Kd.R_mono (Kd.R_below HKR.out HB0.out) (fun _ _ => trivial))
   have HBKS := Aside0.mk (blk_below BK.out HB0.out)
   have HB00 := HB0.out
   clear HG HRR HSS HKR BK HB0
   have GBG := Aside0.mk (show some gb ≠ some g from by have := blk_ne HBKS.out (blk_below HGC.out HB00) (by decide); simpa using this)
   clear HB00
   obtain ⟨gko, hgko⟩ : ∃ m, gk = m := ⟨_, rfl⟩
   have HGKO := Aside0.mk hgko
   clear hgko
   obtain ⟨wo, hwo⟩ : ∃ m, wr = m := ⟨_, rfl⟩
   subst hwo
   go_loopg [30] ks.length (fun kq v30 ws => ∃ (j : Nat) (rr : List S59), v30 = .int .i64 j ∧ Aside0 (kq + j = ks.length) ∧ Aside0 (rr = (ks.take j).foldl (downCut l i (totalF S59.f0 bl) (totalF S59.f1 bl)) r) ∧ Aside0 (ws.heap[gb]? = some (.cells #[.slice A0 l.length c0, .slice (some ⟨g2, 0, none⟩) l.length c2] 52 (0, 0)))
    ∧ Aside0 (Kd.R k59 59 ws w0.heap.size (fun _ => True) (.slice (some ⟨g, 0, none⟩) l.length c1) rr) ∧ Aside0 (Kd.S (Kd.slice 3 (Kd.int .i64)) 24 ws w0.heap.size (fun _ => True) (.slice (some ⟨g2, 0, none⟩) l.length c2) kids) ∧ Aside0 (w.grownBy ws (Value.slice (some ⟨g, 0, none⟩) l.length c1).ownBlock)
    ∧ Aside0 (Kd.R (Kd.int .i64) 3 ws w0.heap.size (fun _ => True) (.slice Ak ks.length ck) ks))
   case atStart => exact ⟨0, r, rfl, ⟨by omega⟩, ⟨rfl⟩, HBKS, HRRS, HSSS, HGS, HKRS⟩
   case round =>
    clear HBKS HRRS HSSS HGS HKRS
    obtain ⟨j, rr, rfl, HJ, HRJ, HBKS, HRRS, HSSS, HGS, HKRS⟩ := hrel
    have HRRL := Aside0.mk (show rr.length = l.length by rw [HRJ.out, downCuts_len, HRL.out])
    by_cases hj : j < ks.length
    ·obtain ⟨x, hx⟩ : ∃ x : Int, x = (j : Int) := ⟨_, rfl⟩
     rw [← hx]
     have HX := Aside0.mk (show 0 ≤ x ∧ x < ks.length ∧ x = (j : Int) from ⟨by omega, by omega, hx⟩)
     have q1 : decide (x < (ks.length : Int)) = true := decide_eq_true HX.out.2.1
     have q2 : (0 ≤ x) = True := eq_true HX.out.1
     have q3 : (x < ks.length) = True := eq_true HX.out.2.1
     obtain ⟨adk, ek, hxk⟩ := Kd.at_int (Kd.R_reads' HKRS.out).2.2 x HX.out.1 HX.out.2.1
     subst ek
     obtain ⟨k, hk⟩ : ∃ k : Int, k = rd ks x := ⟨_, rfl⟩
     rw [← hk] at hxk
     have HKK := Aside0.mk (show 0 ≤ k ∧ k < l.length ∧ k = rd ks j from by
      have e : x.toNat = j := by have := HX.out; omega
      have h1 := HKN.out.2 k (by rw [hk]; simp only [rd, List.getD_eq_getElem?_getD, e, List.getElem?_eq_getElem hj, Option.getD_some]; exact List.getElem_mem hj)
      exact ⟨h1.1, h1.2, by rw [hk, HX.out.2.2]⟩)
     have q4 : (0 ≤ k) = True := eq_true HKK.out.1
     have q5 : (k < l.length) = True := eq_true HKK.out.2.1
     have hIV := iv_elem (Kd.R_drew HRRS.out) k HKK.out.1 HKK.out.2.1
     have hx0 := hIV.1.1
     have hx1 := hIV.1.2
     have hIW := iv_elem (Kd.R_drew HRRS.out) i HI.out.1 HI.out.2.1
     have hy0 := hIW.1.1
     have hy1 := hIW.1.2
     have HBWS := Aside0.mk (grown_below HBW0.out HGS.out HGO.out)
     obtain ⟨ad, ead, _, _, hx4⟩ := at_T44 (Kd.C_below HR0.out (HBWS.out.drew)) i HI.out.1 HI.out.2.1
     subst ead
     have hbk : wr.drew.cell? ⟨gb, 0, none⟩ = some (.slice (some ad) l.length c0) := (blk_cell (blk_drew HBKS.out) 0).trans rfl
     have HJL := Aside0.mk hj
     clear hIV hIW hj hx hk
     go_wp2
     clear hxk
     refine start_ (n := 42) (S := fun w' => w'.cell? ⟨gb, 0, none⟩ = some (.slice (some ad) l.length c0) ∧ w'.cell? ⟨g, k.toNat * 2, none⟩ = some (.int .i64 (rd_T59 rr k).f0) ∧ w'.cell? ⟨g, k.toNat * 2 + 1, none⟩ = some (.int .i64 (rd_T59 rr k).f1) ∧ w'.cell? ⟨g, i.toNat * 2, none⟩ = some (.int .i64 (rd_T59 rr i).f0) ∧ w'.cell? ⟨g, i.toNat * 2 + 1, none⟩ = some (.int .i64 (rd_T59 rr i).f1) ∧ w'.cell? ⟨(ad.add (i.toNat * 3)).block, (ad.add (i.toNat * 3)).off + 2, none⟩ = some (.int .i64 (rd_T44 l i).f2)) (ds := [41]) #[n_, n_, n_, n_, n_, n_, n_, n_, n_, n_, n_, n_, n_, n_, n_, n_, n_, n_, n_, n_, n_, n_, n_, n_, n_, n_, n_, n_, n_, n_, n_, n_, n_, n_, n_, n_, n_, n_, n_, n_, n_, n_] (by kernel_rfl) rfl rfl ⟨hbk, hx0, hx1, hy0, hy1, hx4⟩ (fun hHeld => ?_)
     refine pure_ (i := 0) (N := some 34) (v := ?_) (a' := ?_) #[y_, n_, n_, n_, n_, n_, n_, n_, n_, n_, n_, n_, n_, n_, n_, n_, n_, n_, n_, n_, n_, n_, n_, n_, n_, n_, n_, n_, n_, n_, n_, n_, n_, n_, n_, n_, n_, n_, n_, n_, n_, n_] rfl rfl (by kernel_rfl) (fun _ _ _ h => h) (Or.inl ⟨by rfl, ?_⟩) ?_ ?_
     rotate_left
     ·intro w'
      go_simp
      with_reducible rfl
     rotate_left
     ·simp only [Act.put, sI_, s0_, sS_, i64_w, i32_w]
      rfl
     refine pure_ (i := 1) (N := some 35) (v := ?_) (a' := ?_) #[y_, y_, n_, n_, n_, n_, n_, n_, n_, n_, n_, n_, n_, n_, n_, n_, n_, n_, n_, n_, n_, n_, n_, n_, n_, n_, n_, n_, n_, n_, n_, n_, n_, n_, n_, n_, n_, n_, n_, n_, n_, n_] rfl rfl (by kernel_rfl) (fun _ _ _ h => h) (Or.inl ⟨by rfl, ?_⟩) ?_ ?_
     rotate_left
     ·intro w'
      go_simp
      with_reducible rfl
     rotate_left
     ·simp only [Act.put, sI_, s0_, sS_, i64_w, i32_w]
      rfl
     refine pure_ (i := 2) (N := some 36) (v := ?_) (a' := ?_) #[y_, y_, y_, n_, n_, n_, n_, n_, n_, n_, n_, n_, n_, n_, n_, n_, n_, n_, n_, n_, n_, n_, n_, n_, n_, n_, n_, n_, n_, n_, n_, n_, n_, n_, n_, n_, n_, n_, n_, n_, n_, n_] rfl rfl (by kernel_rfl) (fun _ _ _ h => h) (Or.inl ⟨by rfl, ?_⟩) ?_ ?_
     rotate_left
     ·intro w'
      go_simp
      with_reducible rfl
     rotate_left
     ·simp only [Act.put, sI_, s0_, sS_, i64_w, i32_w]
      rfl
     refine pure_ (i := 3) (N := some 37) (v := ?_) (a' := ?_) #[y_, y_, y_, y_, n_, n_, n_, n_, n_, n_, n_, n_, n_, n_, n_, n_, n_, n_, n_, n_, n_, n_, n_, n_, n_, n_, n_, n_, n_, n_, n_, n_, n_, n_, n_, n_, n_, n_, n_, n_, n_, n_] rfl rfl (by kernel_rfl) (fun _ _ _ h => h) (Or.inl ⟨by rfl, ?_⟩) ?_ ?_
     rotate_left
     ·intro w'
      go_simp
      with_reducible rfl
     rotate_left
     ·simp only [Act.put, sI_, s0_, sS_, i64_w, i32_w]
      rfl
     refine pure_ (i := 4) (N := some 38) (v := ?_) (a' := ?_) #[y_, y_, y_, y_, y_, n_, n_, n_, n_, n_, n_, n_, n_, n_, n_, n_, n_, n_, n_, n_, n_, n_, n_, n_, n_, n_, n_, n_, n_, n_, n_, n_, n_, n_, n_, n_, n_, n_, n_, n_, n_, n_] rfl rfl (by kernel_rfl) (fun _ _ _ h => h) (Or.inl ⟨by rfl, ?_⟩) ?_ ?_
     rotate_left
     ·intro w'
      go_simp
      with_reducible rfl
     rotate_left
     ·simp only [Act.put, sI_, s0_, sS_, i64_w, i32_w]
      rfl
     refine pure_ (i := 6) (N := some 40) (v := ?_) (a' := ?_) #[y_, y_, y_, y_, y_, n_, y_, n_, n_, n_, n_, n_, n_, n_, n_, n_, n_, n_, n_, n_, n_, n_, n_, n_, n_, n_, n_, n_, n_, n_, n_, n_, n_, n_, n_, n_, n_, n_, n_, n_, n_, n_] rfl rfl (by kernel_rfl) (fun _ _ _ h => h) (Or.inl ⟨by rfl, ?_⟩) ?_ ?_
     rotate_left
     ·intro w'
      go_simp
      with_reducible rfl
     rotate_left
     ·simp only [Act.put, sI_, s0_, sS_, i64_w, i32_w]
      rfl
     refine pure_ (i := 7) (N := some 41) (v := ?_) (a' := ?_) #[y_, y_, y_, y_, y_, n_, y_, y_, n_, n_, n_, n_, n_, n_, n_, n_, n_, n_, n_, n_, n_, n_, n_, n_, n_, n_, n_, n_, n_, n_, n_, n_, n_, n_, n_, n_, n_, n_, n_, n_, n_, n_] rfl rfl (by kernel_rfl) (fun _ _ _ h => h) (Or.inl ⟨by rfl, ?_⟩) ?_ ?_
     rotate_left
     ·intro w'
      go_simp
      with_reducible rfl
     rotate_left
     ·simp only [Act.put, sI_, s0_, sS_, i64_w, i32_w]
      rfl
     refine pure_ (i := 8) (N := some 42) (v := ?_) (a' := ?_) #[y_, y_, y_, y_, y_, n_, y_, y_, y_, n_, n_, n_, n_, n_, n_, n_, n_, n_, n_, n_, n_, n_, n_, n_, n_, n_, n_, n_, n_, n_, n_, n_, n_, n_, n_, n_, n_, n_, n_, n_, n_, n_] rfl rfl (by kernel_rfl) (fun _ _ _ h => h) (Or.inl ⟨by rfl, ?_⟩) ?_ ?_
     rotate_left
     ·intro w'
      go_simp
      with_reducible rfl
     rotate_left
     ·simp only [Act.put, sI_, s0_, sS_, i64_w, i32_w]
      rfl
     refine pure_ (i := 9) (N := some 43) (v := ?_) (a' := ?_) #[y_, y_, y_, y_, y_, n_, y_, y_, y_, y_, n_, n_, n_, n_, n_, n_, n_, n_, n_, n_, n_, n_, n_, n_, n_, n_, n_, n_, n_, n_, n_, n_, n_, n_, n_, n_, n_, n_, n_, n_, n_, n_] rfl rfl (by kernel_rfl) (fun _ _ _ h => h) (Or.inl ⟨by rfl, ?_⟩) ?_ ?_
     rotate_left
     ·intro w'
      go_simp
      with_reducible rfl
     rotate_left
     ·simp only [Act.put, sI_, s0_, sS_, i64_w, i32_w]
      rfl
     refine pure_ (i := 11) (N := some 45) (v := ?_) (a' := ?_) #[y_, y_, y_, y_, y_, n_, y_, y_, y_, y_, n_, y_, n_, n_, n_, n_, n_, n_, n_, n_, n_, n_, n_, n_, n_, n_, n_, n_, n_, n_, n_, n_, n_, n_, n_, n_, n_, n_, n_, n_, n_, n_] rfl rfl (by kernel_rfl) (fun _ _ _ h => h) (Or.inl ⟨by rfl, ?_⟩) ?_ ?_
     rotate_left
     ·intro w'
      go_simp
      with_reducible rfl
     rotate_left
     ·simp only [Act.put, sI_, s0_, sS_, i64_w, i32_w]
      rfl
     refine pure_ (i := 13) (N := some 47) (v := ?_) (a' := ?_) #[y_, y_, y_, y_, y_, n_, y_, y_, y_, y_, n_, y_, n_, y_, n_, n_, n_, n_, n_, n_, n_, n_, n_, n_, n_, n_, n_, n_, n_, n_, n_, n_, n_, n_, n_, n_, n_, n_, n_, n_, n_, n_] rfl rfl (by kernel_rfl) (fun _ _ _ h => h) (Or.inl ⟨by rfl, ?_⟩) ?_ ?_
     rotate_left
     ·intro w'
      go_simp
      with_reducible rfl
     rotate_left
     ·simp only [Act.put, sI_, s0_, sS_, i64_w, i32_w]
      rfl
     refine pure_ (i := 18) (N := some 52) (v := ?_) (a' := ?_) #[y_, y_, y_, y_, y_, n_, y_, y_, y_, y_, n_, y_, n_, y_, n_, n_, n_, n_, y_, n_, n_, n_, n_, n_, n_, n_, n_, n_, n_, n_, n_, n_, n_, n_, n_, n_, n_, n_, n_, n_, n_, n_] rfl rfl (by kernel_rfl) (fun _ _ _ h => h) (Or.inl ⟨by rfl, ?_⟩) ?_ ?_
     rotate_left
     ·intro w'
      go_simp
      with_reducible rfl
     rotate_left
     ·simp only [Act.put, sI_, s0_, sS_, i64_w, i32_w]
      rfl
     refine pure_ (i := 19) (N := some 53) (v := ?_) (a' := ?_) #[y_, y_, y_, y_, y_, n_, y_, y_, y_, y_, n_, y_, n_, y_, n_, n_, n_, n_, y_, y_, n_, n_, n_, n_, n_, n_, n_, n_, n_, n_, n_, n_, n_, n_, n_, n_, n_, n_, n_, n_, n_, n_] rfl rfl (by kernel_rfl) (fun _ _ _ h => h) (Or.inl ⟨by rfl, ?_⟩) ?_ ?_
     rotate_left
     ·intro w'
      go_simp
      with_reducible rfl
     rotate_left
     ·simp only [Act.put, sI_, s0_, sS_, i64_w, i32_w]
      rfl
     refine pure_ (i := 20) (N := some 54) (v := ?_) (a' := ?_) #[y_, y_, y_, y_, y_, n_, y_, y_, y_, y_, n_, y_, n_, y_, n_, n_, n_, n_, y_, y_, y_, n_, n_, n_, n_, n_, n_, n_, n_, n_, n_, n_, n_, n_, n_, n_, n_, n_, n_, n_, n_, n_] rfl rfl (by kernel_rfl) (fun _ _ _ h => h) (Or.inl ⟨by rfl, ?_⟩) ?_ ?_
     rotate_left
     ·intro w'
      go_simp
      with_reducible rfl
     rotate_left
     ·simp only [Act.put, sI_, s0_, sS_, i64_w, i32_w]
      rfl
     refine pure_ (i := 21) (N := some 55) (v := ?_) (a' := ?_) #[y_, y_, y_, y_, y_, n_, y_, y_, y_, y_, n_, y_, n_, y_, n_, n_, n_, n_, y_, y_, y_, y_, n_, n_, n_, n_, n_, n_, n_, n_, n_, n_, n_, n_, n_, n_, n_, n_, n_, n_, n_, n_] rfl rfl (by kernel_rfl) (fun _ _ _ h => h) (Or.inl ⟨by rfl, ?_⟩) ?_ ?_
     rotate_left
     ·intro w'
      go_simp
      with_reducible rfl
     rotate_left
     ·simp only [Act.put, sI_, s0_, sS_, i64_w, i32_w]
      rfl
     refine pure_ (i := 22) (N := some 56) (v := ?_) (a' := ?_) #[y_, y_, y_, y_, y_, n_, y_, y_, y_, y_, n_, y_, n_, y_, n_, n_, n_, n_, y_, y_, y_, y_, y_, n_, n_, n_, n_, n_, n_, n_, n_, n_, n_, n_, n_, n_, n_, n_, n_, n_, n_, n_] rfl rfl (by kernel_rfl) (fun _ _ _ h => h) (Or.inl ⟨by rfl, ?_⟩) ?_ ?_
     rotate_left
     ·intro w'
      go_simp
      with_reducible rfl
     rotate_left
     ·simp only [Act.put, sI_, s0_, sS_, i64_w, i32_w]
      rfl
     refine pure_ (i := 26) (N := some 60) (v := ?_) (a' := ?_) #[y_, y_, y_, y_, y_, n_, y_, y_, y_, y_, n_, y_, n_, y_, n_, n_, n_, n_, y_, y_, y_, y_, y_, n_, n_, n_, y_, n_, n_, n_, n_, n_, n_, n_, n_, n_, n_, n_, n_, n_, n_, n_] rfl rfl (by kernel_rfl) (fun _ _ _ h => h) (Or.inl ⟨by rfl, ?_⟩) ?_ ?_
     rotate_left
     ·intro w'
      go_simp
      with_reducible rfl
     rotate_left
     ·simp only [Act.put, sI_, s0_, sS_, i64_w, i32_w]
      rfl
     refine pure_ (i := 27) (N := some 61) (v := ?_) (a' := ?_) #[y_, y_, y_, y_, y_, n_, y_, y_, y_, y_, n_, y_, n_, y_, n_, n_, n_, n_, y_, y_, y_, y_, y_, n_, n_, n_, y_, y_, n_, n_, n_, n_, n_, n_, n_, n_, n_, n_, n_, n_, n_, n_] rfl rfl (by kernel_rfl) (fun _ _ _ h => h) (Or.inl ⟨by rfl, ?_⟩) ?_ ?_
     rotate_left
     ·intro w'
      go_simp
      with_reducible rfl
     rotate_left
     ·simp only [Act.put, sI_, s0_, sS_, i64_w, i32_w]
      rfl
     refine pure_ (i := 28) (N := some 62) (v := ?_) (a' := ?_) #[y_, y_, y_, y_, y_, n_, y_, y_, y_, y_, n_, y_, n_, y_, n_, n_, n_, n_, y_, y_, y_, y_, y_, n_, n_, n_, y_, y_, y_, n_, n_, n_, n_, n_, n_, n_, n_, n_, n_, n_, n_, n_] rfl rfl (by kernel_rfl) (fun _ _ _ h => h) (Or.inl ⟨by rfl, ?_⟩) ?_ ?_
     rotate_left
     ·intro w'
      go_simp
      with_reducible rfl
     rotate_left
     ·simp only [Act.put, sI_, s0_, sS_, i64_w, i32_w]
      rfl
     refine pure_ (i := 29) (N := some 63) (v := ?_) (a' := ?_) #[y_, y_, y_, y_, y_, n_, y_, y_, y_, y_, n_, y_, n_, y_, n_, n_, n_, n_, y_, y_, y_, y_, y_, n_, n_, n_, y_, y_, y_, y_, n_, n_, n_, n_, n_, n_, n_, n_, n_, n_, n_, n_] rfl rfl (by kernel_rfl) (fun _ _ _ h => h) (Or.inl ⟨by rfl, ?_⟩) ?_ ?_
     rotate_left
     ·intro w'
      go_simp
      with_reducible rfl
     rotate_left
     ·simp only [Act.put, sI_, s0_, sS_, i64_w, i32_w]
      rfl
     refine pure_ (i := 31) (N := some 65) (v := ?_) (a' := ?_) #[y_, y_, y_, y_, y_, n_, y_, y_, y_, y_, n_, y_, n_, y_, n_, n_, n_, n_, y_, y_, y_, y_, y_, n_, n_, n_, y_, y_, y_, y_, n_, y_, n_, n_, n_, n_, n_, n_, n_, n_, n_, n_] rfl rfl (by kernel_rfl) (fun _ _ _ h => h) (Or.inl ⟨by rfl, ?_⟩) ?_ ?_
     rotate_left
     ·intro w'
      go_simp
      with_reducible rfl
     rotate_left
     ·simp only [Act.put, sI_, s0_, sS_, i64_w, i32_w]
      rfl
     refine pure_ (i := 32) (N := some 66) (v := ?_) (a' := ?_) #[y_, y_, y_, y_, y_, n_, y_, y_, y_, y_, n_, y_, n_, y_, n_, n_, n_, n_, y_, y_, y_, y_, y_, n_, n_, n_, y_, y_, y_, y_, n_, y_, y_, n_, n_, n_, n_, n_, n_, n_, n_, n_] rfl rfl (by kernel_rfl) (fun _ _ _ h => h) (Or.inl ⟨by rfl, ?_⟩) ?_ ?_
     rotate_left
     ·intro w'
      go_simp
      with_reducible rfl
     rotate_left
     ·simp only [Act.put, sI_, s0_, sS_, i64_w, i32_w]
      rfl
     refine pure_ (i := 33) (N := some 67) (v := ?_) (a' := ?_) #[y_, y_, y_, y_, y_, n_, y_, y_, y_, y_, n_, y_, n_, y_, n_, n_, n_, n_, y_, y_, y_, y_, y_, n_, n_, n_, y_, y_, y_, y_, n_, y_, y_, y_, n_, n_, n_, n_, n_, n_, n_, n_] rfl rfl (by kernel_rfl) (fun _ _ _ h => h) (Or.inl ⟨by rfl, ?_⟩) ?_ ?_
     rotate_left
     ·intro w'
      go_simp
      with_reducible rfl
     rotate_left
     ·simp only [Act.put, sI_, s0_, sS_, i64_w, i32_w]
      rfl
     refine pure_ (i := 34) (N := some 68) (v := ?_) (a' := ?_) #[y_, y_, y_, y_, y_, n_, y_, y_, y_, y_, n_, y_, n_, y_, n_, n_, n_, n_, y_, y_, y_, y_, y_, n_, n_, n_, y_, y_, y_, y_, n_, y_, y_, y_, y_, n_, n_, n_, n_, n_, n_, n_] rfl rfl (by kernel_rfl) (fun _ _ _ h => h) (Or.inl ⟨by rfl, ?_⟩) ?_ ?_
     rotate_left
     ·intro w'
      go_simp
      with_reducible rfl
     rotate_left
     ·simp only [Act.put, sI_, s0_, sS_, i64_w, i32_w]
      rfl
     refine pure_ (i := 35) (N := some 69) (v := ?_) (a' := ?_) #[y_, y_, y_, y_, y_, n_, y_, y_, y_, y_, n_, y_, n_, y_, n_, n_, n_, n_, y_, y_, y_, y_, y_, n_, n_, n_, y_, y_, y_, y_, n_, y_, y_, y_, y_, y_, n_, n_, n_, n_, n_, n_] rfl rfl (by kernel_rfl) (fun _ _ _ h => h) (Or.inl ⟨by rfl, ?_⟩) ?_ ?_
     rotate_left
     ·intro w'
      go_simp
      with_reducible rfl
     rotate_left
     ·simp only [Act.put, sI_, s0_, sS_, i64_w, i32_w]
      rfl
     refine take_ (i := 5) (N := some 39) (v := ?_) (a' := ?_) #[y_, y_, y_, y_, y_, y_, y_, y_, y_, y_, n_, y_, n_, y_, n_, n_, n_, n_, y_, y_, y_, y_, y_, n_, n_, n_, y_, y_, y_, y_, n_, y_, y_, y_, y_, y_, n_, n_, n_, n_, n_, n_] rfl rfl (by kernel_rfl) (fun _ _ _ h => h) (Or.inl ⟨by rfl, ?_⟩) hHeld ?_ ?_
     rotate_left
     ·rintro w' ⟨s0, s1, s2, s3, s4, s5⟩
      go_simp
      with_reducible rfl
     rotate_left
     ·simp only [Act.put, sI_, s0_, sS_, i64_w, i32_w]
      rfl
     refine take_ (i := 10) (N := some 44) (v := ?_) (a' := ?_) #[y_, y_, y_, y_, y_, y_, y_, y_, y_, y_, y_, y_, n_, y_, n_, n_, n_, n_, y_, y_, y_, y_, y_, n_, n_, n_, y_, y_, y_, y_, n_, y_, y_, y_, y_, y_, n_, n_, n_, n_, n_, n_] rfl rfl (by kernel_rfl) (fun _ _ _ h => h) (Or.inl ⟨by rfl, ?_⟩) hHeld ?_ ?_
     rotate_left
     ·rintro w' ⟨s0, s1, s2, s3, s4, s5⟩
      go_simp
      with_reducible rfl
     rotate_left
     ·simp only [Act.put, sI_, s0_, sS_, i64_w, i32_w]
      rfl
     refine take_ (i := 12) (N := some 46) (v := ?_) (a' := ?_) #[y_, y_, y_, y_, y_, y_, y_, y_, y_, y_, y_, y_, y_, y_, n_, n_, n_, n_, y_, y_, y_, y_, y_, n_, n_, n_, y_, y_, y_, y_, n_, y_, y_, y_, y_, y_, n_, n_, n_, n_, n_, n_] rfl rfl (by kernel_rfl) (fun _ _ _ h => h) (Or.inl ⟨by rfl, ?_⟩) hHeld ?_ ?_
     rotate_left
     ·rintro w' ⟨s0, s1, s2, s3, s4, s5⟩
      go_simp
      with_reducible rfl
     rotate_left
     ·simp only [Act.put, sI_, s0_, sS_, i64_w, i32_w]
      rfl
     refine pure_ (i := 14) (N := some 48) (v := ?_) (a' := ?_) #[y_, y_, y_, y_, y_, y_, y_, y_, y_, y_, y_, y_, y_, y_, y_, n_, n_, n_, y_, y_, y_, y_, y_, n_, n_, n_, y_, y_, y_, y_, n_, y_, y_, y_, y_, y_, n_, n_, n_, n_, n_, n_] rfl rfl (by kernel_rfl) (fun _ _ _ h => h) (Or.inl ⟨by rfl, ?_⟩) ?_ ?_
     rotate_left
     ·intro w'
      go_simp
      with_reducible rfl
     rotate_left
     ·simp only [Act.put, sI_, s0_, sS_, i64_w, i32_w]
      rfl
     refine pure_ (i := 15) (N := some 49) (v := ?_) (a' := ?_) #[y_, y_, y_, y_, y_, y_, y_, y_, y_, y_, y_, y_, y_, y_, y_, y_, n_, n_, y_, y_, y_, y_, y_, n_, n_, n_, y_, y_, y_, y_, n_, y_, y_, y_, y_, y_, n_, n_, n_, n_, n_, n_] rfl rfl (by kernel_rfl) (fun _ _ _ h => h) (Or.inl ⟨by rfl, ?_⟩) ?_ ?_
     rotate_left
     ·intro w'
      go_simp
      with_reducible rfl
     rotate_left
     ·simp only [Act.put, sI_, s0_, sS_, i64_w, i32_w]
      rfl
     refine take_ (i := 16) (N := some 50) (v := ?_) (a' := ?_) #[y_, y_, y_, y_, y_, y_, y_, y_, y_, y_, y_, y_, y_, y_, y_, y_, y_, n_, y_, y_, y_, y_, y_, n_, n_, n_, y_, y_, y_, y_, n_, y_, y_, y_, y_, y_, n_, n_, n_, n_, n_, n_] rfl rfl (by kernel_rfl) (fun _ _ _ h => h) (Or.inl ⟨by rfl, ?_⟩) hHeld ?_ ?_
     rotate_left
     ·rintro w' ⟨s0, s1, s2, s3, s4, s5⟩
      go_simp
      with_reducible rfl
     rotate_left
     ·simp only [Act.put, sI_, s0_, sS_, i64_w, i32_w]
      rfl
     refine pure_ (i := 17) (N := some 51) (v := ?_) (a' := ?_) #[y_, y_, y_, y_, y_, y_, y_, y_, y_, y_, y_, y_, y_, y_, y_, y_, y_, y_, y_, y_, y_, y_, y_, n_, n_, n_, y_, y_, y_, y_, n_, y_, y_, y_, y_, y_, n_, n_, n_, n_, n_, n_] rfl rfl (by kernel_rfl) (fun _ _ _ h => h) (Or.inl ⟨by rfl, ?_⟩) ?_ ?_
     rotate_left
     ·intro w'
      go_simp
      with_reducible rfl
     rotate_left
     ·simp only [Act.put, sI_, s0_, sS_, i64_w, i32_w]
      rfl
     refine take_ (i := 23) (N := some 57) (v := ?_) (a' := ?_) #[y_, y_, y_, y_, y_, y_, y_, y_, y_, y_, y_, y_, y_, y_, y_, y_, y_, y_, y_, y_, y_, y_, y_, y_, n_, n_, y_, y_, y_, y_, n_, y_, y_, y_, y_, y_, n_, n_, n_, n_, n_, n_] rfl rfl (by kernel_rfl) (fun _ _ _ h => h) (Or.inl ⟨by rfl, ?_⟩) hHeld ?_ ?_
     rotate_left
     ·rintro w' ⟨s0, s1, s2, s3, s4, s5⟩
      go_simp
      with_reducible rfl
     rotate_left
     ·simp only [Act.put, sI_, s0_, sS_, i64_w, i32_w]
      rfl
     refine pure_ (i := 24) (N := some 58) (v := ?_) (a' := ?_) #[y_, y_, y_, y_, y_, y_, y_, y_, y_, y_, y_, y_, y_, y_, y_, y_, y_, y_, y_, y_, y_, y_, y_, y_, y_, n_, y_, y_, y_, y_, n_, y_, y_, y_, y_, y_, n_, n_, n_, n_, n_, n_] rfl rfl (by kernel_rfl) (fun _ _ _ h => h) (Or.inl ⟨by rfl, ?_⟩) ?_ ?_
     rotate_left
     ·intro w'
      go_simp
      with_reducible rfl
     rotate_left
     ·simp only [Act.put, sI_, s0_, sS_, i64_w, i32_w]
      rfl
     refine pure_ (i := 25) (N := some 59) (v := ?_) (a' := ?_) #[y_, y_, y_, y_, y_, y_, y_, y_, y_, y_, y_, y_, y_, y_, y_, y_, y_, y_, y_, y_, y_, y_, y_, y_, y_, y_, y_, y_, y_, y_, n_, y_, y_, y_, y_, y_, n_, n_, n_, n_, n_, n_] rfl rfl (by kernel_rfl) (fun _ _ _ h => h) (Or.inl ⟨by rfl, ?_⟩) ?_ ?_
     rotate_left
     ·intro w'
      go_simp
      with_reducible rfl
     rotate_left
     ·simp only [Act.put, sI_, s0_, sS_, i64_w, i32_w]
      rfl
     refine take_ (i := 30) (N := some 64) (v := ?_) (a' := ?_) #[y_, y_, y_, y_, y_, y_, y_, y_, y_, y_, y_, y_, y_, y_, y_, y_, y_, y_, y_, y_, y_, y_, y_, y_, y_, y_, y_, y_, y_, y_, y_, y_, y_, y_, y_, y_, n_, n_, n_, n_, n_, n_] rfl rfl (by kernel_rfl) (fun _ _ _ h => h) (Or.inl ⟨by rfl, ?_⟩) hHeld ?_ ?_
     rotate_left
     ·rintro w' ⟨s0, s1, s2, s3, s4, s5⟩
      go_simp
      with_reducible rfl
     rotate_left
     ·simp only [Act.put, sI_, s0_, sS_, i64_w, i32_w]
      rfl
     refine take_ (i := 36) (N := some 70) (v := ?_) (a' := ?_) #[y_, y_, y_, y_, y_, y_, y_, y_, y_, y_, y_, y_, y_, y_, y_, y_, y_, y_, y_, y_, y_, y_, y_, y_, y_, y_, y_, y_, y_, y_, y_, y_, y_, y_, y_, y_, y_, n_, n_, n_, n_, n_] rfl rfl (by kernel_rfl) (fun _ _ _ h => h) (Or.inl ⟨by rfl, ?_⟩) hHeld ?_ ?_
     rotate_left
     ·rintro w' ⟨s0, s1, s2, s3, s4, s5⟩
      go_simp
      with_reducible rfl
     rotate_left
     ·simp only [Act.put, sI_, s0_, sS_, i64_w, i32_w]
      rfl
     refine pure_ (i := 37) (N := some 71) (v := ?_) (a' := ?_) #[y_, y_, y_, y_, y_, y_, y_, y_, y_, y_, y_, y_, y_, y_, y_, y_, y_, y_, y_, y_, y_, y_, y_, y_, y_, y_, y_, y_, y_, y_, y_, y_, y_, y_, y_, y_, y_, y_, n_, n_, n_, n_] rfl rfl (by kernel_rfl) (fun _ _ _ h => h) (Or.inl ⟨by rfl, ?_⟩) ?_ ?_
     rotate_left
     ·intro w'
      go_simp
      with_reducible rfl
     rotate_left
     ·simp only [Act.put, sI_, s0_, sS_, i64_w, i32_w]
      rfl
     refine pure_ (i := 38) (N := some 72) (v := ?_) (a' := ?_) #[y_, y_, y_, y_, y_, y_, y_, y_, y_, y_, y_, y_, y_, y_, y_, y_, y_, y_, y_, y_, y_, y_, y_, y_, y_, y_, y_, y_, y_, y_, y_, y_, y_, y_, y_, y_, y_, y_, y_, n_, n_, n_] rfl rfl (by kernel_rfl) (fun _ _ _ h => h) (Or.inl ⟨by rfl, ?_⟩) ?_ ?_
     rotate_left
     ·intro w'
      go_simp
      with_reducible rfl
     rotate_left
     ·simp only [Act.put, sI_, s0_, sS_, i64_w, i32_w]
      rfl
     refine one_ (i := 39) (N := some 73) #[y_, y_, y_, y_, y_, y_, y_, y_, y_, y_, y_, y_, y_, y_, y_, y_, y_, y_, y_, y_, y_, y_, y_, y_, y_, y_, y_, y_, y_, y_, y_, y_, y_, y_, y_, y_, y_, y_, y_, y_, n_, n_] rfl rfl (by kernel_rfl) (by decide) (fun K hK => ?_)
     refine goes_ Try.func37 (by kernel_rfl) rfl #[.agg #[.int .i64 (rd_T59 rr k).f0, .int .i64 (rd_T59 rr k).f1], .int .i64 (wrap64 (wrap64 ((rd_T59 rr i).f0 - (rd_T44 l i).f2) - wrap64 (totalF S59.f1 bl - (rd_T59 rr k).f1))), .int .i64 (wrap64 ((rd_T59 rr i).f1 - wrap64 (totalF S59.f0 bl - (rd_T59 rr k).f0)))] (by rfl) rfl rfl (by simp only [List.map_toArray, List.map_cons, List.map_nil]; rfl) ?_
     with_reducible refine (flow_interval_cut.calls _ _ _ _ _ _ _ rfl).mono ?_
     rintro e w5 ⟨rfl, hb⟩
     refine ⟨_, rfl, ?_⟩
     have HB5 := Aside0.mk (below_step (below_drew (Below.refl _ _)) hb)
     have HIV5 := Aside0.mk (iv_elem (Kd.R_below HRRS.out HB5.out) k HKK.out.1 HKK.out.2.1)
     have hfz0 := HIV5.out.2.1.1
     have hfz1 := HIV5.out.2.1.2
     have hxz0 := HIV5.out.1.1
     have hxz1 := HIV5.out.1.2
     refine hK.out _ _ ⟨(hb.cell (World.block_lt_of_cell? _ _ hHeld.1)).trans hHeld.1, (hb.cell (World.block_lt_of_cell? _ _ hHeld.2.1)).trans hHeld.2.1, (hb.cell (World.block_lt_of_cell? _ _ hHeld.2.2.1)).trans hHeld.2.2.1, (hb.cell (World.block_lt_of_cell? _ _ hHeld.2.2.2.1)).trans hHeld.2.2.2.1, (hb.cell (World.block_lt_of_cell? _ _ hHeld.2.2.2.2.1)).trans hHeld.2.2.2.2.1, (hb.cell (World.block_lt_of_cell? _ _ hHeld.2.2.2.2.2)).trans hHeld.2.2.2.2.2⟩ (fun hHeld => ?_)
     clear hK K
     refine norm_ (a' := ?_) ?_ ?_
     rotate_left
     ·show Act.put _ (some 73) _ = _
      simp only [Act.put, sI_, s0_, sS_, i64_w, i32_w]
      rfl
     refine pure_ (i := 40) (N := some 74) (v := ?_) (a' := ?_) #[y_, y_, y_, y_, y_, y_, y_, y_, y_, y_, y_, y_, y_, y_, y_, y_, y_, y_, y_, y_, y_, y_, y_, y_, y_, y_, y_, y_, y_, y_, y_, y_, y_, y_, y_, y_, y_, y_, y_, y_, y_, n_] rfl rfl (by kernel_rfl) (fun _ _ _ h => h) (Or.inl ⟨by rfl, ?_⟩) ?_ ?_
     rotate_left
     ·intro w'
      go_simp
      with_reducible rfl
     rotate_left
     ·simp only [Act.put, sI_, s0_, sS_, i64_w, i32_w]
      rfl
     refine last_ (i := 41) (N := none) #[y_, y_, y_, y_, y_, y_, y_, y_, y_, y_, y_, y_, y_, y_, y_, y_, y_, y_, y_, y_, y_, y_, y_, y_, y_, y_, y_, y_, y_, y_, y_, y_, y_, y_, y_, y_, y_, y_, y_, y_, y_, y_] rfl rfl (by kernel_rfl) (by decide) (fun K hK => ?_)
     refine skip_ (w1 := ?_) (by rfl) rfl ?_ ?_
     rotate_left
     ·go_simp
      rfl
     refine hK.out _ _ ?_
     clear hK K
     refine done_ (by kernel_rfl) ?_
     have hP := HIV5.out.2.2 (cutI (rd_T59 rr k) (wrap64 (wrap64 ((rd_T59 rr i).f0 - (rd_T44 l i).f2) - wrap64 (totalF S59.f1 bl - (rd_T59 rr k).f1))) (wrap64 ((rd_T59 rr i).f1 - wrap64 (totalF S59.f0 bl - (rd_T59 rr k).f0))))
     have hgW := grown_trans (grown_of_below HB5.out (some g)) hP.2
     have hown : (Value.slice (some ⟨g, 0, none⟩) l.length c1).ownBlock = some g := by simp [Value.ownBlock]
     obtain ⟨g', cap', e', _, _, cg', hcg'⟩ := Kd.R_form HRRS.out (by have := HI.out; have := HRRL.out; omega)
     injection e' with ea' en' ec'
     injection ea' with ea''
     injection ea'' with eg
     subst eg
     clear en' ec'
     have n2 : some gb ≠ some g := by have := blk_ne HBKS.out hcg' (by decide); simpa using this
     have HF := Aside0.mk (show _ ∧ _ ∧ _ ∧ _ ∧ _ from ⟨blk_grown HBKS.out hgW n2, hP.1, Kd.S_mono (Kd.S_grown (Kd.S_types HSSS.out hcg' (by decide)) hgW (fun k hk e => hk.2 (by cases e; rfl))) (fun _ hk => hk.1),
      (by rw [hown] at HGS; rw [hown]; exact grown_trans HGS.out hgW : w.grownBy _ (Value.slice (some ⟨g, 0, none⟩) l.length c1).ownBlock), Kd.R_mono (Kd.R_grown (Kd.R_types HKRS.out hcg' (by decide)) hgW (fun k hk e => hk.2 (by cases e; rfl))) (fun _ hk => hk.1)⟩)
     clear hgW hP hown n2 hcg'
     have hz1 : x + 1 ≤ 9223372036854775807 := by have := HX.out; have := HKN.out; have := HSZ.out; omega
     have hz2 : -9223372036854775808 ≤ x + 1 := by have := HX.out; omega
     go_wp2
     go_roundg (gk - 1)
     case measure => have := HJ.out; have := HJL.out; omega
     case rel =>
      refine ⟨j + 1, _, ?_, ⟨by have := HJ.out; have := HJL.out; omega⟩, ⟨?_⟩, ⟨HF.out.1⟩, ⟨HF.out.2.1⟩, ⟨HF.out.2.2.1⟩, ⟨HF.out.2.2.2.1⟩, ⟨HF.out.2.2.2.2⟩⟩
      ·have := HX.out
       first | (rw [show ((j + 1 : Nat) : Int) = x + 1 from by omega]; done) | (simp; omega)
      ·rw [foldl_take_succ _ _ _ _ HJL.out, ← HRJ.out, ← HKK.out.2.2]
       rfl
    ·have q1 : decide ((j : Int) < (ks.length : Int)) = false := decide_eq_false (by omega)
     have q1' : decide (j < ks.length) = false := decide_eq_false hj
     have HJL := Aside0.mk (show j = ks.length by have := HJ.out; omega)
     clear hj
     have hz1 : i + 1 ≤ 9223372036854775807 := by have := HI.out; have := HSZ.out; omega
     have hz2 : -9223372036854775808 ≤ i + 1 := by have := HI.out; omega
     go_wp2
     go_roundg (gko - 1)
     case measure => have := HM.out; have := HI.out; have := HGKO.out; omega
     case rel =>
      refine ⟨n + 1, rr, ?_, ⟨by have := HM.out; have := HI.out; have := HGKO.out; omega⟩, ⟨?_⟩, HBKS, HRRS, HSSS, HGS⟩
      ·have := HI.out
       first | (rw [show ((n + 1 : Nat) : Int) = i + 1 from by omega]; done) | (simp; omega)
      ·rw [HRJ.out, HJL.out, List.take_length, foldl_range_succ, ← HRN.out]
       rw [← HI.out.2.2]
       show _ = (rdK kids i).foldl _ r
       rw [← HBL.out, ← HKS.out]
  ·have d1 : decide ((n : Int) < (l.length : Int)) = false := decide_eq_false (by omega)
   have d1' : decide (n < l.length) = false := decide_eq_false hlt
   have HNL := Aside0.mk (show n = l.length by have := HM.out; omega)
   clear hlt
   go_wp2
   refine bodyPost_end (v := .tuple #[]) ?hr ?hd ?hR
   case hd => rfl
   case hr => exact results_none rfl _ _ _
   refine ⟨rfl, ?_, HG.out⟩
   unfold downF
   rw [← HNL.out, ← HRN.out, HNL.out]
   exact HRR.out
end Go.Proofs.Ytmojlpafpeeelaa.P
end
section
namespace Go.Proofs.Ytmojlpafpeeelaa.P
open Go.RowKit Go.Proofs.YtmojlpafpeeelaaW.PrintWords Go.Proofs.YtmojlpafpeeelaaW.PrintLast Go.Proofs.YtmojlpafpeeelaaW.PrintMore
attribute [local go_sem] max2_int min2_int max_two min_two max_three min_three max_four min_four
set_option linter.unusedVariables false
set_option linter.unusedSimpArgs false
def flow_interval_empty.f (a0_0 : Int) (a0_1 : Int) : Option (Bool) := some (decide (a0_0 > a0_1))
set_option maxHeartbeats 8000000 in
set_option maxRecDepth 100000 in
theorem flow_interval_empty.calls (a0_0 : Int) (a0_1 : Int) (r : Bool) (w : World) (h : flow_interval_empty.f a0_0 a0_1 = some r) :
  Calls Try.prog 38 #[.agg #[.int .i64 a0_0, .int .i64 a0_1]] w fun e w' => e = .returned (.bool r) ∧ Below w.heap.size w w' := by
 have hu59 := Try.underlying59
 have HB := Aside0.mk (Below.refl w.heap.size w)
 have H : (some (decide (a0_0 > a0_1))) = some r := h
 clear h
 obtain rfl := Option.some.inj H
 go_enter Try.func38, Try.ntmps38
 go_wp2_with (first | ((with_reducible refine gate_dst (N := 1) rfl ?_); refine box_event ?hg (N := 1) ?hd (cs := #[.int .i64 a0_0, .int .i64 a0_1]) (t := 59) ?hr ?_; (case hd => rfl); (case hg => rfl); (case hr => first | (go_simp; done) | (go_simp; rfl)); intro gb112 hg w2 hbox hb; have n0_ := Aside0.mk (below_step (by repeat (first | (with_reducible first | exact HB.out | apply below_alloc | apply pw_below_drewN | apply below_drew1) | exact HB.out)) hb); have n1_ := Aside0.mk (hbox); have n2_ := Aside0.mk ((by rw [hg]; exact (below_size (by repeat (first | (with_reducible first | exact HB.out | apply below_alloc | apply pw_below_drewN | apply below_drew1) | exact HB.out))) : w.heap.size ≤ gb112)); have n3_ := Aside0.mk ((by rw [hg]; exact (below_size (by repeat (first | (with_reducible first | exact HB.out | apply below_alloc | apply pw_below_drewN | apply below_drew1) | exact HB.out))) : w.heap.size ≤ gb112)); clear HB; have HB := n0_; have BK112 := n1_; have GW112 := n2_; have GE112 := n3_; clear n0_ n1_ n2_ n3_; clear hb hbox hg; have hcz3_0 : w2.cell? ⟨gb112, 0, none⟩ = some (.int .i64 a0_0) := (blk_cell BK112.out 0).trans rfl; have hcz3_1 : w2.cell? ⟨gb112, 1, none⟩ = some (.int .i64 a0_1) := (blk_cell BK112.out 1).trans rfl; have hfz3_0 := blk_frozen BK112.out 0; have hfz3_1 := blk_frozen BK112.out 1))
 go_ret
 exact ⟨by first | rfl | (simp [errW_none, errW_some] <;> rfl) | (simp [*, errW_none, errW_some] <;> rfl), by repeat (first | (with_reducible first | exact HB.out | apply below_alloc | apply pw_below_drewN | apply below_drew1 | refine below_set ?_ GE112.out) | exact HB.out)⟩
end Go.Proofs.Ytmojlpafpeeelaa.P
end
section
namespace Go.Proofs.Ytmojlpafpeeelaa.P
open Go.RowKit Go.Proofs.YtmojlpafpeeelaaW.PrintWords Go.Proofs.YtmojlpafpeeelaaW.PrintLast Go.Proofs.YtmojlpafpeeelaaW.PrintMore
attribute [local go_sem] max2_int min2_int max_two min_two max_three min_three max_four min_four
set_option linter.unusedVariables false
set_option linter.unusedSimpArgs false
open Go.Proofs.YtmojlpafpeeelaaH
def emptyI (r : S59) : Bool := decide (r.f0 > r.f1)
theorem emptyI_f {b : Bool} {r : S59} (h : emptyI r = b) : flow_interval_empty.f r.f0 r.f1 = some b := by
 subst h
 rfl
def idxB59 (p : S59 → Bool) (l : List S59) : Int := match l.findIdx? p with | some i => i | none => -1
theorem idxB59_some (p : S59 → Bool) (l : List S59) (i : Int) (h0 : 0 ≤ i) (h1 : i < l.length) (hp : p (rd_T59 l i) = true) (hb : ∀ j : Nat, j < i.toNat → p (rd_T59 l j) = false) : idxB59 p l = i := by
 have h' : i.toNat < l.length := by omega
 have hf : l.findIdx? p = some i.toNat := by
  rw [List.findIdx?_eq_some_iff_getElem]
  refine ⟨h', ?_, fun j hj => ?_⟩
  ·have := hp
   simpa [rd_T59, List.getD_eq_getElem?_getD, h'] using this
  ·have := hb j hj
   have hj' : j < l.length := by omega
   simpa [rd_T59, List.getD_eq_getElem?_getD, hj'] using this
 unfold idxB59
 rw [hf]
 show ((i.toNat : Nat) : Int) = i
 omega
theorem idxB59_none (p : S59 → Bool) (l : List S59) (hb : ∀ j : Nat, j < l.length → p (rd_T59 l j) = false) : idxB59 p l = -1 := by
 have hf : l.findIdx? p = none := by
  rw [List.findIdx?_eq_none_iff]
  intro x hx
  obtain ⟨j, hj, rfl⟩ := List.mem_iff_getElem.1 hx
  have := hb j hj
  simpa [rd_T59, List.getD_eq_getElem?_getD, hj] using this
 unfold idxB59
 rw [hf]
theorem idxB59_any (p : S59 → Bool) (l : List S59) : decide (idxB59 p l ≥ 0) = l.any p := by
 unfold idxB59
 cases h : l.findIdx? p with
 | none =>
  rw [List.findIdx?_eq_none_iff] at h
  rw [show decide (((match (none : Option Nat) with | some i => (i : Int) | none => (-1 : Int)) : Int) ≥ 0) = false from rfl]
  symm
  rw [List.any_eq_false]
  intro x hx
  simp [h x hx]
 | some i =>
  obtain ⟨h1, h2, _⟩ := List.findIdx?_eq_some_iff_getElem.1 h
  rw [show decide (((match (some i : Option Nat) with | some i => (i : Int) | none => (-1 : Int)) : Int) ≥ 0) = true from decide_eq_true (Int.natCast_nonneg i)]
  symm
  rw [List.any_eq_true]
  exact ⟨_, List.getElem_mem h1, h2⟩
set_option maxHeartbeats 8000000 in
theorem interval_index (A0 : Option Addr) (c0 : Nat) (l0 : List (S59)) (w : World) (hr0 : Kd.C k59 w A0 l0.length l0) (hc0 : l0.length ≤ c0) (hn : l0.length ≤ 140737488355328) :
 Calls Try.prog 51 #[.slice A0 l0.length c0, .func (.func 38) #[] #[]] w fun e w' => e = .returned (.int .i64 (idxB59 emptyI l0)) ∧ Below w.heap.size w w' := by
 have hu59 := Try.underlying59
 have HR0 := Aside0.mk hr0
 have HC0 := Aside0.mk hc0
 have HN := Aside0.mk hn
 clear hr0 hc0 hn
 have HB := Aside0.mk (Below.refl w.heap.size w)
 go_enter Try.func51, Try.ntmps51
 go_wp2
 go_loopg [8] l0.length (fun kq v8 w' => ∃ (i : Int), v8 = .int .i64 i ∧ Aside0 (∀ j : Nat, j < i.toNat → emptyI (rd_T59 l0 j) = false) ∧ Aside0 (0 ≤ i ∧ kq + i.toNat = l0.length) ∧ Aside0 (Below w.heap.size w w'))
 case atStart => exact ⟨0, rfl, ⟨fun j hj => by simp at hj⟩, ⟨by simp⟩, HB⟩
 case round =>
  obtain ⟨i, rfl, HS, HK, HB⟩ := hrel
  by_cases hlt : i < l0.length
  ·have c1 : decide ((i:Int) < (l0.length : Int)) = true := decide_eq_true hlt
   have c2 : (0 ≤ i) = True := eq_true HK.out.1
   have c3 : (i < l0.length) = True := eq_true hlt
   obtain ⟨ad, e, hx0, hx1⟩ := at_T59 HR0.out i HK.out.1 hlt
   cases e
   replace hx0 := (HB.out.cell (World.block_lt_of_cell? w _ hx0)).trans hx0
   replace hx1 := (HB.out.cell (World.block_lt_of_cell? w _ hx1)).trans hx1
   have HL := Aside0.mk hlt
   clear hlt
   have hw1 : i + 1 ≤ 9223372036854775807 := by have := HN.out; have := HL.out; omega
   have hw2 : 0 ≤ i + 1 := by have := HK.out; omega
   cases hp : emptyI (rd_T59 l0 i) with
   | true =>
    have HP := Aside0.mk hp
    clear hp
    go_wp2_with (first | ((with_reducible refine (flow_interval_empty.calls (rd_T59 l0 i).f0 (rd_T59 l0 i).f1 _ _ (emptyI_f HP.out)).mono ?_); rintro e w1 ⟨rfl, hb⟩; have HB1 := Aside0.mk hb; clear hb))
    go_ret
    refine ⟨?_, HB.out.trans (HB1.out.mono HB.out.size)⟩
    rw [idxB59_some _ _ i HK.out.1 HL.out HP.out HS.out]
    first | rfl | (simp; done)
   | false =>
    have HP := Aside0.mk hp
    clear hp
    go_wp2_with (first | ((with_reducible refine (flow_interval_empty.calls (rd_T59 l0 i).f0 (rd_T59 l0 i).f1 _ _ (emptyI_f HP.out)).mono ?_); rintro e w1 ⟨rfl, hb⟩; have HB1 := Aside0.mk hb; clear hb))
    go_roundg (gk - 1)
    case measure => have := HK.out; have := HL.out; omega
    case rel =>
     refine ⟨i + 1, ?_, ⟨fun j hj => ?_⟩, ⟨by have := HK.out; have := HL.out; omega⟩, ⟨HB.out.trans (HB1.out.mono HB.out.size)⟩⟩
     ·first | rfl | (simp; done)
     ·by_cases hji : j < i.toNat
      ·exact HS.out j hji
      ·have : (j : Int) = i := by have := HK.out; omega
       rw [this]
       exact HP.out
  ·have c1 : decide ((i:Int) < (l0.length : Int)) = false := decide_eq_false hlt
   have HL := Aside0.mk hlt
   clear hlt
   go_wp2
   go_ret
   refine ⟨?_, HB.out⟩
   rw [idxB59_none _ _ (fun j hj => HS.out j (by have := HK.out; have := HL.out; omega))]
   first | rfl | (simp; done)
set_option maxHeartbeats 8000000 in
theorem interval_contains (A0 : Option Addr) (c0 : Nat) (l0 : List (S59)) (w : World) (hr0 : Kd.C k59 w A0 l0.length l0) (hc0 : l0.length ≤ c0) (hn : l0.length ≤ 140737488355328) :
 Calls Try.prog 45 #[.slice A0 l0.length c0, .func (.func 38) #[] #[]] w fun e w' => e = .returned (.bool (l0.any emptyI)) ∧ Below w.heap.size w w' := by
 have HR0 := Aside0.mk hr0
 clear hr0
 go_enter Try.func45, Try.ntmps45
 go_wp2_with (first | ((with_reducible refine (interval_index _ _ l0 _ HR0.out hc0 hn).mono ?_); rintro e w1 ⟨rfl, hb⟩; have HB1 := Aside0.mk hb; clear hb))
 go_ret
 refine ⟨?_, HB1.out⟩
 rw [← idxB59_any]
 first | rfl | (simp; done)
theorem u76 : Try.prog.underlying 76 = some (.array 2 75) := by kernel_rfl
theorem ix0 (n1 n2 : FuncId) (a1 a2 : Array Value) (w : World) : (Instr.index 76 (.agg #[.func (.func n1) a1 #[], .func (.func n2) a2 #[]]) (.int .i64 0)).run Try.prog w = .ok (.func (.func n1) a1 #[]) w := by
 simp [Instr.index, run_underlying u76, asIntOf, go_sem]
theorem ix1 (n1 n2 : FuncId) (a1 a2 : Array Value) (w : World) : (Instr.index 76 (.agg #[.func (.func n1) a1 #[], .func (.func n2) a2 #[]]) (.int .i64 1)).run Try.prog w = .ok (.func (.func n2) a2 #[]) w := by
 simp [Instr.index, run_underlying u76, asIntOf, go_sem]
attribute [local go_sem] ix0 ix1
def boundsF (l : List S44) (kids : List (List Int)) (r : List S59) : Bool × List S59 :=
 if (upF l kids r).any emptyI then (false, upF l kids r) else
 if (downF l kids (upF l kids r)).any emptyI then (false, downF l kids (upF l kids r)) else (true, downF l kids (upF l kids r))
theorem upF_len (l : List S44) (kids : List (List Int)) (r : List S59) : (upF l kids r).length = r.length := upFold_len _ _ _ _
theorem downF_len (l : List S44) (kids : List (List Int)) (r : List S59) : (downF l kids r).length = r.length := downFold_len _ _ _ _
theorem boundsF_len (l : List S44) (kids : List (List Int)) (r : List S59) : (boundsF l kids r).2.length = r.length := by
 unfold boundsF
 (repeat' split) <;> simp [upF_len, downF_len]
set_option maxRecDepth 100000 in
set_option maxHeartbeats 8000000 in
theorem bounds_calls (w0 w : World) (A0 : Option Addr) (c0 : Nat) (l : List S44) (A2 : Option Addr) (c2 : Nat) (kids : List (List Int)) (A1 : Option Addr) (c1 : Nat) (xs : List S59)
  (hB : Below w0.heap.size w0 w) (hr0 : Kd.C k44 w0 A0 l.length l) (hc0 : l.length ≤ c0) (hsz : l.length ≤ 5864062014805)
  (hk : Kd.S (Kd.slice 3 (Kd.int .i64)) 24 w w0.heap.size (fun _ => True) (.slice A2 l.length c2) kids) (hkids : KidsOk kids l.length)
  (hr : Kd.R k59 59 w w0.heap.size (fun _ => True) (.slice A1 l.length c1) xs) (hxl : xs.length = l.length) :
  Calls Try.prog 28 #[.agg #[.slice A0 l.length c0, .slice A2 l.length c2], .slice A1 l.length c1] w fun e w' => e = .returned (.bool (boundsF l kids xs).1) ∧
   Kd.R k59 59 w' w0.heap.size (fun _ => True) (.slice A1 l.length c1) (boundsF l kids xs).2 ∧ w.grownBy w' (Value.slice A1 l.length c1).ownBlock := by
 have hu52 := Try.underlying52
 have HBW0 := Aside0.mk hB
 have HR0 := Aside0.mk hr0
 have HSZ := Aside0.mk hsz
 have HC0 := Aside0.mk hc0
 have HK := Aside0.mk hk
 have HKO := Aside0.mk hkids
 have HR := Aside0.mk hr
 have HXL := Aside0.mk hxl
 clear hB hr0 hsz hk hkids hr hxl hc0
 have HGO := Aside0.mk (show ∀ k, (Value.slice A1 l.length c1).ownBlock = some k → w0.heap.size ≤ k from fun k hk => by obtain ⟨inner, ho⟩ := Kd.R_own HR.out; exact own_base ho k hk)
 have HB := Aside0.mk (Below.refl w.heap.size w)
 go_enter Try.func28, Try.ntmps28
 go_wp2_with (first | ((with_reducible refine gate_dst (N := 2) rfl ?_); refine box_event ?hg (N := 2) ?hd (cs := #[.slice A0 l.length c0, .slice A2 l.length c2]) (t := 52) ?hr ?_; (case hd => rfl); (case hg => rfl); (case hr => first | (go_simp; done) | (go_simp; rfl)); intro gb hg wb hbox hb; have n0_ := Aside0.mk (below_step HB.out hb); have BK := Aside0.mk hbox; have GW := Aside0.mk ((by rw [hg]; exact (below_size HB.out)) : w.heap.size ≤ gb); clear HB; have HB := n0_; clear n0_; clear hb hbox hg; have hcz0 : wb.cell? ⟨gb, 0, none⟩ = some (.slice A0 l.length c0) := (blk_cell BK.out 0).trans rfl; have hcz1 : wb.cell? ⟨gb, 1, none⟩ = some (.slice A2 l.length c2) := (blk_cell BK.out 1).trans rfl))
 go_loopg [12] 3 (fun kq v12 wr => (Aside0 (Kd.S (Kd.slice 3 (Kd.int .i64)) 24 wr w0.heap.size (fun _ => True) (.slice A2 l.length c2) kids) ∧ Aside0 (w.grownBy wr (Value.slice A1 l.length c1).ownBlock)) ∧
  ((v12 = .int .i64 0 ∧ Aside0 (kq = 3) ∧ Aside0 (Kd.R k59 59 wr w0.heap.size (fun _ => True) (.slice A1 l.length c1) xs)) ∨
   (v12 = .int .i64 1 ∧ Aside0 (kq = 2) ∧ Aside0 (Kd.R k59 59 wr w0.heap.size (fun _ => True) (.slice A1 l.length c1) (upF l kids xs)) ∧ Aside0 ((upF l kids xs).any emptyI = false)) ∨
   (v12 = .int .i64 2 ∧ Aside0 (kq = 1) ∧ Aside0 (Kd.R k59 59 wr w0.heap.size (fun _ => True) (.slice A1 l.length c1) (downF l kids (upF l kids xs))) ∧ Aside0 ((upF l kids xs).any emptyI = false) ∧ Aside0 ((downF l kids (upF l kids xs)).any emptyI = false))))
 case atStart => exact ⟨⟨⟨Kd.S_below HK.out HB.out⟩, ⟨grown_of_below HB.out _⟩⟩, .inl ⟨rfl, ⟨rfl⟩, ⟨Kd.R_below HR.out HB.out⟩⟩⟩
 case round =>
  clear hcz0 hcz1 BK HB
  obtain ⟨⟨HSS, HG⟩, ⟨rfl, HM, HRR⟩ | ⟨rfl, HM, HRR, HU⟩ | ⟨rfl, HM, HRR, HU, HD⟩⟩ := hrel
  ·have HBW := Aside0.mk (grown_below HBW0.out HG.out HGO.out)
   cases hany : (upF l kids xs).any emptyI with
   | true =>
    have HA := Aside0.mk hany
    clear hany
    go_wp2_with (first | (go_at_call 43; (with_reducible refine (up_calls w0 _ A0 c0 l A2 c2 kids A1 c1 xs HBW.out HR0.out HC0.out HSZ.out HSS.out HKO.out HRR.out (by first | exact HXL.out | (rw [upF_len]; exact HXL.out))).mono ?_); rintro e w1 ⟨rfl, hr1, hg⟩; have HR1 := Aside0.mk (show Kd.R k59 59 w1 w0.heap.size (fun _ => True) (.slice A1 l.length c1) (upF l kids xs) from hr1); have HG1 := Aside0.mk hg; have HS1 := Aside0.mk (show Kd.S (Kd.slice 3 (Kd.int .i64)) 24 w1 w0.heap.size (fun _ => True) (.slice A2 l.length c2) kids from Kd.S_mono (Kd.S_grown (Kd.S_apart' HSS.out (Kd.R_typed HRR.out) (by decide)) hg (fun _ hk => hk.2)) (fun _ hk => hk.1)); clear hr1 hg) | (go_at_call 45; (with_reducible refine (show Calls _ _ #[.slice A1 l.length c1, .func (.func 38) #[] #[]] _ _ from (Kd.R_reads' HR1.out).1 ▸ interval_contains A1 c1 (upF l kids xs) _ (Kd.R_reads' HR1.out).2.2 ((Kd.R_reads' HR1.out).1 ▸ (Kd.R_reads' HR1.out).2.1) (by have h1 := (Kd.R_reads' HR1.out).1; have := HSZ.out; omega)).mono ?_); rw [HA.out]; rintro e w2 ⟨rfl, hb⟩; have HB2 := Aside0.mk hb; clear hb))
    go_ret
    have e1 : boundsF l kids xs = (false, upF l kids xs) := by unfold boundsF; rw [if_pos HA.out]
    rw [e1]
    exact ⟨rfl, Kd.R_below HR1.out HB2.out, grown_then (grown_trans HG.out HG1.out) HB2.out⟩
   | false =>
    have HA := Aside0.mk hany
    clear hany
    go_wp2_with (first | (go_at_call 43; (with_reducible refine (up_calls w0 _ A0 c0 l A2 c2 kids A1 c1 xs HBW.out HR0.out HC0.out HSZ.out HSS.out HKO.out HRR.out (by first | exact HXL.out | (rw [upF_len]; exact HXL.out))).mono ?_); rintro e w1 ⟨rfl, hr1, hg⟩; have HR1 := Aside0.mk (show Kd.R k59 59 w1 w0.heap.size (fun _ => True) (.slice A1 l.length c1) (upF l kids xs) from hr1); have HG1 := Aside0.mk hg; have HS1 := Aside0.mk (show Kd.S (Kd.slice 3 (Kd.int .i64)) 24 w1 w0.heap.size (fun _ => True) (.slice A2 l.length c2) kids from Kd.S_mono (Kd.S_grown (Kd.S_apart' HSS.out (Kd.R_typed HRR.out) (by decide)) hg (fun _ hk => hk.2)) (fun _ hk => hk.1)); clear hr1 hg) | (go_at_call 45; (with_reducible refine (show Calls _ _ #[.slice A1 l.length c1, .func (.func 38) #[] #[]] _ _ from (Kd.R_reads' HR1.out).1 ▸ interval_contains A1 c1 (upF l kids xs) _ (Kd.R_reads' HR1.out).2.2 ((Kd.R_reads' HR1.out).1 ▸ (Kd.R_reads' HR1.out).2.1) (by have h1 := (Kd.R_reads' HR1.out).1; have := HSZ.out; omega)).mono ?_); rw [HA.out]; rintro e w2 ⟨rfl, hb⟩; have HB2 := Aside0.mk hb; clear hb))
    go_roundg (gk - 1)
    case measure => have := HM.out; omega
    case rel => exact ⟨⟨⟨Kd.S_below HS1.out HB2.out⟩, ⟨grown_then (grown_trans HG.out HG1.out) HB2.out⟩⟩, .inr (.inl ⟨rfl, ⟨by have := HM.out; omega⟩, ⟨Kd.R_below HR1.out HB2.out⟩, HA⟩)⟩
  ·have HBW := Aside0.mk (grown_below HBW0.out HG.out HGO.out)
   cases hany : (downF l kids (upF l kids xs)).any emptyI with
   | true =>
    have HA := Aside0.mk hany
    clear hany
    go_wp2_with (first | (go_at_call 44; (with_reducible refine (down_calls w0 _ A0 c0 l A2 c2 kids A1 c1 (upF l kids xs) HBW.out HR0.out HC0.out HSZ.out HSS.out HKO.out HRR.out (by first | exact HXL.out | (rw [upF_len]; exact HXL.out))).mono ?_); rintro e w1 ⟨rfl, hr1, hg⟩; have HR1 := Aside0.mk (show Kd.R k59 59 w1 w0.heap.size (fun _ => True) (.slice A1 l.length c1) (downF l kids (upF l kids xs)) from hr1); have HG1 := Aside0.mk hg; have HS1 := Aside0.mk (show Kd.S (Kd.slice 3 (Kd.int .i64)) 24 w1 w0.heap.size (fun _ => True) (.slice A2 l.length c2) kids from Kd.S_mono (Kd.S_grown (Kd.S_apart' HSS.out (Kd.R_typed HRR.out) (by decide)) hg (fun _ hk => hk.2)) (fun _ hk => hk.1)); clear hr1 hg) | (go_at_call 45; (with_reducible refine (show Calls _ _ #[.slice A1 l.length c1, .func (.func 38) #[] #[]] _ _ from (Kd.R_reads' HR1.out).1 ▸ interval_contains A1 c1 (downF l kids (upF l kids xs)) _ (Kd.R_reads' HR1.out).2.2 ((Kd.R_reads' HR1.out).1 ▸ (Kd.R_reads' HR1.out).2.1) (by have h1 := (Kd.R_reads' HR1.out).1; have := HSZ.out; omega)).mono ?_); rw [HA.out]; rintro e w2 ⟨rfl, hb⟩; have HB2 := Aside0.mk hb; clear hb))
    go_ret
    have e1 : boundsF l kids xs = (false, downF l kids (upF l kids xs)) := by unfold boundsF; rw [if_neg (by rw [HU.out]; decide), if_pos HA.out]
    rw [e1]
    exact ⟨rfl, Kd.R_below HR1.out HB2.out, grown_then (grown_trans HG.out HG1.out) HB2.out⟩
   | false =>
    have HA := Aside0.mk hany
    clear hany
    go_wp2_with (first | (go_at_call 44; (with_reducible refine (down_calls w0 _ A0 c0 l A2 c2 kids A1 c1 (upF l kids xs) HBW.out HR0.out HC0.out HSZ.out HSS.out HKO.out HRR.out (by first | exact HXL.out | (rw [upF_len]; exact HXL.out))).mono ?_); rintro e w1 ⟨rfl, hr1, hg⟩; have HR1 := Aside0.mk (show Kd.R k59 59 w1 w0.heap.size (fun _ => True) (.slice A1 l.length c1) (downF l kids (upF l kids xs)) from hr1); have HG1 := Aside0.mk hg; have HS1 := Aside0.mk (show Kd.S (Kd.slice 3 (Kd.int .i64)) 24 w1 w0.heap.size (fun _ => True) (.slice A2 l.length c2) kids from Kd.S_mono (Kd.S_grown (Kd.S_apart' HSS.out (Kd.R_typed HRR.out) (by decide)) hg (fun _ hk => hk.2)) (fun _ hk => hk.1)); clear hr1 hg) | (go_at_call 45; (with_reducible refine (show Calls _ _ #[.slice A1 l.length c1, .func (.func 38) #[] #[]] _ _ from (Kd.R_reads' HR1.out).1 ▸ interval_contains A1 c1 (downF l kids (upF l kids xs)) _ (Kd.R_reads' HR1.out).2.2 ((Kd.R_reads' HR1.out).1 ▸ (Kd.R_reads' HR1.out).2.1) (by have h1 := (Kd.R_reads' HR1.out).1; have := HSZ.out; omega)).mono ?_); rw [HA.out]; rintro e w2 ⟨rfl, hb⟩; have HB2 := Aside0.mk hb; clear hb))
    go_roundg (gk - 1)
    case measure => have := HM.out; omega
    case rel => exact ⟨⟨⟨Kd.S_below HS1.out HB2.out⟩, ⟨grown_then (grown_trans HG.out HG1.out) HB2.out⟩⟩, .inr (.inr ⟨rfl, ⟨by have := HM.out; omega⟩, ⟨Kd.R_below HR1.out HB2.out⟩, HU, HA⟩)⟩
  ·go_wp2
   go_ret
   have e1 : boundsF l kids xs = (true, downF l kids (upF l kids xs)) := by unfold boundsF; rw [if_neg (by rw [HU.out]; decide), if_neg (by rw [HD.out]; decide)]
   rw [e1]
   exact ⟨rfl, HRR.out, HG.out⟩
end Go.Proofs.Ytmojlpafpeeelaa.P
end
section
namespace Go.Proofs.Ytmojlpafpeeelaa.P
open Go.RowKit Go.Proofs.YtmojlpafpeeelaaW.PrintWords Go.Proofs.YtmojlpafpeeelaaW.PrintLast Go.Proofs.YtmojlpafpeeelaaW.PrintMore
attribute [local go_sem] max2_int min2_int max_two min_two max_three min_three max_four min_four
set_option linter.unusedVariables false
set_option linter.unusedSimpArgs false
open Go.Proofs.YtmojlpafpeeelaaH
theorem openL_len (l : List S44) : ∀ (k : Nat) (kids : List (List Int)) (m : Int → Option Int) (i : Int) (r : List (List Int)), openL l k kids m i = some r → r.length = kids.length := by
 intro k
 induction k with
 | zero => intro kids m i r h; simp only [openL, Option.some.injEq] at h; rw [h]
 | succ k ih =>
  intro kids m i r h
  simp only [openL] at h
  split at h
  ·cases h
  ·rw [ih _ _ _ _ h, addKid_len]
theorem openK_len {l : List S44} {kids : List (List Int)} (h : openK l = some kids) : kids.length = l.length := by
 have := openL_len l _ _ _ _ _ h
 rw [this, List.length_replicate]
theorem addKid_rd {kids : List (List Int)} {a : Option Int} {i : Int} (j : Int) : rdK (addKid kids a i) j = rdK kids j ∨ rdK (addKid kids a i) j = rdK kids j ++ [i] := by
 cases a with
 | none => exact .inl rfl
 | some av =>
  simp only [addKid, rdK, List.getD_eq_getElem?_getD]
  rw [List.getElem?_set]
  split
  ·rename_i h
   split
   ·exact .inr (by rw [h]; rfl)
   ·rename_i h2
    exact .inl (by rw [← h, List.getElem?_eq_none (by omega)])
  ·exact .inl rfl
theorem openL_ok (l : List S44) (n : Nat) : ∀ (k : Nat) (kids : List (List Int)) (m : Int → Option Int) (i : Int) (r : List (List Int)), openL l k kids m i = some r → 0 ≤ i → i + k = n →
  (∀ j, (rdK kids j).length ≤ i.toNat ∧ ∀ x ∈ rdK kids j, 0 ≤ x ∧ x < i) → ∀ j, (rdK r j).length ≤ n ∧ ∀ x ∈ rdK r j, 0 ≤ x ∧ x < n := by
 intro k
 induction k with
 | zero =>
  intro kids m i r h h0 hn hk j
  simp only [openL, Option.some.injEq] at h
  subst h
  have := hk j
  exact ⟨by omega, fun x hx => by have := this.2 x hx; omega⟩
 | succ k ih =>
  intro kids m i r h h0 hn hk
  simp only [openL] at h
  split at h
  ·cases h
  ·refine ih _ _ _ _ h (by omega) (by omega) (fun j => ?_)
   have h1 := hk j
   rcases addKid_rd (kids := kids) (a := m (rd_T44 l i).f1) (i := i) j with e | e
   ·rw [e]
    exact ⟨by omega, fun x hx => by have := h1.2 x hx; omega⟩
   ·rw [e]
    refine ⟨by rw [List.length_append]; simp; omega, fun x hx => ?_⟩
    rcases List.mem_append.1 hx with hx | hx
    ·have := h1.2 x hx; omega
    ·rw [List.mem_singleton] at hx; omega
theorem openK_ok {l : List S44} {kids : List (List Int)} (h : openK l = some kids) : KidsOk kids l.length := by
 refine ⟨openK_len h, openL_ok l l.length _ _ _ _ _ h (by omega) (by omega) (fun j => ?_)⟩
 have : rdK (List.replicate l.length []) j = [] := by
  simp only [rdK, List.getD_eq_getElem?_getD, List.getElem?_replicate]
  split <;> rfl
 rw [this]
 exact ⟨by simp, by simp⟩
theorem open_none (A0 : Option Addr) (c0 : Nat) (l0 : List (S44)) (w : World) (hr0 : Kd.C k44 w A0 l0.length l0) (hc0 : l0.length ≤ c0) (hsz : l0.length ≤ 5864062014805) (h : openK l0 = none) :
  Calls Try.prog 25 #[.slice A0 l0.length c0] w fun e w' => e = .returned (.tuple #[.agg #[.slice none 0 0, .slice none 0 0], .bool false]) ∧ Below w.heap.size w w' := by
 refine (open_calls A0 c0 l0 w hr0 hc0 hsz).mono ?_
 rintro e w' ⟨hb, ⟨_, he⟩ | ⟨kids, v, hk, _⟩⟩
 ·exact ⟨he, hb⟩
 ·rw [h] at hk
  cases hk
theorem open_some (A0 : Option Addr) (c0 : Nat) (l0 : List (S44)) (w : World) (hr0 : Kd.C k44 w A0 l0.length l0) (hc0 : l0.length ≤ c0) (hsz : l0.length ≤ 5864062014805) {kids : List (List Int)} (h : openK l0 = some kids) :
  Calls Try.prog 25 #[.slice A0 l0.length c0] w fun e w' => ∃ A2 c2, e = .returned (.tuple #[.agg #[.slice A0 l0.length c0, .slice A2 l0.length c2], .bool (decide (l0.length ≤ 200))]) ∧ Kd.S (Kd.slice 3 (Kd.int .i64)) 24 w' w.heap.size (fun _ => True) (.slice A2 l0.length c2) kids ∧ Below w.heap.size w w' := by
 refine (open_calls A0 c0 l0 w hr0 hc0 hsz).mono ?_
 rintro e w' ⟨hb, ⟨hn, _⟩ | ⟨kids', v, hk, he, hS⟩⟩
 ·rw [h] at hn
  cases hn
 ·rw [h] at hk
  injection hk with hk
  subst hk
  obtain ⟨A2, c2, rfl⟩ := Kd.S_slice hS
  rw [openK_len h] at he hS
  rw [show decide ((l0.length : Int) ≤ 200) = decide (l0.length ≤ 200) from decide_eq_decide.2 (by omega)] at he
  exact ⟨A2, c2, he, hS, hb⟩
def flow_Valid.f (l0 : List S44) : Option Bool := if l0.length ≤ 5864062014805 then some ((openK l0).isSome && decide (l0.length ≤ 200)) else none
set_option maxHeartbeats 8000000 in
set_option maxRecDepth 100000 in
theorem flow_Valid.calls (A0 : Option Addr) (c0 : Nat) (l0 : List (S44)) (r : Bool) (w : World) (hr0 : Kd.C k44 w A0 l0.length l0) (hc0 : l0.length ≤ c0) (h : flow_Valid.f l0 = some r) :
  Calls Try.prog 13 #[.slice A0 l0.length c0] w fun e w' => e = .returned (.bool r) ∧ Below w.heap.size w w' := by
 have hu52 := Try.underlying52
 unfold flow_Valid.f at h
 by_cases hsz : l0.length ≤ 5864062014805
 case neg =>
  rw [if_neg hsz] at h
  cases h
 rw [if_pos hsz] at h
 injection h with h
 have HSZ := Aside0.mk hsz
 have HR0 := Aside0.mk hr0
 have HC0 := Aside0.mk hc0
 clear hsz hr0 hc0
 have HB := Aside0.mk (Below.refl w.heap.size w)
 cases ho : openK l0 with
 | none =>
  rw [ho] at h
  subst h
  have HO := Aside0.mk ho
  clear ho
  go_enter Try.func13, Try.ntmps13
  go_wp2_with (first | (go_at_call 25; (with_reducible refine (open_none A0 c0 l0 _ HR0.out HC0.out HSZ.out HO.out).mono ?_); rintro e w1 ⟨rfl, hb⟩; have n0_ := Aside0.mk (below_step HB.out hb); clear HB hb; have HB := n0_; clear n0_) | ((with_reducible refine gate_dst (N := 3) rfl ?_); refine box_event ?hg (N := 3) ?hd (cs := #[.slice none 0 0, .slice none 0 0]) (t := 52) ?hr ?_; (case hd => rfl); (case hg => rfl); (case hr => first | (go_simp; done) | (go_simp; rfl)); intro gn hgn w3 hbn hb3; have hcn0 : w3.cell? ⟨gn, 0, none⟩ = some (.slice none 0 0) := (blk_cell hbn 0).trans rfl; have hcn1 : w3.cell? ⟨gn, 1, none⟩ = some (.slice none 0 0) := (blk_cell hbn 1).trans rfl; have hfn0 := blk_frozen hbn 0; have hfn1 := blk_frozen hbn 1; have BN := Aside0.mk hbn; have n0_ := Aside0.mk (below_step HB.out hb3); have GN := Aside0.mk (show w.heap.size ≤ gn by rw [hgn]; exact below_size HB.out); have GE := Aside0.mk hgn; (try have HK := Aside0.mk (Kd.S_below HK.out hb3)); clear HB hbn hb3 hgn; have HB := n0_; clear n0_) | ((with_reducible refine gate_store (t := 52) (p := 3) (v := .tmp 8) rfl ?_); refine store_event rfl (t := 52) (p := 3) (v := .tmp 8) rfl rfl (by first | (go_simp; done) | (go_simp; rfl)) ?_; intro w4 hw4; have BN4 := Aside0.mk (show w4.heap[gn]? = some (.cells #[.slice none 0 0, .slice none 0 0] 52 (0, 0)) by rw [hw4]; exact blk_put (blk_put BN.out 0 _ rfl) 1 _ rfl); have n0_ := Aside0.mk (show Below w.heap.size w w4 by rw [hw4]; exact below_set (below_set HB.out GN.out) GN.out); clear hw4 BN HB hcn0 hcn1 hfn0 hfn1; have HB := n0_; clear n0_; have hcn0 : w4.cell? ⟨gn, 0, none⟩ = some (.slice none 0 0) := (blk_cell BN4.out 0).trans rfl; have hcn1 : w4.cell? ⟨gn, 1, none⟩ = some (.slice none 0 0) := (blk_cell BN4.out 1).trans rfl))
  go_ret
  exact ⟨rfl, HB.out⟩
 | some kids =>
  rw [ho] at h
  subst h
  have HO := Aside0.mk ho
  clear ho
  go_enter Try.func13, Try.ntmps13
  go_wp2_with (first | (go_at_call 25; (with_reducible refine (open_some A0 c0 l0 _ HR0.out HC0.out HSZ.out HO.out).mono ?_); rintro e w1 ⟨A2, c2, rfl, hS, hb⟩; have n0_ := Aside0.mk (below_step HB.out hb); have HK := Aside0.mk hS; clear HB hb hS; have HB := n0_; clear n0_) | ((with_reducible refine gate_dst (N := 3) rfl ?_); refine box_event ?hg (N := 3) ?hd (cs := #[.slice none 0 0, .slice none 0 0]) (t := 52) ?hr ?_; (case hd => rfl); (case hg => rfl); (case hr => first | (go_simp; done) | (go_simp; rfl)); intro gn hgn w3 hbn hb3; have hcn0 : w3.cell? ⟨gn, 0, none⟩ = some (.slice none 0 0) := (blk_cell hbn 0).trans rfl; have hcn1 : w3.cell? ⟨gn, 1, none⟩ = some (.slice none 0 0) := (blk_cell hbn 1).trans rfl; have hfn0 := blk_frozen hbn 0; have hfn1 := blk_frozen hbn 1; have BN := Aside0.mk hbn; have n0_ := Aside0.mk (below_step HB.out hb3); have GN := Aside0.mk (show w.heap.size ≤ gn by rw [hgn]; exact below_size HB.out); have GE := Aside0.mk hgn; (try have HK := Aside0.mk (Kd.S_below HK.out hb3)); clear HB hbn hb3 hgn; have HB := n0_; clear n0_) | ((with_reducible refine gate_store (t := 52) (p := 3) (v := .tmp 8) rfl ?_); refine store_event rfl (t := 52) (p := 3) (v := .tmp 8) rfl rfl (by first | (go_simp; done) | (go_simp; rfl)) ?_; intro w4 hw4; have BN4 := Aside0.mk (show w4.heap[gn]? = some (.cells #[.slice A0 l0.length c0, .slice A2 l0.length c2] 52 (0, 0)) by rw [hw4]; exact blk_put (blk_put BN.out 0 _ rfl) 1 _ rfl); have n0_ := Aside0.mk (show Below w.heap.size w w4 by rw [hw4]; exact below_set (below_set HB.out GN.out) GN.out); have HK := Aside0.mk (show Kd.S (Kd.slice 3 (Kd.int .i64)) 24 w4 w.heap.size (fun _ => True) (.slice A2 l0.length c2) kids by rw [hw4]; have ht := Kd.S_far (p := ⟨gn, 0, none⟩) (Kd.S_types HK.out BN.out (by decide)) (fun _ hk => hk.2) (.slice A0 l0.length c0); exact Kd.S_mono (Kd.S_far (p := ⟨gn, 1, none⟩) ht (fun _ hk => hk.2) (.slice A2 l0.length c2)) (fun _ hk => hk.1)); clear hw4 BN HB hcn0 hcn1 hfn0 hfn1; have HB := n0_; clear n0_; have hcn0 : w4.cell? ⟨gn, 0, none⟩ = some (.slice A0 l0.length c0) := (blk_cell BN4.out 0).trans rfl; have hcn1 : w4.cell? ⟨gn, 1, none⟩ = some (.slice A2 l0.length c2) := (blk_cell BN4.out 1).trans rfl))
  go_ret
  refine ⟨?_, HB.out⟩
  first | rfl | (simp; done)
end Go.Proofs.Ytmojlpafpeeelaa.P
end
section
namespace Go.Proofs.Ytmojlpafpeeelaa.P
open Go.RowKit Go.Proofs.YtmojlpafpeeelaaW.PrintWords Go.Proofs.YtmojlpafpeeelaaW.PrintLast Go.Proofs.YtmojlpafpeeelaaW.PrintMore
attribute [local go_sem] max2_int min2_int max_two min_two max_three min_three max_four min_four
set_option linter.unusedVariables false
set_option linter.unusedSimpArgs false
def flow_network_belongs_1.f (a0_0 : Int) (a0_1 : Int) : Option (Bool) := (flow_isVolume.f a0_0).bind fun t114 => (if t114 = true then ((flow_isVolume.f a0_1).bind fun t115 => (if t115 = true then (some (decide (a0_0 > a0_1))) else (some true))) else (some true))
set_option maxHeartbeats 8000000 in
set_option maxRecDepth 100000 in
theorem flow_network_belongs_1.calls (a0_0 : Int) (a0_1 : Int) (r : Bool) (w : World) (h : flow_network_belongs_1.f a0_0 a0_1 = some r) :
  Calls Try.prog 41 #[.agg #[.int .i64 a0_0, .int .i64 a0_1]] w fun e w' => e = .returned (.bool r) ∧ Below w.heap.size w w' := by
 have hu39 := Try.underlying39
 have HB := Aside0.mk (Below.refl w.heap.size w)
 have H : ((flow_isVolume.f a0_0).bind fun t114 => (if t114 = true then ((flow_isVolume.f a0_1).bind fun t115 => (if t115 = true then (some (decide (a0_0 > a0_1))) else (some true))) else (some true))) = some r := h
 clear h
 replace H := Option.bind_eq_some_iff.mp H
 obtain ⟨t114, A20, H⟩ := H
 replace H : (if t114 = true then ((flow_isVolume.f a0_1).bind fun t115 => (if t115 = true then (some (decide (a0_0 > a0_1))) else (some true))) else (some true)) = some r := H
 have A2 := Aside0.mk A20
 clear A20
 by_cases c3 : t114 = true
 ·subst c3
  have H1 : ((flow_isVolume.f a0_1).bind fun t115 => (if t115 = true then (some (decide (a0_0 > a0_1))) else (some true))) = some r := by rw [if_pos rfl] at H; exact H
  clear H
  have H := H1
  clear H1
  replace H := Option.bind_eq_some_iff.mp H
  obtain ⟨t115, A40, H⟩ := H
  replace H : (if t115 = true then (some (decide (a0_0 > a0_1))) else (some true)) = some r := H
  have A4 := Aside0.mk A40
  clear A40
  by_cases c5 : t115 = true
  ·subst c5
   have H1 : (some (decide (a0_0 > a0_1))) = some r := by rw [if_pos rfl] at H; exact H
   clear H
   have H := H1
   clear H1
   obtain rfl := Option.some.inj H
   go_enter Try.func41, Try.ntmps41
   go_wp2_with (first | ((with_reducible refine gate_dst (N := 1) rfl ?_); refine box_event ?hg (N := 1) ?hd (cs := #[.int .i64 a0_0, .int .i64 a0_1]) (t := 39) ?hr ?_; (case hd => rfl); (case hg => rfl); (case hr => first | (go_simp; done) | (go_simp; rfl)); intro gb113 hg w6 hbox hb; have n0_ := Aside0.mk (below_step (by repeat (first | (with_reducible first | exact HB.out | apply below_alloc | apply pw_below_drewN | apply below_drew1) | exact HB.out)) hb); have n1_ := Aside0.mk (hbox); have n2_ := Aside0.mk ((by rw [hg]; exact (below_size (by repeat (first | (with_reducible first | exact HB.out | apply below_alloc | apply pw_below_drewN | apply below_drew1) | exact HB.out))) : w.heap.size ≤ gb113)); have n3_ := Aside0.mk ((by rw [hg]; exact (below_size (by repeat (first | (with_reducible first | exact HB.out | apply below_alloc | apply pw_below_drewN | apply below_drew1) | exact HB.out))) : w.heap.size ≤ gb113)); clear HB; have HB := n0_; have BK113 := n1_; have GW113 := n2_; have GE113 := n3_; clear n0_ n1_ n2_ n3_; clear hb hbox hg; have hcz7_0 : w6.cell? ⟨gb113, 0, none⟩ = some (.int .i64 a0_0) := (blk_cell BK113.out 0).trans rfl; have hcz7_1 : w6.cell? ⟨gb113, 1, none⟩ = some (.int .i64 a0_1) := (blk_cell BK113.out 1).trans rfl; have hfz7_0 := blk_frozen BK113.out 0; have hfz7_1 := blk_frozen BK113.out 1) | ((with_reducible refine gate_callee (f := 40) rfl ?_); refine goesL_ (some 5) rfl rfl Try.func40 (by kernel_rfl) rfl #[.int .i64 a0_0] rfl (by (try simp only [List.map_toArray, List.map_cons, List.map_nil]); first | done | rfl | (simp only [List.length_drop, List.length_take]; rfl)) ?_; (with_reducible refine (flow_isVolume.calls a0_0 true _ A2.out).mono ?_); rintro e w' ⟨rfl, ⟨nd, rfl⟩⟩; refine ⟨_, rfl, ?_⟩) | (go_at_call 40; (with_reducible refine (flow_isVolume.calls a0_1 true _ A4.out).mono ?_); rintro e w' ⟨rfl, ⟨nd, rfl⟩⟩))
   go_ret
   exact ⟨by first | rfl | (simp [errW_none, errW_some] <;> rfl) | (simp [*, errW_none, errW_some] <;> rfl), by repeat (first | (with_reducible first | exact HB.out | apply below_alloc | apply pw_below_drewN | apply below_drew1 | refine below_set ?_ GE113.out) | exact HB.out)⟩
  ·replace c5 := Bool.eq_false_iff.mpr c5
   subst c5
   have H1 : (some true) = some r := by rw [if_neg (show ¬ (false = true) by decide)] at H; exact H
   clear H
   have H := H1
   clear H1
   obtain rfl := Option.some.inj H
   go_enter Try.func41, Try.ntmps41
   go_wp2_with (first | ((with_reducible refine gate_dst (N := 1) rfl ?_); refine box_event ?hg (N := 1) ?hd (cs := #[.int .i64 a0_0, .int .i64 a0_1]) (t := 39) ?hr ?_; (case hd => rfl); (case hg => rfl); (case hr => first | (go_simp; done) | (go_simp; rfl)); intro gb113 hg w8 hbox hb; have n0_ := Aside0.mk (below_step (by repeat (first | (with_reducible first | exact HB.out | apply below_alloc | apply pw_below_drewN | apply below_drew1) | exact HB.out)) hb); have n1_ := Aside0.mk (hbox); have n2_ := Aside0.mk ((by rw [hg]; exact (below_size (by repeat (first | (with_reducible first | exact HB.out | apply below_alloc | apply pw_below_drewN | apply below_drew1) | exact HB.out))) : w.heap.size ≤ gb113)); have n3_ := Aside0.mk ((by rw [hg]; exact (below_size (by repeat (first | (with_reducible first | exact HB.out | apply below_alloc | apply pw_below_drewN | apply below_drew1) | exact HB.out))) : w.heap.size ≤ gb113)); clear HB; have HB := n0_; have BK113 := n1_; have GW113 := n2_; have GE113 := n3_; clear n0_ n1_ n2_ n3_; clear hb hbox hg; have hcz9_0 : w8.cell? ⟨gb113, 0, none⟩ = some (.int .i64 a0_0) := (blk_cell BK113.out 0).trans rfl; have hcz9_1 : w8.cell? ⟨gb113, 1, none⟩ = some (.int .i64 a0_1) := (blk_cell BK113.out 1).trans rfl; have hfz9_0 := blk_frozen BK113.out 0; have hfz9_1 := blk_frozen BK113.out 1) | ((with_reducible refine gate_callee (f := 40) rfl ?_); refine goesL_ (some 5) rfl rfl Try.func40 (by kernel_rfl) rfl #[.int .i64 a0_0] rfl (by (try simp only [List.map_toArray, List.map_cons, List.map_nil]); first | done | rfl | (simp only [List.length_drop, List.length_take]; rfl)) ?_; (with_reducible refine (flow_isVolume.calls a0_0 true _ A2.out).mono ?_); rintro e w' ⟨rfl, ⟨nd, rfl⟩⟩; refine ⟨_, rfl, ?_⟩) | (go_at_call 40; (with_reducible refine (flow_isVolume.calls a0_1 false _ A4.out).mono ?_); rintro e w' ⟨rfl, ⟨nd, rfl⟩⟩))
   go_ret
   exact ⟨by first | rfl | (simp [errW_none, errW_some] <;> rfl) | (simp [*, errW_none, errW_some] <;> rfl), by repeat (first | (with_reducible first | exact HB.out | apply below_alloc | apply pw_below_drewN | apply below_drew1 | refine below_set ?_ GE113.out) | exact HB.out)⟩
 ·replace c3 := Bool.eq_false_iff.mpr c3
  subst c3
  have H1 : (some true) = some r := by rw [if_neg (show ¬ (false = true) by decide)] at H; exact H
  clear H
  have H := H1
  clear H1
  obtain rfl := Option.some.inj H
  go_enter Try.func41, Try.ntmps41
  go_wp2_with (first | ((with_reducible refine gate_dst (N := 1) rfl ?_); refine box_event ?hg (N := 1) ?hd (cs := #[.int .i64 a0_0, .int .i64 a0_1]) (t := 39) ?hr ?_; (case hd => rfl); (case hg => rfl); (case hr => first | (go_simp; done) | (go_simp; rfl)); intro gb113 hg w10 hbox hb; have n0_ := Aside0.mk (below_step (by repeat (first | (with_reducible first | exact HB.out | apply below_alloc | apply pw_below_drewN | apply below_drew1) | exact HB.out)) hb); have n1_ := Aside0.mk (hbox); have n2_ := Aside0.mk ((by rw [hg]; exact (below_size (by repeat (first | (with_reducible first | exact HB.out | apply below_alloc | apply pw_below_drewN | apply below_drew1) | exact HB.out))) : w.heap.size ≤ gb113)); have n3_ := Aside0.mk ((by rw [hg]; exact (below_size (by repeat (first | (with_reducible first | exact HB.out | apply below_alloc | apply pw_below_drewN | apply below_drew1) | exact HB.out))) : w.heap.size ≤ gb113)); clear HB; have HB := n0_; have BK113 := n1_; have GW113 := n2_; have GE113 := n3_; clear n0_ n1_ n2_ n3_; clear hb hbox hg; have hcz11_0 : w10.cell? ⟨gb113, 0, none⟩ = some (.int .i64 a0_0) := (blk_cell BK113.out 0).trans rfl; have hcz11_1 : w10.cell? ⟨gb113, 1, none⟩ = some (.int .i64 a0_1) := (blk_cell BK113.out 1).trans rfl; have hfz11_0 := blk_frozen BK113.out 0; have hfz11_1 := blk_frozen BK113.out 1) | ((with_reducible refine gate_callee (f := 40) rfl ?_); refine goesL_ (some 5) rfl rfl Try.func40 (by kernel_rfl) rfl #[.int .i64 a0_0] rfl (by (try simp only [List.map_toArray, List.map_cons, List.map_nil]); first | done | rfl | (simp only [List.length_drop, List.length_take]; rfl)) ?_; (with_reducible refine (flow_isVolume.calls a0_0 false _ A2.out).mono ?_); rintro e w' ⟨rfl, ⟨nd, rfl⟩⟩; refine ⟨_, rfl, ?_⟩))
  go_ret
  exact ⟨by first | rfl | (simp [errW_none, errW_some] <;> rfl) | (simp [*, errW_none, errW_some] <;> rfl), by repeat (first | (with_reducible first | exact HB.out | apply below_alloc | apply pw_below_drewN | apply below_drew1 | refine below_set ?_ GE113.out) | exact HB.out)⟩
end Go.Proofs.Ytmojlpafpeeelaa.P
end
section
namespace Go.Proofs.Ytmojlpafpeeelaa.P
open Go.RowKit Go.Proofs.YtmojlpafpeeelaaW.PrintWords Go.Proofs.YtmojlpafpeeelaaW.PrintLast Go.Proofs.YtmojlpafpeeelaaW.PrintMore
attribute [local go_sem] max2_int min2_int max_two min_two max_three min_three max_four min_four
set_option linter.unusedVariables false
set_option linter.unusedSimpArgs false
def oddR (r : S39) : Bool := decide (¬ (0 ≤ r.f0 ∧ r.f0 ≤ 1000000000 ∧ 0 ≤ r.f1 ∧ r.f1 ≤ 1000000000 ∧ r.f0 ≤ r.f1))
theorem isVolume_f (n : Int) : flow_isVolume.f n = some (decide (0 ≤ n ∧ n ≤ 1000000000)) := by
 unfold flow_isVolume.f
 (repeat' split) <;> simp_all <;> omega
theorem oddR_f {b : Bool} {r : S39} (h : oddR r = b) : flow_network_belongs_1.f r.f0 r.f1 = some b := by
 subst h
 unfold flow_network_belongs_1.f oddR
 simp only [isVolume_f, Option.bind_some, decide_eq_true_eq]
 (repeat' split) <;> simp_all <;> omega
def belongsB (n : Nat) (known : List S39) : Bool := decide (known.length = n) && !(known.any oddR)
def idxB39 (p : S39 → Bool) (l : List S39) : Int := match l.findIdx? p with | some i => i | none => -1
theorem idxB39_some (p : S39 → Bool) (l : List S39) (i : Int) (h0 : 0 ≤ i) (h1 : i < l.length) (hp : p (rd_T39 l i) = true) (hb : ∀ j : Nat, j < i.toNat → p (rd_T39 l j) = false) : idxB39 p l = i := by
 have h' : i.toNat < l.length := by omega
 have hf : l.findIdx? p = some i.toNat := by
  rw [List.findIdx?_eq_some_iff_getElem]
  refine ⟨h', ?_, fun j hj => ?_⟩
  ·have := hp
   simpa [rd_T39, List.getD_eq_getElem?_getD, h'] using this
  ·have := hb j hj
   have hj' : j < l.length := by omega
   simpa [rd_T39, List.getD_eq_getElem?_getD, hj'] using this
 unfold idxB39
 rw [hf]
 show ((i.toNat : Nat) : Int) = i
 omega
theorem idxB39_none (p : S39 → Bool) (l : List S39) (hb : ∀ j : Nat, j < l.length → p (rd_T39 l j) = false) : idxB39 p l = -1 := by
 have hf : l.findIdx? p = none := by
  rw [List.findIdx?_eq_none_iff]
  intro x hx
  obtain ⟨j, hj, rfl⟩ := List.mem_iff_getElem.1 hx
  have := hb j hj
  simpa [rd_T39, List.getD_eq_getElem?_getD, hj] using this
 unfold idxB39
 rw [hf]
theorem idxB39_any (p : S39 → Bool) (l : List S39) : decide (idxB39 p l ≥ 0) = l.any p := by
 unfold idxB39
 cases h : l.findIdx? p with
 | none =>
  rw [List.findIdx?_eq_none_iff] at h
  rw [show decide (((match (none : Option Nat) with | some i => (i : Int) | none => (-1 : Int)) : Int) ≥ 0) = false from rfl]
  symm
  rw [List.any_eq_false]
  intro x hx
  simp [h x hx]
 | some i =>
  obtain ⟨h1, h2, _⟩ := List.findIdx?_eq_some_iff_getElem.1 h
  rw [show decide (((match (some i : Option Nat) with | some i => (i : Int) | none => (-1 : Int)) : Int) ≥ 0) = true from decide_eq_true (Int.natCast_nonneg i)]
  symm
  rw [List.any_eq_true]
  exact ⟨_, List.getElem_mem h1, h2⟩
set_option maxHeartbeats 8000000 in
theorem range_index (A0 : Option Addr) (c0 : Nat) (l0 : List (S39)) (w : World) (hr0 : Kd.C k39 w A0 l0.length l0) (hc0 : l0.length ≤ c0) (hn : l0.length ≤ 140737488355328) :
 Calls Try.prog 48 #[.slice A0 l0.length c0, .func (.func 41) #[] #[]] w fun e w' => e = .returned (.int .i64 (idxB39 oddR l0)) ∧ Below w.heap.size w w' := by
 have hu39 := Try.underlying39
 have HR0 := Aside0.mk hr0
 have HC0 := Aside0.mk hc0
 have HN := Aside0.mk hn
 clear hr0 hc0 hn
 have HB := Aside0.mk (Below.refl w.heap.size w)
 go_enter Try.func48, Try.ntmps48
 go_wp2
 go_loopg [8] l0.length (fun kq v8 w' => ∃ (i : Int), v8 = .int .i64 i ∧ Aside0 (∀ j : Nat, j < i.toNat → oddR (rd_T39 l0 j) = false) ∧ Aside0 (0 ≤ i ∧ kq + i.toNat = l0.length) ∧ Aside0 (Below w.heap.size w w'))
 case atStart => exact ⟨0, rfl, ⟨fun j hj => by simp at hj⟩, ⟨by simp⟩, HB⟩
 case round =>
  obtain ⟨i, rfl, HS, HK, HB⟩ := hrel
  by_cases hlt : i < l0.length
  ·have c1 : decide ((i:Int) < (l0.length : Int)) = true := decide_eq_true hlt
   have c2 : (0 ≤ i) = True := eq_true HK.out.1
   have c3 : (i < l0.length) = True := eq_true hlt
   obtain ⟨ad, e, hx0, hx1⟩ := at_T39 HR0.out i HK.out.1 hlt
   cases e
   replace hx0 := (HB.out.cell (World.block_lt_of_cell? w _ hx0)).trans hx0
   replace hx1 := (HB.out.cell (World.block_lt_of_cell? w _ hx1)).trans hx1
   have HL := Aside0.mk hlt
   clear hlt
   have hw1 : i + 1 ≤ 9223372036854775807 := by have := HN.out; have := HL.out; omega
   have hw2 : 0 ≤ i + 1 := by have := HK.out; omega
   cases hp : oddR (rd_T39 l0 i) with
   | true =>
    have HP := Aside0.mk hp
    clear hp
    go_wp2_with (first | ((with_reducible refine (flow_network_belongs_1.calls (rd_T39 l0 i).f0 (rd_T39 l0 i).f1 _ _ (oddR_f HP.out)).mono ?_); rintro e w1 ⟨rfl, hb⟩; have HB1 := Aside0.mk hb; clear hb))
    go_ret
    refine ⟨?_, HB.out.trans (HB1.out.mono HB.out.size)⟩
    rw [idxB39_some _ _ i HK.out.1 HL.out HP.out HS.out]
    first | rfl | (simp; done)
   | false =>
    have HP := Aside0.mk hp
    clear hp
    go_wp2_with (first | ((with_reducible refine (flow_network_belongs_1.calls (rd_T39 l0 i).f0 (rd_T39 l0 i).f1 _ _ (oddR_f HP.out)).mono ?_); rintro e w1 ⟨rfl, hb⟩; have HB1 := Aside0.mk hb; clear hb))
    go_roundg (gk - 1)
    case measure => have := HK.out; have := HL.out; omega
    case rel =>
     refine ⟨i + 1, ?_, ⟨fun j hj => ?_⟩, ⟨by have := HK.out; have := HL.out; omega⟩, ⟨HB.out.trans (HB1.out.mono HB.out.size)⟩⟩
     ·first | rfl | (simp; done)
     ·by_cases hji : j < i.toNat
      ·exact HS.out j hji
      ·have : (j : Int) = i := by have := HK.out; omega
       rw [this]
       exact HP.out
  ·have c1 : decide ((i:Int) < (l0.length : Int)) = false := decide_eq_false hlt
   have HL := Aside0.mk hlt
   clear hlt
   go_wp2
   go_ret
   refine ⟨?_, HB.out⟩
   rw [idxB39_none _ _ (fun j hj => HS.out j (by have := HK.out; have := HL.out; omega))]
   first | rfl | (simp; done)
set_option maxHeartbeats 8000000 in
theorem range_contains (A0 : Option Addr) (c0 : Nat) (l0 : List (S39)) (w : World) (hr0 : Kd.C k39 w A0 l0.length l0) (hc0 : l0.length ≤ c0) (hn : l0.length ≤ 140737488355328) :
 Calls Try.prog 42 #[.slice A0 l0.length c0, .func (.func 41) #[] #[]] w fun e w' => e = .returned (.bool (l0.any oddR)) ∧ Below w.heap.size w w' := by
 have HR0 := Aside0.mk hr0
 clear hr0
 go_enter Try.func42, Try.ntmps42
 go_wp2_with (first | ((with_reducible refine (range_index _ _ l0 _ HR0.out hc0 hn).mono ?_); rintro e w1 ⟨rfl, hb⟩; have HB1 := Aside0.mk hb; clear hb))
 go_ret
 refine ⟨?_, HB1.out⟩
 rw [← idxB39_any]
 first | rfl | (simp; done)
set_option maxHeartbeats 8000000 in
theorem belongs_calls (A0 : Option Addr) (n0 c0 : Nat) (A2 : Option Addr) (n2 c2 : Nat) (A1 : Option Addr) (c1 : Nat) (l1 : List S39) (w : World)
  (hr1 : Kd.C k39 w A1 l1.length l1) (hc1 : l1.length ≤ c1) (hn : l1.length ≤ 140737488355328) (hn0 : n0 ≤ 140737488355328) :
  Calls Try.prog 26 #[.agg #[.slice A0 n0 c0, .slice A2 n2 c2], .slice A1 l1.length c1] w fun e w' => e = .returned (.bool (belongsB n0 l1)) ∧ Below w.heap.size w w' := by
 have hu52 := Try.underlying52
 have HB := Aside0.mk (Below.refl w.heap.size w)
 have HR := Aside0.mk hr1
 have HN := Aside0.mk (And.intro hc1 (And.intro hn hn0))
 clear hr1 hc1 hn hn0
 by_cases he : l1.length = n0
 ·have HE := Aside0.mk he
  have e1 : decide (l1.length = n0) = true := decide_eq_true he
  have e2 : ((l1.length : Int) == (n0 : Int)) = true := beq_iff_eq.2 (by omega)
  clear he
  go_enter Try.func26, Try.ntmps26
  go_wp2_with (first | ((with_reducible refine gate_dst (N := 2) rfl ?_); refine box_event ?hg (N := 2) ?hd (cs := #[.slice A0 n0 c0, .slice A2 n2 c2]) (t := 52) ?hr ?_; (case hd => rfl); (case hg => rfl); (case hr => first | (go_simp; done) | (go_simp; rfl)); intro gb hg wb hbox hb; have n0_ := Aside0.mk (below_step HB.out hb); have BK := Aside0.mk hbox; have GW := Aside0.mk ((by rw [hg]; exact (below_size HB.out)) : w.heap.size ≤ gb); clear HB; have HB := n0_; clear n0_; clear hb hbox hg; have hcz0 : wb.cell? ⟨gb, 0, none⟩ = some (.slice A0 n0 c0) := (blk_cell BK.out 0).trans rfl; have hcz1 : wb.cell? ⟨gb, 1, none⟩ = some (.slice A2 n2 c2) := (blk_cell BK.out 1).trans rfl) | (go_at_call 42; (with_reducible refine (range_contains A1 c1 l1 _ (Kd.C_below HR.out HB.out) HN.out.1 HN.out.2.1).mono ?_); rintro e w2 ⟨rfl, hb⟩; have HB2 := Aside0.mk (below_step HB.out hb); clear hb))
  go_ret
  refine ⟨?_, HB2.out⟩
  simp [belongsB, HE.out]
 ·have HE := Aside0.mk he
  have e1 : decide (l1.length = n0) = false := decide_eq_false he
  have e2 : ((l1.length : Int) == (n0 : Int)) = false := beq_eq_false_iff_ne.2 (by omega)
  clear he
  go_enter Try.func26, Try.ntmps26
  go_wp2_with (first | ((with_reducible refine gate_dst (N := 2) rfl ?_); refine box_event ?hg (N := 2) ?hd (cs := #[.slice A0 n0 c0, .slice A2 n2 c2]) (t := 52) ?hr ?_; (case hd => rfl); (case hg => rfl); (case hr => first | (go_simp; done) | (go_simp; rfl)); intro gb hg wb hbox hb; have n0_ := Aside0.mk (below_step HB.out hb); have BK := Aside0.mk hbox; have GW := Aside0.mk ((by rw [hg]; exact (below_size HB.out)) : w.heap.size ≤ gb); clear HB; have HB := n0_; clear n0_; clear hb hbox hg; have hcz0 : wb.cell? ⟨gb, 0, none⟩ = some (.slice A0 n0 c0) := (blk_cell BK.out 0).trans rfl; have hcz1 : wb.cell? ⟨gb, 1, none⟩ = some (.slice A2 n2 c2) := (blk_cell BK.out 1).trans rfl))
  go_ret
  refine ⟨?_, HB.out⟩
  simp [belongsB, HE.out]
end Go.Proofs.Ytmojlpafpeeelaa.P
end
section
namespace Go.Proofs.Ytmojlpafpeeelaa.P
open Go.RowKit Go.Proofs.YtmojlpafpeeelaaW.PrintWords Go.Proofs.YtmojlpafpeeelaaW.PrintLast Go.Proofs.YtmojlpafpeeelaaW.PrintMore
attribute [local go_sem] max2_int min2_int max_two min_two max_three min_three max_four min_four
set_option linter.unusedVariables false
set_option linter.unusedSimpArgs false
def flow_intervals.l0 : Nat → List (S39) → List (S59) → Int → Int → Option ((List (S59)))
 | 0, _, _, _, _ => none
 | k + 1, x0, x3, x9, x10 => if x10 < x9 then (if 0 ≤ x10 then (if x10 < (x0.length : Int) then (if x10 < (x3.length : Int) then (flow_intervals.l0 k x0 (x3.set (x10 : Int).toNat (⟨(rd_T39 x0 x10).f0, (rd_T39 x0 x10).f1⟩ : S59)) x9 (wrap64 (x10 + 1))) else (none)) else (none)) else (none)) else (some x3)
def flow_intervals.f (k : Nat) (l0 : List (S39)) : Option ((List (S59))) := if 0 ≤ (l0.length : Int) then (if ((l0.length : Int) : Int).toNat ≤ 17592186044416 then (flow_intervals.l0 k l0 (List.replicate ((l0.length : Int) : Int).toNat z59) (l0.length : Int) 0) else (none)) else (none)
theorem flow_intervals.mono_l : ∀ k, (∀ y0 y1 y2 y3, LeO (flow_intervals.l0 k y0 y1 y2 y3) (flow_intervals.l0 (k + 1) y0 y1 y2 y3))
 | 0 => fun _ _ _ _ r h => by simp [flow_intervals.l0] at h
 | k + 1 => by
  have ih0 := flow_intervals.mono_l k
  ·intro y0 y1 y2 y3
   unfold flow_intervals.l0
   repeat' first
   | (with_reducible exact ih0 _ _ _ _)
   | (with_reducible exact LeO.refl _)
   | (with_reducible exact LeO.none _)
   | (with_reducible refine LeO.ite ?_ ?_)
   | (with_reducible refine LeO.bind ?_ (fun _ => ?_))
   | exact ih0 _ _ _ _
   | exact LeO.none _
   | refine LeO.ite ?_ ?_
   | refine LeO.bind ?_ (fun _ => ?_)
theorem flow_intervals.mono : ∀ a0 k, LeO (flow_intervals.f k a0) (flow_intervals.f (k + 1) a0) := by
 intro a0 k
 have ih0 := flow_intervals.mono_l k
 unfold flow_intervals.f
 repeat' first
   | (with_reducible exact ih0 _ _ _ _)
   | (with_reducible exact LeO.refl _)
   | (with_reducible exact LeO.none _)
   | (with_reducible refine LeO.ite ?_ ?_)
   | (with_reducible refine LeO.bind ?_ (fun _ => ?_))
   | exact ih0 _ _ _ _
   | exact LeO.none _
   | refine LeO.ite ?_ ?_
   | refine LeO.bind ?_ (fun _ => ?_)
set_option maxHeartbeats 8000000 in
set_option maxRecDepth 100000 in
theorem flow_intervals.calls (k : Nat) (A0 : Option Addr) (c0 : Nat) (l0 : List (S39)) (r : List (S59)) (w : World) (hr0 : Kd.C k39 w A0 l0.length l0) (hc0 : l0.length ≤ c0) (h : flow_intervals.f k l0 = some r) :
  Calls Try.prog 27 #[.slice A0 l0.length c0] w fun e w' => ∃ v0_ : Value, e = .returned (v0_) ∧ Kd.R k59 59 w' w.heap.size (fun _ => True) v0_ r ∧ Below w.heap.size w w' := by
 have hu39 := Try.underlying39
 have hu59 := Try.underlying59
 have HR0 := Aside0.mk hr0
 have HC0 := Aside0.mk hc0
 clear hr0 hc0
 have HB := Aside0.mk (Below.refl w.heap.size w)
 have H : (if 0 ≤ (l0.length : Int) then (if ((l0.length : Int) : Int).toNat ≤ 17592186044416 then (flow_intervals.l0 k l0 (List.replicate ((l0.length : Int) : Int).toNat z59) (l0.length : Int) 0) else (none)) else (none)) = some r := h
 clear h
 by_cases c2 : 0 ≤ (l0.length : Int)
 ·rw [if_pos c2] at H
  have c2b0 := eq_true c2
  have c2b1 : decide (0 ≤ (l0.length : Int)) = true := decide_eq_true c2
  clear c2
  by_cases c3 : ((l0.length : Int) : Int).toNat ≤ 17592186044416
  ·rw [if_pos c3] at H
   have c3b0 := eq_true c3
   have c3b1 : decide (((l0.length : Int) : Int).toNat ≤ 17592186044416) = true := decide_eq_true c3
   clear c3
   obtain ⟨y116, hy116⟩ : ∃ y_ : List (S59), y_ = (List.replicate ((l0.length : Int) : Int).toNat z59) := ⟨_, rfl⟩
   replace H : (flow_intervals.l0 k l0 y116 (l0.length : Int) 0) = some r := by first | (rw [hy116]; with_reducible exact H) | (have H2_ := (Option.bind_some _ _).symm.trans H; rw [hy116]; with_reducible exact H2_) | (have H2_ := (Option.bind_some _ _).symm.trans H; with_reducible exact H2_) | with_reducible exact H | (rw [hy116]; exact H) | exact H
   have Ny116 := Aside0.mk hy116
   clear hy116
   have H' := Aside0.mk H
   clear H
   go_enter Try.func27, Try.ntmps27
   go_wp2_with (first | ((with_reducible refine gate_dst (N := 7) rfl ?_); refine Kd.R_make k59 _ 59 rfl (N := 7) rfl 56 _ _ rfl (l0.length : Int) rfl rfl Try.underlying56 (.agg #[(.int .i64 0), (.int .i64 0)]) 16 info59 rfl (by decide) (by omega) z59 (ok := fun _ => True) (okp := fun _ => True) (k59_mkM _ _ _ z59 ) (fun _ hk => hk) trivial (of_decide_eq_true (by first | (with_reducible assumption) | assumption)) (Nat.le_trans (Nat.mul_le_mul_right _ (of_decide_eq_true (by first | (with_reducible assumption) | assumption) : (l0.length : Int).toNat ≤ 17592186044416)) (by omega)) (Below.refl _ _) (Nat.le_refl _) ?_; intro v117 w4 ho5 hb hg_ hnew_; clear hg_ hnew_; (first | rw [← Ny116.out] at ho5 | (simp only [Int.reduceToNat] at ho5; rw [← Ny116.out] at ho5)); have n0_ := Aside0.mk (Kd.R_lower ho5 (below_size (by repeat (first | (with_reducible first | exact HB.out | apply below_alloc | apply pw_below_drewN | apply below_drew1) | exact HB.out)))); have n1_ := Aside0.mk (below_step (by repeat (first | (with_reducible first | exact HB.out | apply below_alloc | apply pw_below_drewN | apply below_drew1) | exact HB.out)) hb); clear HB; have HO118 := n0_; have HB := n1_; clear n0_ n1_; clear hb ho5))
   go_loopg [10] k (fun kq v10 w' => ∃ (x3_1 : List (S59)) (x10_1 : Int), v10 = .int .i64 x10_1 ∧ Aside0 (flow_intervals.l0 kq l0 x3_1 (l0.length : Int) x10_1 = some r) ∧ Aside0 (kq ≤ k) ∧ Aside0 (Kd.R k59 59 w' w.heap.size (fun _ => True) v117 x3_1) ∧ Aside0 (Below w.heap.size w w'))
   case atStart => exact ⟨(y116), (0), (by first | rfl | (simp; done) | (simp [*]; done)), H', ⟨Nat.le_refl _⟩, ⟨by (with_reducible repeat (first | apply Kd.R_alloc | apply Kd.R_drewN | apply Kd.R_drew)); exact HO118.out⟩, ⟨by repeat (first | (with_reducible first | exact HB.out | apply below_alloc | apply pw_below_drewN | apply below_drew1) | exact HB.out)⟩⟩
   case round =>
    clear H'
    try clear c2
    try clear c2b0
    try clear c2b1
    try clear p2
    try clear c3
    try clear c3b0
    try clear c3b1
    obtain ⟨x3_1, x10_1, rfl, HA, HK1, HO_3, HB⟩ := hrel
    cases gk with
    | zero => exact absurd HA.out (by simp [flow_intervals.l0])
    | succ k1 =>
     have H := HA.out
     clear HA
     simp only [flow_intervals.l0] at H
     by_cases c6 : x10_1 < (l0.length : Int)
     ·rw [if_pos c6] at H
      have c6b0 : decide (x10_1 < (l0.length : Int)) = true := decide_eq_true c6
      clear c6
      by_cases c7 : 0 ≤ x10_1
      ·rw [if_pos c7] at H
       have c7b0 : decide (0 ≤ x10_1) = true := decide_eq_true c7
       clear c7
       by_cases c8 : x10_1 < (l0.length : Int)
       ·rw [if_pos c8] at H
        have c8b0 : decide (x10_1 < (l0.length : Int)) = true := decide_eq_true c8
        clear c8
        by_cases c9 : x10_1 < (x3_1.length : Int)
        ·rw [if_pos c9] at H
         have c9b0 : decide (x10_1 < (x3_1.length : Int)) = true := decide_eq_true c9
         clear c9
         obtain ⟨y120, hy120⟩ : ∃ y_ : List (S59), y_ = (x3_1.set (x10_1 : Int).toNat (⟨(rd_T39 l0 x10_1).f0, (rd_T39 l0 x10_1).f1⟩ : S59)) := ⟨_, rfl⟩
         replace H : (flow_intervals.l0 k1 l0 y120 (l0.length : Int) (wrap64 (x10_1 + 1))) = some r := by first | (rw [hy120]; with_reducible exact H) | (have H2_ := (Option.bind_some _ _).symm.trans H; rw [hy120]; with_reducible exact H2_) | (have H2_ := (Option.bind_some _ _).symm.trans H; with_reducible exact H2_) | with_reducible exact H | (rw [hy120]; exact H) | exact H
         have Ny120 := Aside0.mk hy120
         clear hy120
         have H' := Aside0.mk H
         clear H
         have p119 : 0 ≤ (x10_1 : Int) := of_decide_eq_true (by first | (with_reducible assumption) | assumption)
         have q119 : x10_1 < (l0.length : Int) := of_decide_eq_true (by first | (with_reducible assumption) | assumption)
         obtain ⟨ad119, e119, hx119_0, hx119_1⟩ := at_T39 HR0.out x10_1 p119 q119
         cases e119
         replace hx119_0 := (HB.out.cell (World.block_lt_of_cell? w _ hx119_0)).trans hx119_0
         replace hx119_1 := (HB.out.cell (World.block_lt_of_cell? w _ hx119_1)).trans hx119_1
         replace p119 := eq_true p119
         replace q119 := eq_true q119
         have p10 : 0 ≤ (x10_1 : Int) := of_decide_eq_true (by first | (with_reducible assumption) | assumption)
         have q10 : (x10_1 : Int) < ((x3_1.length : Int) : Int) := of_decide_eq_true (by first | (with_reducible assumption) | assumption)
         obtain ⟨go10, co10, eo10, gb10, gl10, cl10, HG10⟩ := Kd.R_form HO_3.out (by omega)
         (first | cases eo10 | (injection eo10 with ea_ en_ ec_; (first | subst ea_ | (injection ea_ with ea_; subst ea_)); subst ec_; clear en_))
         have GB10 := Aside0.mk gb10
         have GG10 := Aside0.mk HG10
         clear gb10 gl10 HG10
         obtain ⟨ce10, hcl10, hM10, hcc10, hfr10⟩ := Kd.R_elem HO_3.out z59 (x10_1 : Int) p10 q10
         obtain rfl := k59_openM hM10
         have hx10_0 : wr.cell? ⟨go10, (x10_1 : Int).toNat * 2, none⟩ = some (.int .i64 ((rd_T59 x3_1 x10_1).f0)) := hcc10 0 _ rfl
         have hx10_1 : wr.cell? ⟨go10, (x10_1 : Int).toNat * 2 + 1, none⟩ = some (.int .i64 ((rd_T59 x3_1 x10_1).f1)) := hcc10 1 _ rfl
         have hf10_0 : wr.frozen? ⟨go10, (x10_1 : Int).toNat * 2, none⟩ = false := hfr10 0
         have hf10_1 : wr.frozen? ⟨go10, (x10_1 : Int).toNat * 2 + 1, none⟩ = false := hfr10 1
         clear hcl10 hcc10 hfr10 hM10
         replace p10 := eq_true p10
         replace q10 := eq_true q10
         have HX11 := Aside0.mk (show Kd.R k59 59 wr w.heap.size (fun _ => True) (.slice (some ⟨go10, 0, none⟩) x3_1.length co10) x3_1 from (by (with_reducible repeat (first | apply Kd.R_alloc | apply Kd.R_drewN | apply Kd.R_drew)); exact HO_3.out))
         obtain ⟨ce11, hcl11, hM11, hcc11, hfr11⟩ := Kd.R_elem HX11.out z59 (x10_1 : Int) (of_decide_eq_true (by first | (with_reducible assumption) | assumption)) (by have h_ : (x10_1 : Int) < ((x3_1.length : Int) : Int) := of_decide_eq_true (by first | (with_reducible assumption) | assumption); first | exact h_ | (have e_ := (Kd.R_reads' HO_3.out).1; omega) | simpa using h_)
         obtain rfl := k59_openM hM11
         have HP11 := Kd.R_seg HX11.out (x10_1 : Int) (of_decide_eq_true (by first | (with_reducible assumption) | assumption)) (by have h_ : (x10_1 : Int) < ((x3_1.length : Int) : Int) := of_decide_eq_true (by first | (with_reducible assumption) | assumption); first | exact h_ | (have e_ := (Kd.R_reads' HO_3.out).1; omega) | simpa using h_) (seg := [.int .i64 ((rd_T39 l0 x10_1).f0), .int .i64 ((rd_T39 l0 x10_1).f1)]) (j := 0) hcl11 hcc11 (show 2 ≤ 2 from by decide) (x' := (⟨(rd_T39 l0 x10_1).f0, (rd_T39 l0 x10_1).f1⟩ : S59)) (k59_mkM _ _ _ (⟨(rd_T39 l0 x10_1).f0, (rd_T39 l0 x10_1).f1⟩ : S59) ) (fun _ hk => hk)
         have hx11_0 := hcc11 0 _ rfl
         (try simp only [show (k59).sz = 2 from rfl, Nat.mul_one, Nat.add_zero] at hx11_0)
         have hf11_0 := hfr11 0
         (try simp only [show (k59).sz = 2 from rfl, Nat.mul_one, Nat.add_zero] at hf11_0)
         have hx11_1 := hcc11 1 _ rfl
         (try simp only [show (k59).sz = 2 from rfl, Nat.mul_one, Nat.add_zero] at hx11_1)
         have hf11_1 := hfr11 1
         (try simp only [show (k59).sz = 2 from rfl, Nat.mul_one, Nat.add_zero] at hf11_1)
         clear hcl11 hcc11 hfr11 hM11
         go_wp2_with (first | ((with_reducible refine gate_store (t := 59) (p := 19) rfl ?_); refine store_event (t := 59) (p := 19) (v := ?vo_w12) (w1 := ((wr.setCell ⟨go10, (x10_1 : Int).toNat * 2, none⟩ (.int .i64 ((rd_T39 l0 x10_1).f0))).setCell ⟨go10, (x10_1 : Int).toNat * 2 + 1, none⟩ (.int .i64 ((rd_T39 l0 x10_1).f1)))) ?hg ?ho ?hn ?hr ?_; (case ho => rfl); (case hg => rfl); (case hn => rfl); (case hr => first | (go_simp; done) | (go_simp; rfl)); intro w12 hw; have hg : wr.grownBy w12 (some go10) := (by rw [hw]; exact HP11.2); have hp_ : Kd.R k59 59 w12 w.heap.size (fun _ => True) (.slice (some ⟨go10, 0, none⟩) x3_1.length co10) y120 := (by rw [hw, Ny120.out]; exact HP11.1); clear HP11; have n0_ := Aside0.mk (hp_); have n1_ := Aside0.mk ((by rw [hw]; exact below_set (below_set (HB.out) GB10.out) GB10.out : Below w.heap.size w w12)); clear HO_3; clear HB; have HO_3 := n0_; have HB := n1_; clear n0_ n1_; clear hg hw hp_))
         go_roundg k1
         case measure => have := HK1.out; omega
         case rel => exact ⟨(y120), (wrap64 (x10_1 + 1)), (by first | rfl | (simp; done) | (simp [*]; done)), H', ⟨by have := HK1.out; omega⟩, ⟨by (with_reducible repeat (first | apply Kd.R_alloc | apply Kd.R_drewN | apply Kd.R_drew)); exact HO_3.out⟩, ⟨by repeat (first | (with_reducible first | exact HB.out | apply below_alloc | apply pw_below_drewN | apply below_drew1) | exact HB.out)⟩⟩
        ·rw [if_neg c9] at H
         exact absurd H (by simp)
       ·rw [if_neg c8] at H
        exact absurd H (by simp)
      ·rw [if_neg c7] at H
       exact absurd H (by simp)
     ·rw [if_neg c6] at H
      have c6b0 : decide (x10_1 < (l0.length : Int)) = false := decide_eq_false c6
      clear c6
      obtain rfl := Option.some.inj H
      go_wp2
      go_ret
      exact ⟨_, by first | rfl | (simp [errW_none, errW_some] <;> rfl) | (simp [*, errW_none, errW_some] <;> rfl), by (with_reducible repeat (first | apply Kd.R_alloc | apply Kd.R_drewN | apply Kd.R_drew)); exact HO_3.out, by repeat (first | (with_reducible first | exact HB.out | apply below_alloc | apply pw_below_drewN | apply below_drew1) | exact HB.out)⟩
  ·rw [if_neg c3] at H
   exact absurd H (by simp)
 ·rw [if_neg c2] at H
  exact absurd H (by simp)
end Go.Proofs.Ytmojlpafpeeelaa.P
end
section
namespace Go.Proofs.Ytmojlpafpeeelaa.P
open Go.RowKit Go.Proofs.YtmojlpafpeeelaaW.PrintWords Go.Proofs.YtmojlpafpeeelaaW.PrintLast Go.Proofs.YtmojlpafpeeelaaW.PrintMore
attribute [local go_sem] max2_int min2_int max_two min_two max_three min_three max_four min_four
set_option linter.unusedVariables false
set_option linter.unusedSimpArgs false
open Go.Proofs.YtmojlpafpeeelaaH
def toI (r : S39) : S59 := ⟨r.f0, r.f1⟩
def toR (r : S59) : S39 := ⟨r.f0, r.f1⟩
def netOk (l : List S44) : Option (List (List Int)) := if l.length ≤ 200 then openK l else none
theorem fold_set {α : Type} (f : Nat → α) (x : List α) : ∀ (i : Nat), i ≤ x.length → (List.range i).foldl (fun y (j : Nat) => y.set j (f j)) x = (List.range i).map f ++ x.drop i := by
 intro i
 induction i with
 | zero => intro _; simp
 | succ i ih =>
  intro h
  rw [foldl_range_succ, ih (by omega), List.range_succ, List.map_append]
  rw [List.set_append_right _ _ (by simp)]
  simp only [List.length_map, List.length_range, Nat.sub_self, List.map_cons, List.map_nil, List.append_assoc]
  congr 1
  rw [List.drop_eq_getElem_cons (by omega)]
  rfl
theorem fold_map {α β : Type} (d : α) (f : α → β) (l : List α) : (List.range l.length).map (fun j => f (l.getD j d)) = l.map f := by
 apply List.ext_getElem
 ·simp
 ·intro i h1 h2
  simp only [List.length_map] at h2
  simp [List.getD_eq_getElem?_getD, h2]
theorem fold_len {α : Type} (f : Nat → α) (is : List Nat) : ∀ x : List α, (is.foldl (fun y (j : Nat) => y.set j (f j)) x).length = x.length := by
 induction is with
 | nil => intro x; rfl
 | cons i is ih => intro x; rw [List.foldl_cons, ih]; simp
theorem intervals_l0 (l : List S39) (hn : l.length ≤ 5864062014805) : ∀ (d k : Nat) (i : Nat) (x : List S59), i + d = l.length → d < k → x.length = l.length →
  flow_intervals.l0 k l x (l.length : Int) (i : Int) = some ((List.range' i d).foldl (fun y (j : Nat) => y.set j (toI (rd_T39 l j))) x) := by
 intro d
 induction d with
 | zero =>
  intro k i x hi hk hx
  obtain ⟨k, rfl⟩ : ∃ m, k = m + 1 := ⟨k - 1, by omega⟩
  simp only [flow_intervals.l0]
  rw [if_neg (by omega)]
  rfl
 | succ d ih =>
  intro k i x hi hk hx
  obtain ⟨k, rfl⟩ : ∃ m, k = m + 1 := ⟨k - 1, by omega⟩
  simp only [flow_intervals.l0]
  rw [if_pos (by omega), if_pos (by omega), if_pos (by omega), if_pos (by omega)]
  have hw : wrap64 ((i : Int) + 1) = ((i + 1 : Nat) : Int) := by unfold wrap64; omega
  rw [hw, ih k (i + 1) _ (by omega) (by omega) (by simp [hx])]
  rw [List.range'_succ, List.foldl_cons]
  rfl
theorem intervals_f (l : List S39) (hn : l.length ≤ 5864062014805) : flow_intervals.f (l.length + 1) l = some (l.map toI) := by
 unfold flow_intervals.f
 rw [if_pos (by omega), if_pos (by omega)]
 have := intervals_l0 l hn l.length (l.length + 1) 0 (List.replicate ((l.length : Int)).toNat z59) (by omega) (by omega) (by simp)
 rw [show ((0 : Nat) : Int) = 0 from rfl] at this
 rw [this, ← List.range_eq_range', fold_set _ _ _ (by simp), List.drop_of_length_le (by simp), List.append_nil]
 congr 1
 exact fold_map _ toI l
def boundsR (l0 : List S44) (l1 : List S39) : List S39 × Int :=
 match netOk l0 with
 | none => ([], 1)
 | some kids => if belongsB l0.length l1 = true then (if (boundsF l0 kids (l1.map toI)).1 = true then ((boundsF l0 kids (l1.map toI)).2.map toR, 0) else ([], 30)) else ([], 1)
def flow_Bounds.f (l0 : List S44) (l1 : List S39) : Option (List S39 × Int) := if l0.length ≤ 5864062014805 ∧ l1.length ≤ 140737488355328 then some (boundsR l0 l1) else none
theorem rg_elem {W : World} {base g n cap : Nat} {xs : List S39} (h : Kd.R k39 39 W base (fun _ => True) (.slice (some ⟨g, 0, none⟩) n cap) xs) (i : Int) (h0 : 0 ≤ i) (h1 : i < n) :
  (W.cell? ⟨g, i.toNat * 2, none⟩ = some (.int .i64 (rd_T39 xs i).f0) ∧ W.cell? ⟨g, i.toNat * 2 + 1, none⟩ = some (.int .i64 (rd_T39 xs i).f1)) ∧ (W.frozen? ⟨g, i.toNat * 2, none⟩ = false ∧ W.frozen? ⟨g, i.toNat * 2 + 1, none⟩ = false) ∧
   ∀ y : S39, Kd.R k39 39 ((W.setCell ⟨g, i.toNat * 2, none⟩ (.int .i64 y.f0)).setCell ⟨g, i.toNat * 2 + 1, none⟩ (.int .i64 y.f1)) base (fun _ => True) (.slice (some ⟨g, 0, none⟩) n cap) (xs.set i.toNat y) ∧
    W.grownBy ((W.setCell ⟨g, i.toNat * 2, none⟩ (.int .i64 y.f0)).setCell ⟨g, i.toNat * 2 + 1, none⟩ (.int .i64 y.f1)) (some g) := by
 obtain ⟨c, hcl, hM, hcc, hfr⟩ := Kd.R_elem h z39 i h0 h1
 obtain rfl := k39_openM hM
 have e : k39.sz = 2 := rfl
 refine ⟨⟨hcc 0 _ rfl, hcc 1 _ rfl⟩, ⟨hfr 0, hfr 1⟩, fun y => ?_⟩
 exact Kd.R_seg h i h0 h1 hcl hcc (seg := [.int .i64 y.f0, .int .i64 y.f1]) (j := 0) (show 0 + 2 ≤ 2 from Nat.le_refl _) (x' := y) (okp := fun _ => False) (k39_mkM _ _ _ y) (fun _ hk => hk.elim)
set_option maxHeartbeats 8000000 in
set_option maxRecDepth 100000 in
theorem flow_Bounds.calls (A0 : Option Addr) (c0 : Nat) (l0 : List (S44)) (A1 : Option Addr) (c1 : Nat) (l1 : List (S39)) (r1 : List (S39)) (r2 : Int) (w : World) (hr0 : Kd.C k44 w A0 l0.length l0) (hc0 : l0.length ≤ c0) (hr1 : Kd.C k39 w A1 l1.length l1) (hc1 : l1.length ≤ c1) (h : flow_Bounds.f l0 l1 = some (r1, r2)) :
  Calls Try.prog 11 #[.slice A0 l0.length c0, .slice A1 l1.length c1] w fun e w' => ∃ v0_ : Value, e = .returned (.tuple #[v0_, .int .i64 r2]) ∧ Kd.R k39 39 w' w.heap.size (fun _ => True) v0_ r1 ∧ Below w.heap.size w w' := by
 have hu52 := Try.underlying52
 have hu59 := Try.underlying59
 have hu39 := Try.underlying39
 unfold flow_Bounds.f at h
 by_cases hsz : l0.length ≤ 5864062014805 ∧ l1.length ≤ 140737488355328
 case neg =>
  rw [if_neg hsz] at h
  cases h
 rw [if_pos hsz] at h
 injection h with h
 have HSZ := Aside0.mk hsz.1
 have HSZ1 := Aside0.mk hsz.2
 have HR0 := Aside0.mk hr0
 have HC0 := Aside0.mk hc0
 have HR1 := Aside0.mk hr1
 have HC1 := Aside0.mk hc1
 clear hsz hr0 hc0 hr1 hc1
 have HB := Aside0.mk (Below.refl w.heap.size w)
 cases ho : openK l0 with
 | none =>
  have HO := Aside0.mk ho
  have e : boundsR l0 l1 = ([], 1) := by unfold boundsR netOk; rw [ho]; split <;> simp_all
  rw [e] at h
  injection h with e1 e2
  subst e1
  subst e2
  clear ho e
  go_enter Try.func11, Try.ntmps11
  go_wp2_with (first | (go_at_call 25; (with_reducible refine (open_none A0 c0 l0 _ HR0.out HC0.out HSZ.out HO.out).mono ?_); rintro e w1 ⟨rfl, hb⟩; have n0_ := Aside0.mk (below_step HB.out hb); clear HB hb; have HB := n0_; clear n0_) | ((with_reducible refine gate_dst (N := 6) rfl ?_); refine box_event ?hg (N := 6) ?hd (cs := #[.slice none 0 0, .slice none 0 0]) (t := 52) ?hr ?_; (case hd => rfl); (case hg => rfl); (case hr => first | (go_simp; done) | (go_simp; rfl)); intro gn hgn w3 hbn hb3; have hcn0 : w3.cell? ⟨gn, 0, none⟩ = some (.slice none 0 0) := (blk_cell hbn 0).trans rfl; have hcn1 : w3.cell? ⟨gn, 1, none⟩ = some (.slice none 0 0) := (blk_cell hbn 1).trans rfl; have hfn0 := blk_frozen hbn 0; have hfn1 := blk_frozen hbn 1; have BN := Aside0.mk hbn; have n0_ := Aside0.mk (below_step HB.out hb3); have GN := Aside0.mk (show w.heap.size ≤ gn by rw [hgn]; exact below_size HB.out); have GE := Aside0.mk hgn; (try have HK := Aside0.mk (Kd.S_below HK.out hb3)); clear HB hbn hb3 hgn; have HB := n0_; clear n0_) | ((with_reducible refine gate_store (t := 52) (p := 6) (v := .tmp 15) rfl ?_); refine store_event rfl (t := 52) (p := 6) (v := .tmp 15) rfl rfl (by first | (go_simp; done) | (go_simp; rfl)) ?_; intro w4 hw4; have BN4 := Aside0.mk (show w4.heap[gn]? = some (.cells #[.slice none 0 0, .slice none 0 0] 52 (0, 0)) by rw [hw4]; exact blk_put (blk_put BN.out 0 _ rfl) 1 _ rfl); have n0_ := Aside0.mk (show Below w.heap.size w w4 by rw [hw4]; exact below_set (below_set HB.out GN.out) GN.out); clear hw4 BN HB hcn0 hcn1 hfn0 hfn1; have HB := n0_; clear n0_; have hcn0 : w4.cell? ⟨gn, 0, none⟩ = some (.slice none 0 0) := (blk_cell BN4.out 0).trans rfl; have hcn1 : w4.cell? ⟨gn, 1, none⟩ = some (.slice none 0 0) := (blk_cell BN4.out 1).trans rfl))
  go_ret2
  exact ⟨_, rfl, Kd.R_nil _ _ _ _ _, HB.out⟩
 | some kids =>
  have HO := Aside0.mk ho
  by_cases hl : l0.length ≤ 200
  case neg =>
   have e : boundsR l0 l1 = ([], 1) := by unfold boundsR netOk; rw [if_neg hl]
   rw [e] at h
   injection h with e1 e2
   subst e1
   subst e2
   have d1 : decide (l0.length ≤ 200) = false := decide_eq_false hl
   clear ho hl e
   go_enter Try.func11, Try.ntmps11
   go_wp2_with (first | (go_at_call 25; (with_reducible refine (open_some A0 c0 l0 _ HR0.out HC0.out HSZ.out HO.out).mono ?_); rintro e w1 ⟨A2, c2, rfl, hS, hb⟩; have n0_ := Aside0.mk (below_step HB.out hb); have HK := Aside0.mk hS; clear HB hb hS; have HB := n0_; clear n0_) | ((with_reducible refine gate_dst (N := 6) rfl ?_); refine box_event ?hg (N := 6) ?hd (cs := #[.slice none 0 0, .slice none 0 0]) (t := 52) ?hr ?_; (case hd => rfl); (case hg => rfl); (case hr => first | (go_simp; done) | (go_simp; rfl)); intro gn hgn w3 hbn hb3; have hcn0 : w3.cell? ⟨gn, 0, none⟩ = some (.slice none 0 0) := (blk_cell hbn 0).trans rfl; have hcn1 : w3.cell? ⟨gn, 1, none⟩ = some (.slice none 0 0) := (blk_cell hbn 1).trans rfl; have hfn0 := blk_frozen hbn 0; have hfn1 := blk_frozen hbn 1; have BN := Aside0.mk hbn; have n0_ := Aside0.mk (below_step HB.out hb3); have GN := Aside0.mk (show w.heap.size ≤ gn by rw [hgn]; exact below_size HB.out); have GE := Aside0.mk hgn; (try have HK := Aside0.mk (Kd.S_below HK.out hb3)); clear HB hbn hb3 hgn; have HB := n0_; clear n0_) | ((with_reducible refine gate_store (t := 52) (p := 6) (v := .tmp 15) rfl ?_); refine store_event rfl (t := 52) (p := 6) (v := .tmp 15) rfl rfl (by first | (go_simp; done) | (go_simp; rfl)) ?_; intro w4 hw4; have BN4 := Aside0.mk (show w4.heap[gn]? = some (.cells #[.slice A0 l0.length c0, .slice A2 l0.length c2] 52 (0, 0)) by rw [hw4]; exact blk_put (blk_put BN.out 0 _ rfl) 1 _ rfl); have n0_ := Aside0.mk (show Below w.heap.size w w4 by rw [hw4]; exact below_set (below_set HB.out GN.out) GN.out); have HK := Aside0.mk (show Kd.S (Kd.slice 3 (Kd.int .i64)) 24 w4 w.heap.size (fun _ => True) (.slice A2 l0.length c2) kids by rw [hw4]; have ht := Kd.S_far (p := ⟨gn, 0, none⟩) (Kd.S_types HK.out BN.out (by decide)) (fun _ hk => hk.2) (.slice A0 l0.length c0); exact Kd.S_mono (Kd.S_far (p := ⟨gn, 1, none⟩) ht (fun _ hk => hk.2) (.slice A2 l0.length c2)) (fun _ hk => hk.1)); clear hw4 BN HB hcn0 hcn1 hfn0 hfn1; have HB := n0_; clear n0_; have hcn0 : w4.cell? ⟨gn, 0, none⟩ = some (.slice A0 l0.length c0) := (blk_cell BN4.out 0).trans rfl; have hcn1 : w4.cell? ⟨gn, 1, none⟩ = some (.slice A2 l0.length c2) := (blk_cell BN4.out 1).trans rfl))
   go_ret2
   exact ⟨_, rfl, Kd.R_nil _ _ _ _ _, HB.out⟩
  have d1 : decide (l0.length ≤ 200) = true := decide_eq_true hl
  cases hbel : belongsB l0.length l1 with
  | false =>
   have HBEL := Aside0.mk hbel
   have e : boundsR l0 l1 = ([], 1) := by unfold boundsR netOk; rw [if_pos hl, ho]; simp [hbel]
   rw [e] at h
   injection h with e1 e2
   subst e1
   subst e2
   clear ho hl hbel e
   go_enter Try.func11, Try.ntmps11
   go_wp2_with (first | (go_at_call 25; (with_reducible refine (open_some A0 c0 l0 _ HR0.out HC0.out HSZ.out HO.out).mono ?_); rintro e w1 ⟨A2, c2, rfl, hS, hb⟩; have n0_ := Aside0.mk (below_step HB.out hb); have HK := Aside0.mk hS; clear HB hb hS; have HB := n0_; clear n0_) | ((with_reducible refine gate_dst (N := 6) rfl ?_); refine box_event ?hg (N := 6) ?hd (cs := #[.slice none 0 0, .slice none 0 0]) (t := 52) ?hr ?_; (case hd => rfl); (case hg => rfl); (case hr => first | (go_simp; done) | (go_simp; rfl)); intro gn hgn w3 hbn hb3; have hcn0 : w3.cell? ⟨gn, 0, none⟩ = some (.slice none 0 0) := (blk_cell hbn 0).trans rfl; have hcn1 : w3.cell? ⟨gn, 1, none⟩ = some (.slice none 0 0) := (blk_cell hbn 1).trans rfl; have hfn0 := blk_frozen hbn 0; have hfn1 := blk_frozen hbn 1; have BN := Aside0.mk hbn; have n0_ := Aside0.mk (below_step HB.out hb3); have GN := Aside0.mk (show w.heap.size ≤ gn by rw [hgn]; exact below_size HB.out); have GE := Aside0.mk hgn; (try have HK := Aside0.mk (Kd.S_below HK.out hb3)); clear HB hbn hb3 hgn; have HB := n0_; clear n0_) | ((with_reducible refine gate_store (t := 52) (p := 6) (v := .tmp 15) rfl ?_); refine store_event rfl (t := 52) (p := 6) (v := .tmp 15) rfl rfl (by first | (go_simp; done) | (go_simp; rfl)) ?_; intro w4 hw4; have BN4 := Aside0.mk (show w4.heap[gn]? = some (.cells #[.slice A0 l0.length c0, .slice A2 l0.length c2] 52 (0, 0)) by rw [hw4]; exact blk_put (blk_put BN.out 0 _ rfl) 1 _ rfl); have n0_ := Aside0.mk (show Below w.heap.size w w4 by rw [hw4]; exact below_set (below_set HB.out GN.out) GN.out); have HK := Aside0.mk (show Kd.S (Kd.slice 3 (Kd.int .i64)) 24 w4 w.heap.size (fun _ => True) (.slice A2 l0.length c2) kids by rw [hw4]; have ht := Kd.S_far (p := ⟨gn, 0, none⟩) (Kd.S_types HK.out BN.out (by decide)) (fun _ hk => hk.2) (.slice A0 l0.length c0); exact Kd.S_mono (Kd.S_far (p := ⟨gn, 1, none⟩) ht (fun _ hk => hk.2) (.slice A2 l0.length c2)) (fun _ hk => hk.1)); clear hw4 BN HB hcn0 hcn1 hfn0 hfn1; have HB := n0_; clear n0_; have hcn0 : w4.cell? ⟨gn, 0, none⟩ = some (.slice A0 l0.length c0) := (blk_cell BN4.out 0).trans rfl; have hcn1 : w4.cell? ⟨gn, 1, none⟩ = some (.slice A2 l0.length c2) := (blk_cell BN4.out 1).trans rfl) | (go_at_call 26; (with_reducible refine (belongs_calls A0 l0.length c0 A2 l0.length c2 A1 c1 l1 _ (Kd.C_below HR1.out HB.out) HC1.out (by have := HSZ1.out; omega) (by have := HSZ.out; omega)).mono ?_); rw [HBEL.out]; rintro e w5 ⟨rfl, hb⟩; have n0_ := Aside0.mk (below_step HB.out hb); have HK := Aside0.mk (Kd.S_below HK.out hb); replace hcn0 := (hb.cell (World.block_lt_of_cell? _ _ hcn0)).trans hcn0; replace hcn1 := (hb.cell (World.block_lt_of_cell? _ _ hcn1)).trans hcn1; have BN4 := Aside0.mk (blk_below BN4.out hb); clear HB hb; have HB := n0_; clear n0_))
   go_ret2
   exact ⟨_, rfl, Kd.R_nil _ _ _ _ _, HB.out⟩
  | true =>
   have HBEL := Aside0.mk hbel
   have HLL := Aside0.mk (show l1.length = l0.length by unfold belongsB at hbel; simp at hbel; exact hbel.1)
   obtain ⟨r, hrr⟩ : ∃ r, r = l1.map toI := ⟨_, rfl⟩
   have HRL := Aside0.mk (show r.length = l0.length by rw [hrr, List.length_map, HLL.out])
   have HKO := Aside0.mk (openK_ok ho)
   cases hbo : (boundsF l0 kids r).1 with
   | false =>
    have HBO := Aside0.mk hbo
    have e : boundsR l0 l1 = ([], 30) := by unfold boundsR netOk; rw [if_pos hl, ho]; simp only []; rw [if_pos hbel, ← hrr, if_neg (by rw [hbo]; decide)]
    rw [e] at h
    injection h with e1 e2
    subst e1
    subst e2
    have HI := Aside0.mk (hrr ▸ intervals_f l1 (by have := HLL.out; have := HSZ.out; omega))
    clear ho hl hbel hbo e
    go_enter Try.func11, Try.ntmps11
    go_wp2_with (first | (go_at_call 25; (with_reducible refine (open_some A0 c0 l0 _ HR0.out HC0.out HSZ.out HO.out).mono ?_); rintro e w1 ⟨A2, c2, rfl, hS, hb⟩; have n0_ := Aside0.mk (below_step HB.out hb); have HK := Aside0.mk hS; clear HB hb hS; have HB := n0_; clear n0_) | ((with_reducible refine gate_dst (N := 6) rfl ?_); refine box_event ?hg (N := 6) ?hd (cs := #[.slice none 0 0, .slice none 0 0]) (t := 52) ?hr ?_; (case hd => rfl); (case hg => rfl); (case hr => first | (go_simp; done) | (go_simp; rfl)); intro gn hgn w3 hbn hb3; have hcn0 : w3.cell? ⟨gn, 0, none⟩ = some (.slice none 0 0) := (blk_cell hbn 0).trans rfl; have hcn1 : w3.cell? ⟨gn, 1, none⟩ = some (.slice none 0 0) := (blk_cell hbn 1).trans rfl; have hfn0 := blk_frozen hbn 0; have hfn1 := blk_frozen hbn 1; have BN := Aside0.mk hbn; have n0_ := Aside0.mk (below_step HB.out hb3); have GN := Aside0.mk (show w.heap.size ≤ gn by rw [hgn]; exact below_size HB.out); have GE := Aside0.mk hgn; (try have HK := Aside0.mk (Kd.S_below HK.out hb3)); clear HB hbn hb3 hgn; have HB := n0_; clear n0_) | ((with_reducible refine gate_store (t := 52) (p := 6) (v := .tmp 15) rfl ?_); refine store_event rfl (t := 52) (p := 6) (v := .tmp 15) rfl rfl (by first | (go_simp; done) | (go_simp; rfl)) ?_; intro w4 hw4; have BN4 := Aside0.mk (show w4.heap[gn]? = some (.cells #[.slice A0 l0.length c0, .slice A2 l0.length c2] 52 (0, 0)) by rw [hw4]; exact blk_put (blk_put BN.out 0 _ rfl) 1 _ rfl); have n0_ := Aside0.mk (show Below w.heap.size w w4 by rw [hw4]; exact below_set (below_set HB.out GN.out) GN.out); have HK := Aside0.mk (show Kd.S (Kd.slice 3 (Kd.int .i64)) 24 w4 w.heap.size (fun _ => True) (.slice A2 l0.length c2) kids by rw [hw4]; have ht := Kd.S_far (p := ⟨gn, 0, none⟩) (Kd.S_types HK.out BN.out (by decide)) (fun _ hk => hk.2) (.slice A0 l0.length c0); exact Kd.S_mono (Kd.S_far (p := ⟨gn, 1, none⟩) ht (fun _ hk => hk.2) (.slice A2 l0.length c2)) (fun _ hk => hk.1)); clear hw4 BN HB hcn0 hcn1 hfn0 hfn1; have HB := n0_; clear n0_; have hcn0 : w4.cell? ⟨gn, 0, none⟩ = some (.slice A0 l0.length c0) := (blk_cell BN4.out 0).trans rfl; have hcn1 : w4.cell? ⟨gn, 1, none⟩ = some (.slice A2 l0.length c2) := (blk_cell BN4.out 1).trans rfl) | (go_at_call 26; (with_reducible refine (belongs_calls A0 l0.length c0 A2 l0.length c2 A1 c1 l1 _ (Kd.C_below HR1.out HB.out) HC1.out (by have := HSZ1.out; omega) (by have := HSZ.out; omega)).mono ?_); rw [HBEL.out]; rintro e w5 ⟨rfl, hb⟩; have n0_ := Aside0.mk (below_step HB.out hb); have HK := Aside0.mk (Kd.S_below HK.out hb); replace hcn0 := (hb.cell (World.block_lt_of_cell? _ _ hcn0)).trans hcn0; replace hcn1 := (hb.cell (World.block_lt_of_cell? _ _ hcn1)).trans hcn1; have BN4 := Aside0.mk (blk_below BN4.out hb); clear HB hb; have HB := n0_; clear n0_) | (go_at_call 27; (with_reducible refine (flow_intervals.calls (l1.length + 1) A1 c1 l1 r _ (Kd.C_below HR1.out HB.out) HC1.out HI.out).mono ?_); rintro e w6 ⟨v6, rfl, hR, hb⟩; obtain ⟨A3, c3, rfl⟩ := Kd.R_slice hR; rw [HRL.out] at hR; have n0_ := Aside0.mk (below_step HB.out hb); have HRV := Aside0.mk (Kd.R_lower hR (below_size HB.out)); have HK := Aside0.mk (Kd.S_below HK.out hb); replace hcn0 := (hb.cell (World.block_lt_of_cell? _ _ hcn0)).trans hcn0; replace hcn1 := (hb.cell (World.block_lt_of_cell? _ _ hcn1)).trans hcn1; have BN4 := Aside0.mk (blk_below BN4.out hb); rw [HRL.out]; clear HB hb hR; have HB := n0_; clear n0_) | (go_at_call 28; (with_reducible refine (bounds_calls w _ A0 c0 l0 A2 c2 kids A3 c3 r HB.out HR0.out HC0.out HSZ.out HK.out HKO.out HRV.out HRL.out).mono ?_); rw [HBO.out]; rintro e w7 ⟨rfl, hR, hg⟩; have n0_ := Aside0.mk (grown_below HB.out hg (Kd.R_base HRV.out)); have HRV := Aside0.mk (by first | (rw [← HBB.out] at hR; exact hR) | exact hR); clear HB hg hR; have HB := n0_; clear n0_))
    go_ret2
    exact ⟨_, rfl, Kd.R_nil _ _ _ _ _, HB.out⟩
   | true =>
    have HBO := Aside0.mk hbo
    obtain ⟨b, hb_⟩ : ∃ b, b = (boundsF l0 kids r).2 := ⟨_, rfl⟩
    have HBL := Aside0.mk (show b.length = l0.length by rw [hb_, boundsF_len, HRL.out])
    have e : boundsR l0 l1 = (b.map toR, 0) := by unfold boundsR netOk; rw [if_pos hl, ho]; simp only []; rw [if_pos hbel, ← hrr, if_pos hbo, hb_]
    rw [e] at h
    injection h with e1 e2
    subst e1
    subst e2
    have HI := Aside0.mk (hrr ▸ intervals_f l1 (by have := HLL.out; have := HSZ.out; omega))
    have HBB := Aside0.mk hb_
    clear ho hl hbel hbo e hrr hb_
    go_enter Try.func11, Try.ntmps11
    go_wp2_with (first | (go_at_call 25; (with_reducible refine (open_some A0 c0 l0 _ HR0.out HC0.out HSZ.out HO.out).mono ?_); rintro e w1 ⟨A2, c2, rfl, hS, hb⟩; have n0_ := Aside0.mk (below_step HB.out hb); have HK := Aside0.mk hS; clear HB hb hS; have HB := n0_; clear n0_) | ((with_reducible refine gate_dst (N := 6) rfl ?_); refine box_event ?hg (N := 6) ?hd (cs := #[.slice none 0 0, .slice none 0 0]) (t := 52) ?hr ?_; (case hd => rfl); (case hg => rfl); (case hr => first | (go_simp; done) | (go_simp; rfl)); intro gn hgn w3 hbn hb3; have hcn0 : w3.cell? ⟨gn, 0, none⟩ = some (.slice none 0 0) := (blk_cell hbn 0).trans rfl; have hcn1 : w3.cell? ⟨gn, 1, none⟩ = some (.slice none 0 0) := (blk_cell hbn 1).trans rfl; have hfn0 := blk_frozen hbn 0; have hfn1 := blk_frozen hbn 1; have BN := Aside0.mk hbn; have n0_ := Aside0.mk (below_step HB.out hb3); have GN := Aside0.mk (show w.heap.size ≤ gn by rw [hgn]; exact below_size HB.out); have GE := Aside0.mk hgn; (try have HK := Aside0.mk (Kd.S_below HK.out hb3)); clear HB hbn hb3 hgn; have HB := n0_; clear n0_) | ((with_reducible refine gate_store (t := 52) (p := 6) (v := .tmp 15) rfl ?_); refine store_event rfl (t := 52) (p := 6) (v := .tmp 15) rfl rfl (by first | (go_simp; done) | (go_simp; rfl)) ?_; intro w4 hw4; have BN4 := Aside0.mk (show w4.heap[gn]? = some (.cells #[.slice A0 l0.length c0, .slice A2 l0.length c2] 52 (0, 0)) by rw [hw4]; exact blk_put (blk_put BN.out 0 _ rfl) 1 _ rfl); have n0_ := Aside0.mk (show Below w.heap.size w w4 by rw [hw4]; exact below_set (below_set HB.out GN.out) GN.out); have HK := Aside0.mk (show Kd.S (Kd.slice 3 (Kd.int .i64)) 24 w4 w.heap.size (fun _ => True) (.slice A2 l0.length c2) kids by rw [hw4]; have ht := Kd.S_far (p := ⟨gn, 0, none⟩) (Kd.S_types HK.out BN.out (by decide)) (fun _ hk => hk.2) (.slice A0 l0.length c0); exact Kd.S_mono (Kd.S_far (p := ⟨gn, 1, none⟩) ht (fun _ hk => hk.2) (.slice A2 l0.length c2)) (fun _ hk => hk.1)); clear hw4 BN HB hcn0 hcn1 hfn0 hfn1; have HB := n0_; clear n0_; have hcn0 : w4.cell? ⟨gn, 0, none⟩ = some (.slice A0 l0.length c0) := (blk_cell BN4.out 0).trans rfl; have hcn1 : w4.cell? ⟨gn, 1, none⟩ = some (.slice A2 l0.length c2) := (blk_cell BN4.out 1).trans rfl) | (go_at_call 26; (with_reducible refine (belongs_calls A0 l0.length c0 A2 l0.length c2 A1 c1 l1 _ (Kd.C_below HR1.out HB.out) HC1.out (by have := HSZ1.out; omega) (by have := HSZ.out; omega)).mono ?_); rw [HBEL.out]; rintro e w5 ⟨rfl, hb⟩; have n0_ := Aside0.mk (below_step HB.out hb); have HK := Aside0.mk (Kd.S_below HK.out hb); replace hcn0 := (hb.cell (World.block_lt_of_cell? _ _ hcn0)).trans hcn0; replace hcn1 := (hb.cell (World.block_lt_of_cell? _ _ hcn1)).trans hcn1; have BN4 := Aside0.mk (blk_below BN4.out hb); clear HB hb; have HB := n0_; clear n0_) | (go_at_call 27; (with_reducible refine (flow_intervals.calls (l1.length + 1) A1 c1 l1 r _ (Kd.C_below HR1.out HB.out) HC1.out HI.out).mono ?_); rintro e w6 ⟨v6, rfl, hR, hb⟩; obtain ⟨A3, c3, rfl⟩ := Kd.R_slice hR; rw [HRL.out] at hR; have n0_ := Aside0.mk (below_step HB.out hb); have HRV := Aside0.mk (Kd.R_lower hR (below_size HB.out)); have HK := Aside0.mk (Kd.S_below HK.out hb); replace hcn0 := (hb.cell (World.block_lt_of_cell? _ _ hcn0)).trans hcn0; replace hcn1 := (hb.cell (World.block_lt_of_cell? _ _ hcn1)).trans hcn1; have BN4 := Aside0.mk (blk_below BN4.out hb); rw [HRL.out]; clear HB hb hR; have HB := n0_; clear n0_) | (go_at_call 28; (with_reducible refine (bounds_calls w _ A0 c0 l0 A2 c2 kids A3 c3 r HB.out HR0.out HC0.out HSZ.out HK.out HKO.out HRV.out HRL.out).mono ?_); rw [HBO.out]; rintro e w7 ⟨rfl, hR, hg⟩; have n0_ := Aside0.mk (grown_below HB.out hg (Kd.R_base HRV.out)); have HRV := Aside0.mk (by first | (rw [← HBB.out] at hR; exact hR) | exact hR); clear HB hg hR; have HB := n0_; clear n0_) | ((with_reducible refine gate_dst (N := 33) rfl ?_); refine Kd.R_make k39 _ 39 rfl (N := 33) rfl 23 _ _ rfl (l0.length : Int) rfl rfl Try.underlying23 (.agg #[(.int .i64 0), (.int .i64 0)]) 16 info39 rfl (by decide) (by omega) z39 (ok := fun _ => True) (okp := fun _ => True) (k39_mkM _ _ _ z39) (fun _ hk => hk) trivial (by omega) (by have := HSZ.out; omega) (Below.refl _ _) (Nat.le_refl _) ?_; intro v1 w8 ho hb hg_ hnew_; have n0_ := Aside0.mk (below_step HB.out hb); have HO8 := Aside0.mk (Kd.R_lower ho (below_size HB.out)); have HRV := Aside0.mk (Kd.R_below HRV.out hb); clear HB hb ho hg_ hnew_; have HB := n0_; clear n0_))
    obtain ⟨Ao, co, eo⟩ := Kd.R_slice HO8.out
    subst eo
    rw [List.length_replicate, Int.toNat_natCast] at *
    go_loopg [36] l0.length (fun kq v36 wr => ∃ (i : Nat) (y : List S39), v36 = .int .i64 i ∧ Aside0 (kq + i = l0.length) ∧ Aside0 (y = (List.range i).foldl (fun y (j : Nat) => y.set j (toR (b.getD j z59))) (List.replicate l0.length z39)) ∧ Aside0 (Kd.R k39 39 wr w.heap.size (fun _ => True) (.slice Ao l0.length co) y) ∧ Aside0 (Kd.R k59 59 wr w.heap.size (fun _ => True) (.slice A3 l0.length c3) b) ∧ Aside0 (Below w.heap.size w wr))
    case atStart => exact ⟨0, _, rfl, ⟨by omega⟩, ⟨rfl⟩, HO8, HRV, HB⟩
    case round =>
     clear HO8 HRV HB BN4 HK hcn0 hcn1
     obtain ⟨n, y, rfl, HM, HY, HRY, HRV, HB⟩ := hrel
     have HYL := Aside0.mk (show y.length = l0.length by rw [HY.out, fold_len, List.length_replicate])
     by_cases hlt : n < l0.length
     ·obtain ⟨i, hi⟩ : ∃ i : Int, i = (n : Int) := ⟨_, rfl⟩
      rw [← hi]
      have HI2 := Aside0.mk (show 0 ≤ i ∧ i < l0.length ∧ i = (n : Int) from ⟨by omega, by omega, hi⟩)
      have d2 : decide (i < (l0.length : Int)) = true := decide_eq_true HI2.out.2.1
      have ci2 : (0 ≤ i) = True := eq_true HI2.out.1
      have ci3 : (i < l0.length) = True := eq_true HI2.out.2.1
      obtain ⟨adb, eb, hx0, hx1⟩ := at_T59 (Kd.R_reads' HRV.out).2.2 i HI2.out.1 (by have := HI2.out; have := HBL.out; omega)
      subst eb
      obtain ⟨go, cgo, eo, gob, gol, ogl, hogl⟩ := Kd.R_form HRY.out (by have := HI2.out; have := HYL.out; omega)
      injection eo with ea en ec
      subst ea
      subst ec
      have HGC := Aside0.mk hogl
      have HGB := Aside0.mk gob
      clear hi hlt en gob gol hogl
      have hz1 : i + 1 ≤ 9223372036854775807 := by have := HI2.out; have := HSZ.out; omega
      have hz2 : -9223372036854775808 ≤ i + 1 := by have := HI2.out; omega
      go_upto_region 11 with (first | ((with_reducible refine gate_dst (N := 11) rfl ?_); refine box_event ?hg (N := 11) ?hd (cs := #[.int .i64 0, .int .i64 0]) (t := 59) ?hr ?_; (case hd => rfl); (case hg => rfl); (case hr => first | (go_simp; done) | (go_simp; rfl)); intro gx hgx w9 hbx hb; have hcx0 : w9.cell? ⟨gx, 0, none⟩ = some (.int .i64 0) := (blk_cell hbx 0).trans rfl; have hcx1 : w9.cell? ⟨gx, 1, none⟩ = some (.int .i64 0) := (blk_cell hbx 1).trans rfl; have hfx0 := blk_frozen hbx 0; have hfx1 := blk_frozen hbx 1; have BX := Aside0.mk hbx; have GX := Aside0.mk hgx; have HB9 := Aside0.mk hb; clear hbx hgx hb))
      obtain ⟨w10, hw10⟩ : ∃ w10, w10 = (w9.setCell ⟨gx, 0, none⟩ (.int .i64 (rd_T59 b i).f0)).setCell ⟨gx, 1, none⟩ (.int .i64 (rd_T59 b i).f1) := ⟨_, rfl⟩
      rw [← hw10]
      have hbx2 : w10.heap[gx]? = some (.cells #[.int .i64 (rd_T59 b i).f0, .int .i64 (rd_T59 b i).f1] 59 (0, 0)) := by rw [hw10]; exact blk_put2 BX.out _ _
      have HB10 := Aside0.mk (below_new2 GX.out HB9.out hw10)
      clear hcx0 hcx1 hfx0 hfx1
      have hcx0 : w10.cell? ⟨gx, 0, none⟩ = some (.int .i64 (rd_T59 b i).f0) := (blk_cell hbx2 0).trans rfl
      have hcx1 : w10.cell? ⟨gx, 1, none⟩ = some (.int .i64 (rd_T59 b i).f1) := (blk_cell hbx2 1).trans rfl
      have HRY10 := Aside0.mk (Kd.R_below HRY.out HB10.out)
      have HRV10 := Aside0.mk (Kd.R_below HRV.out HB10.out)
      have HE10 := Aside0.mk (rg_elem HRY10.out i HI2.out.1 HI2.out.2.1)
      have hxz0 := HE10.out.1.1
      have hxz1 := HE10.out.1.2
      have hfz0 := HE10.out.2.1.1
      have hfz1 := HE10.out.2.1.2
      clear hw10 hbx2
      go_wp2
      have hP := HE10.out.2.2 (toR (rd_T59 b i))
      have hg := HB10.out
      go_roundg (gk - 1)
      case measure => have := HM.out; have := HI2.out; omega
      case rel =>
       refine ⟨n + 1, _, ?_, ⟨by have := HM.out; have := HI2.out; omega⟩, ⟨?_⟩, ⟨hP.1⟩, ⟨Kd.R_mono (Kd.R_grown (Kd.R_types HRV10.out (blk_below HGC.out HB10.out) (by decide)) hP.2 (fun k hk e => hk.2 (by cases e; rfl))) (fun _ hk => hk.1)⟩, ⟨below_set (below_set (below_step HB.out HB10.out) HGB.out) HGB.out⟩⟩
       ·have := HI2.out
        first | (rw [show ((n + 1 : Nat) : Int) = i + 1 from by omega]; done) | (simp; omega)
       ·rw [foldl_range_succ, ← HY.out]
        rw [show i.toNat = n by have := HI2.out; omega]
        show y.set n (toR (b.getD i.toNat z59)) = _
        rw [show i.toNat = n by have := HI2.out; omega]
     ·have d2 : decide ((n : Int) < (l0.length : Int)) = false := decide_eq_false (by omega)
      have d2' : decide (n < l0.length) = false := decide_eq_false hlt
      have HNL := Aside0.mk (show n = l0.length by have := HM.out; omega)
      clear hlt
      go_wp2
      go_ret2
      refine ⟨_, rfl, ?_, HB.out⟩
      have e1 : y = b.map toR := by
       rw [HY.out, HNL.out, fold_set _ _ _ (by simp), List.drop_of_length_le (by simp), List.append_nil, ← HBL.out]
       exact fold_map _ toR b
      rw [← e1]
      exact HRY.out
end Go.Proofs.Ytmojlpafpeeelaa.P
end
section
namespace Go.Proofs.Ytmojlpafpeeelaa.P
open Go.RowKit Go.Proofs.YtmojlpafpeeelaaW.PrintWords Go.Proofs.YtmojlpafpeeelaaW.PrintLast Go.Proofs.YtmojlpafpeeelaaW.PrintMore
attribute [local go_sem] max2_int min2_int max_two min_two max_three min_three max_four min_four
set_option linter.unusedVariables false
set_option linter.unusedSimpArgs false
theorem eqA39 (d : Nat) (w : World) (x0 y0 : Int) (x1 y1 : Int) :
  (Op.equalIn (d + 2) 39 (.agg #[.int .i64 x0, .int .i64 x1]) (.agg #[.int .i64 y0, .int .i64 y1])).run Try.prog w = .ok (x0 == y0 && (x1 == y1)) w := by
 refine eqA_of Try.underlying39 (by kernel_rfl) ?_
 refine eqf_cons (by rfl) (by go_simp; rfl) (by go_simp; rfl) (by go_simp) ?_
 exact eqf_last (by rfl) (by go_simp; rfl) (by go_simp; rfl) (by go_simp)
end Go.Proofs.Ytmojlpafpeeelaa.P
end
section
namespace Go.Proofs.Ytmojlpafpeeelaa.P
open Go.RowKit Go.Proofs.YtmojlpafpeeelaaW.PrintWords Go.Proofs.YtmojlpafpeeelaaW.PrintLast Go.Proofs.YtmojlpafpeeelaaW.PrintMore
attribute [local go_sem] max2_int min2_int max_two min_two max_three min_three max_four min_four
set_option linter.unusedVariables false
set_option linter.unusedSimpArgs false
attribute [local go_sem high] eqA39
def cohousingref28_Same.l0 : Nat → List (S39) → List (S39) → Int → Option (Bool)
 | 0, _, _, _ => none
 | k + 1, x0, x1, x5 => if x5 < (x0.length : Int) then (if 0 ≤ x5 then (if x5 < (x1.length : Int) then (if (!(((rd_T39 x0 x5).f0) == ((rd_T39 x1 x5).f0)) || (!(((rd_T39 x0 x5).f1) == ((rd_T39 x1 x5).f1)))) = true then (some false) else (cohousingref28_Same.l0 k x0 x1 (wrap64 (x5 + 1)))) else (none)) else (none)) else (some true)
def cohousingref28_Same.f (k : Nat) (l0 : List (S39)) (l1 : List (S39)) : Option (Bool) := if (l0.length : Int) = (l1.length : Int) then (cohousingref28_Same.l0 k l0 l1 0) else (some false)
theorem cohousingref28_Same.mono_l : ∀ k, (∀ y0 y1 y2, LeO (cohousingref28_Same.l0 k y0 y1 y2) (cohousingref28_Same.l0 (k + 1) y0 y1 y2))
 | 0 => fun _ _ _ r h => by simp [cohousingref28_Same.l0] at h
 | k + 1 => by
  have ih0 := cohousingref28_Same.mono_l k
  ·intro y0 y1 y2
   unfold cohousingref28_Same.l0
   repeat' first
   | (with_reducible exact ih0 _ _ _)
   | (with_reducible exact LeO.refl _)
   | (with_reducible exact LeO.none _)
   | (with_reducible refine LeO.ite ?_ ?_)
   | (with_reducible refine LeO.bind ?_ (fun _ => ?_))
   | exact ih0 _ _ _
   | exact LeO.none _
   | refine LeO.ite ?_ ?_
   | refine LeO.bind ?_ (fun _ => ?_)
theorem cohousingref28_Same.mono : ∀ a0 a1 k, LeO (cohousingref28_Same.f k a0 a1) (cohousingref28_Same.f (k + 1) a0 a1) := by
 intro a0 a1 k
 have ih0 := cohousingref28_Same.mono_l k
 unfold cohousingref28_Same.f
 repeat' first
   | (with_reducible exact ih0 _ _ _)
   | (with_reducible exact LeO.refl _)
   | (with_reducible exact LeO.none _)
   | (with_reducible refine LeO.ite ?_ ?_)
   | (with_reducible refine LeO.bind ?_ (fun _ => ?_))
   | exact ih0 _ _ _
   | exact LeO.none _
   | refine LeO.ite ?_ ?_
   | refine LeO.bind ?_ (fun _ => ?_)
set_option maxHeartbeats 8000000 in
set_option maxRecDepth 100000 in
theorem cohousingref28_Same.calls (k : Nat) (A0 : Option Addr) (c0 : Nat) (l0 : List (S39)) (A1 : Option Addr) (c1 : Nat) (l1 : List (S39)) (r : Bool) (w : World) (hr0 : Kd.C k39 w A0 l0.length l0) (hc0 : l0.length ≤ c0) (hr1 : Kd.C k39 w A1 l1.length l1) (hc1 : l1.length ≤ c1) (h : cohousingref28_Same.f k l0 l1 = some r) :
  Calls Try.prog 15 #[.slice A0 l0.length c0, .slice A1 l1.length c1] w fun e w' => e = .returned (.bool r) ∧ Drawn0 w w' := by
 have hu39 := Try.underlying39
 have HR0 := Aside0.mk hr0
 have HC0 := Aside0.mk hc0
 clear hr0 hc0
 have HR1 := Aside0.mk hr1
 have HC1 := Aside0.mk hc1
 clear hr1 hc1
 have H : (if (l0.length : Int) = (l1.length : Int) then (cohousingref28_Same.l0 k l0 l1 0) else (some false)) = some r := h
 clear h
 by_cases c3 : (l0.length : Int) = (l1.length : Int)
 ·rw [if_pos c3] at H
  have c3b0 : ((l0.length : Int) == (l1.length : Int)) = true := beq_iff_eq.mpr c3
  have c3b1 : ((l0.length : Int) != (l1.length : Int)) = false := bne_eq_false_iff_eq.mpr c3
  have c3b2 : (l0.length == l1.length) = true := by first | simpa using c3 | (simp at c3 ⊢; omega)
  clear c3
  have H' := Aside0.mk H
  clear H
  go_enter Try.func15, Try.ntmps15
  go_wp2
  repeat (go_quiet (fail); try go_wp2)
  go_loopg [5] k (fun kq v5 w' => ∃ (x5_1 : Int), v5 = .int .i64 x5_1 ∧ Aside0 (cohousingref28_Same.l0 kq l0 l1 x5_1 = some r) ∧ Aside0 (kq ≤ k) ∧ Drawn0 w w')
  case atStart => exact ⟨(0), (by first | rfl | (simp; done) | (simp [*]; done)), H', ⟨Nat.le_refl _⟩, by repeat (first | exact Drawn0.refl _ | apply Drawn0.step)⟩
  case round =>
   clear H'
   try clear c1
   try clear p2
   try clear c3
   try clear c3b0
   try clear c3b1
   try clear c3b2
   obtain ⟨x5_1, rfl, HA, HK1, ⟨m1, rfl⟩⟩ := hrel
   cases gk with
   | zero => exact absurd HA.out (by simp [cohousingref28_Same.l0])
   | succ k1 =>
    have H := HA.out
    clear HA
    simp only [cohousingref28_Same.l0] at H
    by_cases c4 : x5_1 < (l0.length : Int)
    ·rw [if_pos c4] at H
     have c4b0 : decide (x5_1 < (l0.length : Int)) = true := decide_eq_true c4
     clear c4
     by_cases c5 : 0 ≤ x5_1
     ·rw [if_pos c5] at H
      have c5b0 : decide (0 ≤ x5_1) = true := decide_eq_true c5
      clear c5
      by_cases c6 : x5_1 < (l1.length : Int)
      ·rw [if_pos c6] at H
       have c6b0 : decide (x5_1 < (l1.length : Int)) = true := decide_eq_true c6
       clear c6
       by_cases c7 : (!(((rd_T39 l0 x5_1).f0) == ((rd_T39 l1 x5_1).f0)) || (!(((rd_T39 l0 x5_1).f1) == ((rd_T39 l1 x5_1).f1)))) = true
       ·rw [if_pos c7] at H
        have c7b0 : (!(((rd_T39 l0 x5_1).f0) == ((rd_T39 l1 x5_1).f0)) || (!(((rd_T39 l0 x5_1).f1) == ((rd_T39 l1 x5_1).f1)))) = true := c7
        clear c7
        obtain rfl := Option.some.inj H
        have p121 : 0 ≤ (x5_1 : Int) := of_decide_eq_true (by first | (with_reducible assumption) | assumption)
        have q121 : x5_1 < (l0.length : Int) := of_decide_eq_true (by first | (with_reducible assumption) | assumption)
        obtain ⟨ad121, e121, hx121_0, hx121_1⟩ := at_T39 HR0.out x5_1 p121 q121
        cases e121
        replace p121 := eq_true p121
        replace q121 := eq_true q121
        have p122 : 0 ≤ (x5_1 : Int) := of_decide_eq_true (by first | (with_reducible assumption) | assumption)
        have q122 : x5_1 < (l1.length : Int) := of_decide_eq_true (by first | (with_reducible assumption) | assumption)
        obtain ⟨ad122, e122, hx122_0, hx122_1⟩ := at_T39 HR1.out x5_1 p122 q122
        cases e122
        replace p122 := eq_true p122
        replace q122 := eq_true q122
        go_wp2
        repeat (go_quiet (fail); try go_wp2)
        go_ret
        exact ⟨by first | rfl | (simp; done) | (simp [*]; done), by repeat (first | exact Drawn0.refl _ | apply Drawn0.step)⟩
       ·rw [if_neg c7] at H
        have c7b0 : (!(((rd_T39 l0 x5_1).f0) == ((rd_T39 l1 x5_1).f0)) || (!(((rd_T39 l0 x5_1).f1) == ((rd_T39 l1 x5_1).f1)))) = false := by simpa using c7
        clear c7
        have H' := Aside0.mk H
        clear H
        have p121 : 0 ≤ (x5_1 : Int) := of_decide_eq_true (by first | (with_reducible assumption) | assumption)
        have q121 : x5_1 < (l0.length : Int) := of_decide_eq_true (by first | (with_reducible assumption) | assumption)
        obtain ⟨ad121, e121, hx121_0, hx121_1⟩ := at_T39 HR0.out x5_1 p121 q121
        cases e121
        replace p121 := eq_true p121
        replace q121 := eq_true q121
        have p122 : 0 ≤ (x5_1 : Int) := of_decide_eq_true (by first | (with_reducible assumption) | assumption)
        have q122 : x5_1 < (l1.length : Int) := of_decide_eq_true (by first | (with_reducible assumption) | assumption)
        obtain ⟨ad122, e122, hx122_0, hx122_1⟩ := at_T39 HR1.out x5_1 p122 q122
        cases e122
        replace p122 := eq_true p122
        replace q122 := eq_true q122
        go_wp2
        repeat (go_quiet (fail); try go_wp2)
        go_roundg k1
        case measure => have := HK1.out; omega
        case rel => exact ⟨(wrap64 (x5_1 + 1)), (by first | rfl | (simp; done) | (simp [*]; done)), H', ⟨by have := HK1.out; omega⟩, by repeat (first | exact Drawn0.refl _ | apply Drawn0.step)⟩
      ·rw [if_neg c6] at H
       exact absurd H (by simp)
     ·rw [if_neg c5] at H
      exact absurd H (by simp)
    ·rw [if_neg c4] at H
     have c4b0 : decide (x5_1 < (l0.length : Int)) = false := decide_eq_false c4
     clear c4
     obtain rfl := Option.some.inj H
     go_wp2
     repeat (go_quiet (fail); try go_wp2)
     go_ret
     exact ⟨by first | rfl | (simp; done) | (simp [*]; done), by repeat (first | exact Drawn0.refl _ | apply Drawn0.step)⟩
 ·rw [if_neg c3] at H
  have c3b0 : ((l0.length : Int) == (l1.length : Int)) = false := beq_eq_false_iff_ne.mpr c3
  have c3b1 : ((l0.length : Int) != (l1.length : Int)) = true := bne_iff_ne.mpr c3
  have c3b2 : (l0.length == l1.length) = false := by first | simpa using c3 | (simp at c3 ⊢; omega)
  obtain rfl := Option.some.inj H
  go_enter Try.func15, Try.ntmps15
  go_wp2
  repeat (go_quiet (fail); try go_wp2)
  go_ret
  exact ⟨by first | rfl | (simp; done) | (simp [*]; done), by repeat (first | exact Drawn0.refl _ | apply Drawn0.step)⟩
end Go.Proofs.Ytmojlpafpeeelaa.P
end
section
namespace Go.Proofs.Ytmojlpafpeeelaa.P
open Go.RowKit Go.Proofs.YtmojlpafpeeelaaW.PrintWords Go.Proofs.YtmojlpafpeeelaaW.PrintLast Go.Proofs.YtmojlpafpeeelaaW.PrintMore
attribute [local go_sem] max2_int min2_int max_two min_two max_three min_three max_four min_four
set_option linter.unusedVariables false
set_option linter.unusedSimpArgs false
open Go.Proofs.YtmojlpafpeeelaaH
def stateStep (l : List S44) (kids : List (List Int)) (p : List Int × List S59) (k : Nat) : List Int × List S59 :=
 (p.1.set k (rd_T59 p.2 k).f0, (boundsF l kids (p.2.set k ⟨(rd_T59 p.2 k).f0, (rd_T59 p.2 k).f0⟩)).2)
def stateFold (l : List S44) (kids : List (List Int)) (r : List S59) (n : Nat) : List Int × List S59 := (List.range n).foldl (stateStep l kids) (List.replicate l.length 0, r)
theorem stateFold_succ (l : List S44) (kids : List (List Int)) (r : List S59) (n : Nat) : stateFold l kids r (n + 1) = stateStep l kids (stateFold l kids r n) n := foldl_range_succ _ _ _
theorem stateFold_len (l : List S44) (kids : List (List Int)) (r : List S59) (n : Nat) : (stateFold l kids r n).1.length = l.length ∧ (stateFold l kids r n).2.length = r.length := by
 induction n with
 | zero => exact ⟨by simp [stateFold], rfl⟩
 | succ n ih =>
  rw [stateFold_succ]
  unfold stateStep
  exact ⟨by simp [ih.1], by simp [boundsF_len, ih.2]⟩
def stateR (l0 : List S44) (l1 : List S39) (i v : Int) : List Int × Int :=
 match netOk l0 with
 | none => ([], 1)
 | some kids => if belongsB l0.length l1 = true then (if i < 0 then ([], 1) else if (l0.length : Int) ≤ i then ([], 1) else
   if emptyI (cutI (rd_T59 (l1.map toI) i) v v) = true then ([], 30) else
   if (boundsF l0 kids ((l1.map toI).set i.toNat (cutI (rd_T59 (l1.map toI) i) v v))).1 = true then
    ((stateFold l0 kids (boundsF l0 kids ((l1.map toI).set i.toNat (cutI (rd_T59 (l1.map toI) i) v v))).2 l0.length).1, 0) else ([], 30)) else ([], 1)
def flow_State.f (l0 : List S44) (l1 : List S39) (i v : Int) : Option (List Int × Int) := if l0.length ≤ 5864062014805 ∧ l1.length ≤ 140737488355328 then some (stateR l0 l1 i v) else none
theorem rdOf_set_self (xs : List Int) (i : Int) (y : Int) (h : i.toNat < xs.length) : rdOf 0 (xs.set i.toNat y) i = y := by
 simp [rdOf, List.getD_eq_getElem?_getD, h]
theorem rd_set_self (xs : List S59) (i : Int) (y : S59) (h : i.toNat < xs.length) : rd_T59 (xs.set i.toNat y) i = y := by
 simp [rd_T59, List.getD_eq_getElem?_getD, h]
theorem cut_f {x y : S59} {lo hi : Int} (h : y = cutI x lo hi) : flow_interval_cut.f x.f0 x.f1 lo hi = some (y.f0, y.f1) := by
 subst h
 rfl
set_option maxHeartbeats 8000000 in
set_option maxRecDepth 100000 in
theorem flow_State.calls (A0 : Option Addr) (c0 : Nat) (l0 : List (S44)) (A1 : Option Addr) (c1 : Nat) (l1 : List (S39)) (a2 : Int) (a3 : Int) (r1 : List Int) (r2 : Int) (w : World) (hr0 : Kd.C k44 w A0 l0.length l0) (hc0 : l0.length ≤ c0) (hr1 : Kd.C k39 w A1 l1.length l1) (hc1 : l1.length ≤ c1) (h : flow_State.f l0 l1 a2 a3 = some (r1, r2)) :
  Calls Try.prog 18 #[.slice A0 l0.length c0, .slice A1 l1.length c1, .int .i64 a2, .int .i64 a3] w fun e w' => ∃ v0_ : Value, e = .returned (.tuple #[v0_, .int .i64 r2]) ∧ Kd.R (Kd.int .i64) 3 w' w.heap.size (fun _ => True) v0_ r1 ∧ Below w.heap.size w w' := by
 have hu52 := Try.underlying52
 have hu59 := Try.underlying59
 have hu39 := Try.underlying39
 unfold flow_State.f at h
 by_cases hsz : l0.length ≤ 5864062014805 ∧ l1.length ≤ 140737488355328
 case neg =>
  rw [if_neg hsz] at h
  cases h
 rw [if_pos hsz] at h
 injection h with h
 have HSZ := Aside0.mk hsz.1
 have HSZ1 := Aside0.mk hsz.2
 have HR0 := Aside0.mk hr0
 have HC0 := Aside0.mk hc0
 have HR1 := Aside0.mk hr1
 have HC1 := Aside0.mk hc1
 clear hsz hr0 hc0 hr1 hc1
 have HB := Aside0.mk (Below.refl w.heap.size w)
 cases ho : openK l0 with
 | none =>
  have HO := Aside0.mk ho
  have e : stateR l0 l1 a2 a3 = ([], 1) := by unfold stateR netOk; rw [ho]; split <;> simp_all
  rw [e] at h
  injection h with e1 e2
  subst e1
  subst e2
  clear ho e
  go_enter Try.func18, Try.ntmps18
  go_wp2_with (first | (go_at_call 25; (with_reducible refine (open_none A0 c0 l0 _ HR0.out HC0.out HSZ.out HO.out).mono ?_); rintro e w1 ⟨rfl, hb⟩; have n0_ := Aside0.mk (below_step HB.out hb); clear HB hb; have HB := n0_; clear n0_) | ((with_reducible refine gate_dst (N := 10) rfl ?_); refine box_event ?hg (N := 10) ?hd (cs := #[.slice none 0 0, .slice none 0 0]) (t := 52) ?hr ?_; (case hd => rfl); (case hg => rfl); (case hr => first | (go_simp; done) | (go_simp; rfl)); intro gn hgn w3 hbn hb3; have hcn0 : w3.cell? ⟨gn, 0, none⟩ = some (.slice none 0 0) := (blk_cell hbn 0).trans rfl; have hcn1 : w3.cell? ⟨gn, 1, none⟩ = some (.slice none 0 0) := (blk_cell hbn 1).trans rfl; have hfn0 := blk_frozen hbn 0; have hfn1 := blk_frozen hbn 1; have BN := Aside0.mk hbn; have n0_ := Aside0.mk (below_step HB.out hb3); have GN := Aside0.mk (show w.heap.size ≤ gn by rw [hgn]; exact below_size HB.out); have GE := Aside0.mk hgn; (try have HK := Aside0.mk (Kd.S_below HK.out hb3)); clear HB hbn hb3 hgn; have HB := n0_; clear n0_) | ((with_reducible refine gate_store (t := 52) (p := 10) (v := .tmp 18) rfl ?_); refine store_event rfl (t := 52) (p := 10) (v := .tmp 18) rfl rfl (by first | (go_simp; done) | (go_simp; rfl)) ?_; intro w4 hw4; have BN4 := Aside0.mk (show w4.heap[gn]? = some (.cells #[.slice none 0 0, .slice none 0 0] 52 (0, 0)) by rw [hw4]; exact blk_put (blk_put BN.out 0 _ rfl) 1 _ rfl); have n0_ := Aside0.mk (show Below w.heap.size w w4 by rw [hw4]; exact below_set (below_set HB.out GN.out) GN.out); clear hw4 BN HB hcn0 hcn1 hfn0 hfn1; have HB := n0_; clear n0_; have hcn0 : w4.cell? ⟨gn, 0, none⟩ = some (.slice none 0 0) := (blk_cell BN4.out 0).trans rfl; have hcn1 : w4.cell? ⟨gn, 1, none⟩ = some (.slice none 0 0) := (blk_cell BN4.out 1).trans rfl))
  go_ret2
  exact ⟨_, rfl, Kd.R_nil _ _ _ _ _, HB.out⟩
 | some kids =>
  have HO := Aside0.mk ho
  by_cases hl : l0.length ≤ 200
  case neg =>
   have e : stateR l0 l1 a2 a3 = ([], 1) := by unfold stateR netOk; rw [if_neg hl]
   rw [e] at h
   injection h with e1 e2
   subst e1
   subst e2
   have d1 : decide (l0.length ≤ 200) = false := decide_eq_false hl
   clear ho hl e
   go_enter Try.func18, Try.ntmps18
   go_wp2_with (first | (go_at_call 25; (with_reducible refine (open_some A0 c0 l0 _ HR0.out HC0.out HSZ.out HO.out).mono ?_); rintro e w1 ⟨A2, c2, rfl, hS, hb⟩; have n0_ := Aside0.mk (below_step HB.out hb); have HK := Aside0.mk hS; clear HB hb hS; have HB := n0_; clear n0_) | ((with_reducible refine gate_dst (N := 10) rfl ?_); refine box_event ?hg (N := 10) ?hd (cs := #[.slice none 0 0, .slice none 0 0]) (t := 52) ?hr ?_; (case hd => rfl); (case hg => rfl); (case hr => first | (go_simp; done) | (go_simp; rfl)); intro gn hgn w3 hbn hb3; have hcn0 : w3.cell? ⟨gn, 0, none⟩ = some (.slice none 0 0) := (blk_cell hbn 0).trans rfl; have hcn1 : w3.cell? ⟨gn, 1, none⟩ = some (.slice none 0 0) := (blk_cell hbn 1).trans rfl; have hfn0 := blk_frozen hbn 0; have hfn1 := blk_frozen hbn 1; have BN := Aside0.mk hbn; have n0_ := Aside0.mk (below_step HB.out hb3); have GN := Aside0.mk (show w.heap.size ≤ gn by rw [hgn]; exact below_size HB.out); have GE := Aside0.mk hgn; (try have HK := Aside0.mk (Kd.S_below HK.out hb3)); clear HB hbn hb3 hgn; have HB := n0_; clear n0_) | ((with_reducible refine gate_store (t := 52) (p := 10) (v := .tmp 18) rfl ?_); refine store_event rfl (t := 52) (p := 10) (v := .tmp 18) rfl rfl (by first | (go_simp; done) | (go_simp; rfl)) ?_; intro w4 hw4; have BN4 := Aside0.mk (show w4.heap[gn]? = some (.cells #[.slice A0 l0.length c0, .slice A2 l0.length c2] 52 (0, 0)) by rw [hw4]; exact blk_put (blk_put BN.out 0 _ rfl) 1 _ rfl); have n0_ := Aside0.mk (show Below w.heap.size w w4 by rw [hw4]; exact below_set (below_set HB.out GN.out) GN.out); have HK := Aside0.mk (show Kd.S (Kd.slice 3 (Kd.int .i64)) 24 w4 w.heap.size (fun _ => True) (.slice A2 l0.length c2) kids by rw [hw4]; have ht := Kd.S_far (p := ⟨gn, 0, none⟩) (Kd.S_types HK.out BN.out (by decide)) (fun _ hk => hk.2) (.slice A0 l0.length c0); exact Kd.S_mono (Kd.S_far (p := ⟨gn, 1, none⟩) ht (fun _ hk => hk.2) (.slice A2 l0.length c2)) (fun _ hk => hk.1)); clear hw4 BN HB hcn0 hcn1 hfn0 hfn1; have HB := n0_; clear n0_; have hcn0 : w4.cell? ⟨gn, 0, none⟩ = some (.slice A0 l0.length c0) := (blk_cell BN4.out 0).trans rfl; have hcn1 : w4.cell? ⟨gn, 1, none⟩ = some (.slice A2 l0.length c2) := (blk_cell BN4.out 1).trans rfl))
   go_ret2
   exact ⟨_, rfl, Kd.R_nil _ _ _ _ _, HB.out⟩
  have d1 : decide (l0.length ≤ 200) = true := decide_eq_true hl
  cases hbel : belongsB l0.length l1 with
  | false =>
   have HBEL := Aside0.mk hbel
   have e : stateR l0 l1 a2 a3 = ([], 1) := by unfold stateR netOk; rw [if_pos hl, ho]; simp [hbel]
   rw [e] at h
   injection h with e1 e2
   subst e1
   subst e2
   clear ho hl hbel e
   go_enter Try.func18, Try.ntmps18
   go_wp2_with (first | (go_at_call 25; (with_reducible refine (open_some A0 c0 l0 _ HR0.out HC0.out HSZ.out HO.out).mono ?_); rintro e w1 ⟨A2, c2, rfl, hS, hb⟩; have n0_ := Aside0.mk (below_step HB.out hb); have HK := Aside0.mk hS; clear HB hb hS; have HB := n0_; clear n0_) | ((with_reducible refine gate_dst (N := 10) rfl ?_); refine box_event ?hg (N := 10) ?hd (cs := #[.slice none 0 0, .slice none 0 0]) (t := 52) ?hr ?_; (case hd => rfl); (case hg => rfl); (case hr => first | (go_simp; done) | (go_simp; rfl)); intro gn hgn w3 hbn hb3; have hcn0 : w3.cell? ⟨gn, 0, none⟩ = some (.slice none 0 0) := (blk_cell hbn 0).trans rfl; have hcn1 : w3.cell? ⟨gn, 1, none⟩ = some (.slice none 0 0) := (blk_cell hbn 1).trans rfl; have hfn0 := blk_frozen hbn 0; have hfn1 := blk_frozen hbn 1; have BN := Aside0.mk hbn; have n0_ := Aside0.mk (below_step HB.out hb3); have GN := Aside0.mk (show w.heap.size ≤ gn by rw [hgn]; exact below_size HB.out); have GE := Aside0.mk hgn; (try have HK := Aside0.mk (Kd.S_below HK.out hb3)); clear HB hbn hb3 hgn; have HB := n0_; clear n0_) | ((with_reducible refine gate_store (t := 52) (p := 10) (v := .tmp 18) rfl ?_); refine store_event rfl (t := 52) (p := 10) (v := .tmp 18) rfl rfl (by first | (go_simp; done) | (go_simp; rfl)) ?_; intro w4 hw4; have BN4 := Aside0.mk (show w4.heap[gn]? = some (.cells #[.slice A0 l0.length c0, .slice A2 l0.length c2] 52 (0, 0)) by rw [hw4]; exact blk_put (blk_put BN.out 0 _ rfl) 1 _ rfl); have n0_ := Aside0.mk (show Below w.heap.size w w4 by rw [hw4]; exact below_set (below_set HB.out GN.out) GN.out); have HK := Aside0.mk (show Kd.S (Kd.slice 3 (Kd.int .i64)) 24 w4 w.heap.size (fun _ => True) (.slice A2 l0.length c2) kids by rw [hw4]; have ht := Kd.S_far (p := ⟨gn, 0, none⟩) (Kd.S_types HK.out BN.out (by decide)) (fun _ hk => hk.2) (.slice A0 l0.length c0); exact Kd.S_mono (Kd.S_far (p := ⟨gn, 1, none⟩) ht (fun _ hk => hk.2) (.slice A2 l0.length c2)) (fun _ hk => hk.1)); clear hw4 BN HB hcn0 hcn1 hfn0 hfn1; have HB := n0_; clear n0_; have hcn0 : w4.cell? ⟨gn, 0, none⟩ = some (.slice A0 l0.length c0) := (blk_cell BN4.out 0).trans rfl; have hcn1 : w4.cell? ⟨gn, 1, none⟩ = some (.slice A2 l0.length c2) := (blk_cell BN4.out 1).trans rfl) | (go_at_call 26; (with_reducible refine (belongs_calls A0 l0.length c0 A2 l0.length c2 A1 c1 l1 _ (Kd.C_below HR1.out HB.out) HC1.out (by have := HSZ1.out; omega) (by have := HSZ.out; omega)).mono ?_); rw [HBEL.out]; rintro e w5 ⟨rfl, hb⟩; have n0_ := Aside0.mk (below_step HB.out hb); have HK := Aside0.mk (Kd.S_below HK.out hb); replace hcn0 := (hb.cell (World.block_lt_of_cell? _ _ hcn0)).trans hcn0; replace hcn1 := (hb.cell (World.block_lt_of_cell? _ _ hcn1)).trans hcn1; have BN4 := Aside0.mk (blk_below BN4.out hb); clear HB hb; have HB := n0_; clear n0_))
   go_ret2
   exact ⟨_, rfl, Kd.R_nil _ _ _ _ _, HB.out⟩
  | true =>
   have HBEL := Aside0.mk hbel
   have HLL := Aside0.mk (show l1.length = l0.length by unfold belongsB at hbel; simp at hbel; exact hbel.1)
   by_cases hi0 : a2 < 0
   ·have e : stateR l0 l1 a2 a3 = ([], 1) := by unfold stateR netOk; rw [if_pos hl, ho]; simp only []; rw [if_pos hbel, if_pos hi0]
    rw [e] at h
    injection h with e1 e2
    subst e1
    subst e2
    have d2 : decide (a2 < 0) = true := decide_eq_true hi0
    clear ho hl hbel e hi0
    go_enter Try.func18, Try.ntmps18
    go_wp2_with (first | (go_at_call 25; (with_reducible refine (open_some A0 c0 l0 _ HR0.out HC0.out HSZ.out HO.out).mono ?_); rintro e w1 ⟨A2, c2, rfl, hS, hb⟩; have n0_ := Aside0.mk (below_step HB.out hb); have HK := Aside0.mk hS; clear HB hb hS; have HB := n0_; clear n0_) | ((with_reducible refine gate_dst (N := 10) rfl ?_); refine box_event ?hg (N := 10) ?hd (cs := #[.slice none 0 0, .slice none 0 0]) (t := 52) ?hr ?_; (case hd => rfl); (case hg => rfl); (case hr => first | (go_simp; done) | (go_simp; rfl)); intro gn hgn w3 hbn hb3; have hcn0 : w3.cell? ⟨gn, 0, none⟩ = some (.slice none 0 0) := (blk_cell hbn 0).trans rfl; have hcn1 : w3.cell? ⟨gn, 1, none⟩ = some (.slice none 0 0) := (blk_cell hbn 1).trans rfl; have hfn0 := blk_frozen hbn 0; have hfn1 := blk_frozen hbn 1; have BN := Aside0.mk hbn; have n0_ := Aside0.mk (below_step HB.out hb3); have GN := Aside0.mk (show w.heap.size ≤ gn by rw [hgn]; exact below_size HB.out); have GE := Aside0.mk hgn; (try have HK := Aside0.mk (Kd.S_below HK.out hb3)); clear HB hbn hb3 hgn; have HB := n0_; clear n0_) | ((with_reducible refine gate_store (t := 52) (p := 10) (v := .tmp 18) rfl ?_); refine store_event rfl (t := 52) (p := 10) (v := .tmp 18) rfl rfl (by first | (go_simp; done) | (go_simp; rfl)) ?_; intro w4 hw4; have BN4 := Aside0.mk (show w4.heap[gn]? = some (.cells #[.slice A0 l0.length c0, .slice A2 l0.length c2] 52 (0, 0)) by rw [hw4]; exact blk_put (blk_put BN.out 0 _ rfl) 1 _ rfl); have n0_ := Aside0.mk (show Below w.heap.size w w4 by rw [hw4]; exact below_set (below_set HB.out GN.out) GN.out); have HK := Aside0.mk (show Kd.S (Kd.slice 3 (Kd.int .i64)) 24 w4 w.heap.size (fun _ => True) (.slice A2 l0.length c2) kids by rw [hw4]; have ht := Kd.S_far (p := ⟨gn, 0, none⟩) (Kd.S_types HK.out BN.out (by decide)) (fun _ hk => hk.2) (.slice A0 l0.length c0); exact Kd.S_mono (Kd.S_far (p := ⟨gn, 1, none⟩) ht (fun _ hk => hk.2) (.slice A2 l0.length c2)) (fun _ hk => hk.1)); clear hw4 BN HB hcn0 hcn1 hfn0 hfn1; have HB := n0_; clear n0_; have hcn0 : w4.cell? ⟨gn, 0, none⟩ = some (.slice A0 l0.length c0) := (blk_cell BN4.out 0).trans rfl; have hcn1 : w4.cell? ⟨gn, 1, none⟩ = some (.slice A2 l0.length c2) := (blk_cell BN4.out 1).trans rfl) | (go_at_call 26; (with_reducible refine (belongs_calls A0 l0.length c0 A2 l0.length c2 A1 c1 l1 _ (Kd.C_below HR1.out HB.out) HC1.out (by have := HSZ1.out; omega) (by have := HSZ.out; omega)).mono ?_); rw [HBEL.out]; rintro e w5 ⟨rfl, hb⟩; have n0_ := Aside0.mk (below_step HB.out hb); have HK := Aside0.mk (Kd.S_below HK.out hb); replace hcn0 := (hb.cell (World.block_lt_of_cell? _ _ hcn0)).trans hcn0; replace hcn1 := (hb.cell (World.block_lt_of_cell? _ _ hcn1)).trans hcn1; have BN4 := Aside0.mk (blk_below BN4.out hb); clear HB hb; have HB := n0_; clear n0_))
    go_ret2
    exact ⟨_, rfl, Kd.R_nil _ _ _ _ _, HB.out⟩
   have d2 : decide (a2 < 0) = false := decide_eq_false hi0
   by_cases hi1 : (l0.length : Int) ≤ a2
   ·have e : stateR l0 l1 a2 a3 = ([], 1) := by unfold stateR netOk; rw [if_pos hl, ho]; simp only []; rw [if_pos hbel, if_neg hi0, if_pos hi1]
    rw [e] at h
    injection h with e1 e2
    subst e1
    subst e2
    have d3 : decide ((l0.length : Int) ≤ a2) = true := decide_eq_true hi1
    clear ho hl hbel e hi0 hi1
    go_enter Try.func18, Try.ntmps18
    go_wp2_with (first | (go_at_call 25; (with_reducible refine (open_some A0 c0 l0 _ HR0.out HC0.out HSZ.out HO.out).mono ?_); rintro e w1 ⟨A2, c2, rfl, hS, hb⟩; have n0_ := Aside0.mk (below_step HB.out hb); have HK := Aside0.mk hS; clear HB hb hS; have HB := n0_; clear n0_) | ((with_reducible refine gate_dst (N := 10) rfl ?_); refine box_event ?hg (N := 10) ?hd (cs := #[.slice none 0 0, .slice none 0 0]) (t := 52) ?hr ?_; (case hd => rfl); (case hg => rfl); (case hr => first | (go_simp; done) | (go_simp; rfl)); intro gn hgn w3 hbn hb3; have hcn0 : w3.cell? ⟨gn, 0, none⟩ = some (.slice none 0 0) := (blk_cell hbn 0).trans rfl; have hcn1 : w3.cell? ⟨gn, 1, none⟩ = some (.slice none 0 0) := (blk_cell hbn 1).trans rfl; have hfn0 := blk_frozen hbn 0; have hfn1 := blk_frozen hbn 1; have BN := Aside0.mk hbn; have n0_ := Aside0.mk (below_step HB.out hb3); have GN := Aside0.mk (show w.heap.size ≤ gn by rw [hgn]; exact below_size HB.out); have GE := Aside0.mk hgn; (try have HK := Aside0.mk (Kd.S_below HK.out hb3)); clear HB hbn hb3 hgn; have HB := n0_; clear n0_) | ((with_reducible refine gate_store (t := 52) (p := 10) (v := .tmp 18) rfl ?_); refine store_event rfl (t := 52) (p := 10) (v := .tmp 18) rfl rfl (by first | (go_simp; done) | (go_simp; rfl)) ?_; intro w4 hw4; have BN4 := Aside0.mk (show w4.heap[gn]? = some (.cells #[.slice A0 l0.length c0, .slice A2 l0.length c2] 52 (0, 0)) by rw [hw4]; exact blk_put (blk_put BN.out 0 _ rfl) 1 _ rfl); have n0_ := Aside0.mk (show Below w.heap.size w w4 by rw [hw4]; exact below_set (below_set HB.out GN.out) GN.out); have HK := Aside0.mk (show Kd.S (Kd.slice 3 (Kd.int .i64)) 24 w4 w.heap.size (fun _ => True) (.slice A2 l0.length c2) kids by rw [hw4]; have ht := Kd.S_far (p := ⟨gn, 0, none⟩) (Kd.S_types HK.out BN.out (by decide)) (fun _ hk => hk.2) (.slice A0 l0.length c0); exact Kd.S_mono (Kd.S_far (p := ⟨gn, 1, none⟩) ht (fun _ hk => hk.2) (.slice A2 l0.length c2)) (fun _ hk => hk.1)); clear hw4 BN HB hcn0 hcn1 hfn0 hfn1; have HB := n0_; clear n0_; have hcn0 : w4.cell? ⟨gn, 0, none⟩ = some (.slice A0 l0.length c0) := (blk_cell BN4.out 0).trans rfl; have hcn1 : w4.cell? ⟨gn, 1, none⟩ = some (.slice A2 l0.length c2) := (blk_cell BN4.out 1).trans rfl) | (go_at_call 26; (with_reducible refine (belongs_calls A0 l0.length c0 A2 l0.length c2 A1 c1 l1 _ (Kd.C_below HR1.out HB.out) HC1.out (by have := HSZ1.out; omega) (by have := HSZ.out; omega)).mono ?_); rw [HBEL.out]; rintro e w5 ⟨rfl, hb⟩; have n0_ := Aside0.mk (below_step HB.out hb); have HK := Aside0.mk (Kd.S_below HK.out hb); replace hcn0 := (hb.cell (World.block_lt_of_cell? _ _ hcn0)).trans hcn0; replace hcn1 := (hb.cell (World.block_lt_of_cell? _ _ hcn1)).trans hcn1; have BN4 := Aside0.mk (blk_below BN4.out hb); clear HB hb; have HB := n0_; clear n0_))
    go_ret2
    exact ⟨_, rfl, Kd.R_nil _ _ _ _ _, HB.out⟩
   have d3 : decide ((l0.length : Int) ≤ a2) = false := decide_eq_false hi1
   have c02 : (0 ≤ a2) = True := eq_true (by omega)
   have c03 : (a2 < l0.length) = True := eq_true (by omega)
   have HA := Aside0.mk (show 0 ≤ a2 ∧ a2 < l0.length from ⟨by omega, by omega⟩)
   obtain ⟨r, hrr⟩ : ∃ r, r = l1.map toI := ⟨_, rfl⟩
   have HRL := Aside0.mk (show r.length = l0.length by rw [hrr, List.length_map, HLL.out])
   have HKO := Aside0.mk (openK_ok ho)
   obtain ⟨y, hy⟩ : ∃ y, y = cutI (rd_T59 r a2) a3 a3 := ⟨_, rfl⟩
   obtain ⟨rs, hrs⟩ : ∃ rs, rs = r.set a2.toNat y := ⟨_, rfl⟩
   have HRSL := Aside0.mk (show rs.length = l0.length by rw [hrs, List.length_set, HRL.out])
   have HI := Aside0.mk (hrr ▸ intervals_f l1 (by have := HLL.out; have := HSZ.out; omega))
   cases hem : emptyI y with
   | true =>
    have e : stateR l0 l1 a2 a3 = ([], 30) := by unfold stateR netOk; rw [if_pos hl, ho]; simp only []; rw [if_pos hbel, if_neg hi0, if_neg hi1, ← hrr, ← hy, if_pos hem]
    rw [e] at h
    injection h with e1 e2
    subst e1
    subst e2
    have HEM := Aside0.mk hem
    have HY := Aside0.mk hy
    clear ho hl hbel e hi0 hi1 hrr hrs hem hy
    go_enter Try.func18, Try.ntmps18
    go_upto_region 5 with (first | (go_at_call 25; (with_reducible refine (open_some A0 c0 l0 _ HR0.out HC0.out HSZ.out HO.out).mono ?_); rintro e w1 ⟨A2, c2, rfl, hS, hb⟩; have n0_ := Aside0.mk (below_step HB.out hb); have HK := Aside0.mk hS; clear HB hb hS; have HB := n0_; clear n0_) | ((with_reducible refine gate_dst (N := 10) rfl ?_); refine box_event ?hg (N := 10) ?hd (cs := #[.slice none 0 0, .slice none 0 0]) (t := 52) ?hr ?_; (case hd => rfl); (case hg => rfl); (case hr => first | (go_simp; done) | (go_simp; rfl)); intro gn hgn w3 hbn hb3; have hcn0 : w3.cell? ⟨gn, 0, none⟩ = some (.slice none 0 0) := (blk_cell hbn 0).trans rfl; have hcn1 : w3.cell? ⟨gn, 1, none⟩ = some (.slice none 0 0) := (blk_cell hbn 1).trans rfl; have hfn0 := blk_frozen hbn 0; have hfn1 := blk_frozen hbn 1; have BN := Aside0.mk hbn; have n0_ := Aside0.mk (below_step HB.out hb3); have GN := Aside0.mk (show w.heap.size ≤ gn by rw [hgn]; exact below_size HB.out); have GE := Aside0.mk hgn; (try have HK := Aside0.mk (Kd.S_below HK.out hb3)); clear HB hbn hb3 hgn; have HB := n0_; clear n0_) | ((with_reducible refine gate_store (t := 52) (p := 10) (v := .tmp 18) rfl ?_); refine store_event rfl (t := 52) (p := 10) (v := .tmp 18) rfl rfl (by first | (go_simp; done) | (go_simp; rfl)) ?_; intro w4 hw4; have BN4 := Aside0.mk (show w4.heap[gn]? = some (.cells #[.slice A0 l0.length c0, .slice A2 l0.length c2] 52 (0, 0)) by rw [hw4]; exact blk_put (blk_put BN.out 0 _ rfl) 1 _ rfl); have n0_ := Aside0.mk (show Below w.heap.size w w4 by rw [hw4]; exact below_set (below_set HB.out GN.out) GN.out); have HK := Aside0.mk (show Kd.S (Kd.slice 3 (Kd.int .i64)) 24 w4 w.heap.size (fun _ => True) (.slice A2 l0.length c2) kids by rw [hw4]; have ht := Kd.S_far (p := ⟨gn, 0, none⟩) (Kd.S_types HK.out BN.out (by decide)) (fun _ hk => hk.2) (.slice A0 l0.length c0); exact Kd.S_mono (Kd.S_far (p := ⟨gn, 1, none⟩) ht (fun _ hk => hk.2) (.slice A2 l0.length c2)) (fun _ hk => hk.1)); clear hw4 BN HB hcn0 hcn1 hfn0 hfn1; have HB := n0_; clear n0_; have hcn0 : w4.cell? ⟨gn, 0, none⟩ = some (.slice A0 l0.length c0) := (blk_cell BN4.out 0).trans rfl; have hcn1 : w4.cell? ⟨gn, 1, none⟩ = some (.slice A2 l0.length c2) := (blk_cell BN4.out 1).trans rfl) | (go_at_call 26; (with_reducible refine (belongs_calls A0 l0.length c0 A2 l0.length c2 A1 c1 l1 _ (Kd.C_below HR1.out HB.out) HC1.out (by have := HSZ1.out; omega) (by have := HSZ.out; omega)).mono ?_); rw [HBEL.out]; rintro e w5 ⟨rfl, hb⟩; have n0_ := Aside0.mk (below_step HB.out hb); have HK := Aside0.mk (Kd.S_below HK.out hb); replace hcn0 := (hb.cell (World.block_lt_of_cell? _ _ hcn0)).trans hcn0; replace hcn1 := (hb.cell (World.block_lt_of_cell? _ _ hcn1)).trans hcn1; have BN4 := Aside0.mk (blk_below BN4.out hb); clear HB hb; have HB := n0_; clear n0_) | (go_at_call 27; (with_reducible refine (flow_intervals.calls (l1.length + 1) A1 c1 l1 r _ (Kd.C_below HR1.out HB.out) HC1.out HI.out).mono ?_); rintro e w6 ⟨v6, rfl, hR, hb⟩; obtain ⟨A3, c3, rfl⟩ := Kd.R_slice hR; rw [HRL.out] at hR; have n0_ := Aside0.mk (below_step HB.out hb); have HRV := Aside0.mk (Kd.R_lower hR (below_size HB.out)); have HK := Aside0.mk (Kd.S_below HK.out hb); replace hcn0 := (hb.cell (World.block_lt_of_cell? _ _ hcn0)).trans hcn0; replace hcn1 := (hb.cell (World.block_lt_of_cell? _ _ hcn1)).trans hcn1; have BN4 := Aside0.mk (blk_below BN4.out hb); rw [HRL.out]; clear HB hb hR; have HB := n0_; clear n0_))
    obtain ⟨g3, cg3, e3, gb3, gl3, cl3, hcl3⟩ := Kd.R_form HRV.out (by have := HA.out; have := HRL.out; omega)
    injection e3 with ea en ec
    subst ea
    subst ec
    have GB3 := Aside0.mk gb3
    clear en gb3 gl3 hcl3
    have HIV0 := iv_elem HRV.out a2 HA.out.1 HA.out.2
    have hx0 := HIV0.1.1
    have hx1 := HIV0.1.2
    clear HIV0
    go_upto_region 6 with (first | (go_at_call 37; (with_reducible refine (flow_interval_cut.calls (rd_T59 r a2).f0 (rd_T59 r a2).f1 a3 a3 y.f0 y.f1 _ (cut_f HY.out)).mono ?_); rintro e w7 ⟨rfl, hb⟩; have n0_ := Aside0.mk (below_step HB.out hb); have HRV := Aside0.mk (Kd.R_below HRV.out hb); have HK := Aside0.mk (Kd.S_below HK.out hb); have HE := Aside0.mk (iv_elem HRV.out a2 HA.out.1 HA.out.2); replace hcn0 := (hb.cell (World.block_lt_of_cell? _ _ hcn0)).trans hcn0; replace hcn1 := (hb.cell (World.block_lt_of_cell? _ _ hcn1)).trans hcn1; have BN4 := Aside0.mk (blk_below BN4.out hb); have hxz0 := HE.out.1.1; have hxz1 := HE.out.1.2; have hfz0 := HE.out.2.1.1; have hfz1 := HE.out.2.1.2; clear HB hb hx0 hx1; have HB := n0_; clear n0_))
    obtain ⟨w75, hw75⟩ : ∃ w75, w75 = (w7.setCell ⟨g3, a2.toNat * 2, none⟩ (.int .i64 y.f0)).setCell ⟨g3, a2.toNat * 2 + 1, none⟩ (.int .i64 y.f1) := ⟨_, rfl⟩
    rw [← hw75]
    have hP := HE.out.2.2 y
    rw [← hw75] at hP
    obtain ⟨cl7, hcl7⟩ : ∃ cl7, w7.heap[g3]? = some (.cells cl7 59 (0, 0)) := Kd.R_typed HRV.out g3 (by simp [Value.ownBlock])
    have n0_ := Aside0.mk (show Below w.heap.size w w75 by rw [hw75]; exact below_set (below_set HB.out GB3.out) GB3.out)
    have n1_ := Aside0.mk (Kd.S_mono (Kd.S_grown (Kd.S_types HK.out hcl7 (by decide)) hP.2 (fun k hk e => hk.2 (by cases e; rfl))) (fun _ hk => hk.1))
    have n2_ := Aside0.mk (blk_grown BN4.out hP.2 (by have := blk_ne BN4.out hcl7 (by decide); simpa using this))
    have n3_ := Aside0.mk hP.1
    clear HB HK BN4 HRV hxz0 hxz1 hfz0 hfz1 hcn0 hcn1 hP hcl7 HE
    have HB := n0_
    have HK := n1_
    have BN4 := n2_
    have HRV := n3_
    clear n0_ n1_ n2_ n3_ hw75
    have hcn0 : w75.cell? ⟨gn, 0, none⟩ = some (.slice A0 l0.length c0) := (blk_cell BN4.out 0).trans rfl
    have hcn1 : w75.cell? ⟨gn, 1, none⟩ = some (.slice A2 l0.length c2) := (blk_cell BN4.out 1).trans rfl
    have HIV0 := iv_elem HRV.out a2 HA.out.1 HA.out.2
    have hx0 : w75.cell? ⟨g3, a2.toNat * 2, none⟩ = some (.int .i64 y.f0) := by rw [HIV0.1.1]; rw [rd_set_self _ _ _ (by have := HA.out; have := HRL.out; omega)]
    have hx1 : w75.cell? ⟨g3, a2.toNat * 2 + 1, none⟩ = some (.int .i64 y.f1) := by rw [HIV0.1.2]; rw [rd_set_self _ _ _ (by have := HA.out; have := HRL.out; omega)]
    clear HIV0
    go_wp2_with (first | (go_at_call 38; (with_reducible refine (flow_interval_empty.calls y.f0 y.f1 _ _ (emptyI_f HEM.out)).mono ?_); rintro e w8 ⟨rfl, hb⟩; have n0_ := Aside0.mk (below_step HB.out hb); have HRV := Aside0.mk (Kd.R_below HRV.out hb); have HK := Aside0.mk (Kd.S_below HK.out hb); replace hcn0 := (hb.cell (World.block_lt_of_cell? _ _ hcn0)).trans hcn0; replace hcn1 := (hb.cell (World.block_lt_of_cell? _ _ hcn1)).trans hcn1; have BN4 := Aside0.mk (blk_below BN4.out hb); clear HB hb; have HB := n0_; clear n0_))
    go_ret2
    exact ⟨_, rfl, Kd.R_nil _ _ _ _ _, HB.out⟩
   | false =>
    have HEM := Aside0.mk hem
    cases hbo : (boundsF l0 kids rs).1 with
    | false =>
     have HBO := Aside0.mk hbo
     have e : stateR l0 l1 a2 a3 = ([], 30) := by unfold stateR netOk; rw [if_pos hl, ho]; simp only []; rw [if_pos hbel, if_neg hi0, if_neg hi1, ← hrr, ← hy, if_neg (by rw [hem]; decide), ← hrs, if_neg (by rw [hbo]; decide)]
     rw [e] at h
     injection h with e1 e2
     subst e1
     subst e2
     have HY := Aside0.mk hy
     have HRS := Aside0.mk hrs
     clear ho hl hbel e hi0 hi1 hrr hrs hem hy hbo
     go_enter Try.func18, Try.ntmps18
     go_upto_region 5 with (first | (go_at_call 25; (with_reducible refine (open_some A0 c0 l0 _ HR0.out HC0.out HSZ.out HO.out).mono ?_); rintro e w1 ⟨A2, c2, rfl, hS, hb⟩; have n0_ := Aside0.mk (below_step HB.out hb); have HK := Aside0.mk hS; clear HB hb hS; have HB := n0_; clear n0_) | ((with_reducible refine gate_dst (N := 10) rfl ?_); refine box_event ?hg (N := 10) ?hd (cs := #[.slice none 0 0, .slice none 0 0]) (t := 52) ?hr ?_; (case hd => rfl); (case hg => rfl); (case hr => first | (go_simp; done) | (go_simp; rfl)); intro gn hgn w3 hbn hb3; have hcn0 : w3.cell? ⟨gn, 0, none⟩ = some (.slice none 0 0) := (blk_cell hbn 0).trans rfl; have hcn1 : w3.cell? ⟨gn, 1, none⟩ = some (.slice none 0 0) := (blk_cell hbn 1).trans rfl; have hfn0 := blk_frozen hbn 0; have hfn1 := blk_frozen hbn 1; have BN := Aside0.mk hbn; have n0_ := Aside0.mk (below_step HB.out hb3); have GN := Aside0.mk (show w.heap.size ≤ gn by rw [hgn]; exact below_size HB.out); have GE := Aside0.mk hgn; (try have HK := Aside0.mk (Kd.S_below HK.out hb3)); clear HB hbn hb3 hgn; have HB := n0_; clear n0_) | ((with_reducible refine gate_store (t := 52) (p := 10) (v := .tmp 18) rfl ?_); refine store_event rfl (t := 52) (p := 10) (v := .tmp 18) rfl rfl (by first | (go_simp; done) | (go_simp; rfl)) ?_; intro w4 hw4; have BN4 := Aside0.mk (show w4.heap[gn]? = some (.cells #[.slice A0 l0.length c0, .slice A2 l0.length c2] 52 (0, 0)) by rw [hw4]; exact blk_put (blk_put BN.out 0 _ rfl) 1 _ rfl); have n0_ := Aside0.mk (show Below w.heap.size w w4 by rw [hw4]; exact below_set (below_set HB.out GN.out) GN.out); have HK := Aside0.mk (show Kd.S (Kd.slice 3 (Kd.int .i64)) 24 w4 w.heap.size (fun _ => True) (.slice A2 l0.length c2) kids by rw [hw4]; have ht := Kd.S_far (p := ⟨gn, 0, none⟩) (Kd.S_types HK.out BN.out (by decide)) (fun _ hk => hk.2) (.slice A0 l0.length c0); exact Kd.S_mono (Kd.S_far (p := ⟨gn, 1, none⟩) ht (fun _ hk => hk.2) (.slice A2 l0.length c2)) (fun _ hk => hk.1)); clear hw4 BN HB hcn0 hcn1 hfn0 hfn1; have HB := n0_; clear n0_; have hcn0 : w4.cell? ⟨gn, 0, none⟩ = some (.slice A0 l0.length c0) := (blk_cell BN4.out 0).trans rfl; have hcn1 : w4.cell? ⟨gn, 1, none⟩ = some (.slice A2 l0.length c2) := (blk_cell BN4.out 1).trans rfl) | (go_at_call 26; (with_reducible refine (belongs_calls A0 l0.length c0 A2 l0.length c2 A1 c1 l1 _ (Kd.C_below HR1.out HB.out) HC1.out (by have := HSZ1.out; omega) (by have := HSZ.out; omega)).mono ?_); rw [HBEL.out]; rintro e w5 ⟨rfl, hb⟩; have n0_ := Aside0.mk (below_step HB.out hb); have HK := Aside0.mk (Kd.S_below HK.out hb); replace hcn0 := (hb.cell (World.block_lt_of_cell? _ _ hcn0)).trans hcn0; replace hcn1 := (hb.cell (World.block_lt_of_cell? _ _ hcn1)).trans hcn1; have BN4 := Aside0.mk (blk_below BN4.out hb); clear HB hb; have HB := n0_; clear n0_) | (go_at_call 27; (with_reducible refine (flow_intervals.calls (l1.length + 1) A1 c1 l1 r _ (Kd.C_below HR1.out HB.out) HC1.out HI.out).mono ?_); rintro e w6 ⟨v6, rfl, hR, hb⟩; obtain ⟨A3, c3, rfl⟩ := Kd.R_slice hR; rw [HRL.out] at hR; have n0_ := Aside0.mk (below_step HB.out hb); have HRV := Aside0.mk (Kd.R_lower hR (below_size HB.out)); have HK := Aside0.mk (Kd.S_below HK.out hb); replace hcn0 := (hb.cell (World.block_lt_of_cell? _ _ hcn0)).trans hcn0; replace hcn1 := (hb.cell (World.block_lt_of_cell? _ _ hcn1)).trans hcn1; have BN4 := Aside0.mk (blk_below BN4.out hb); rw [HRL.out]; clear HB hb hR; have HB := n0_; clear n0_))
     obtain ⟨g3, cg3, e3, gb3, gl3, cl3, hcl3⟩ := Kd.R_form HRV.out (by have := HA.out; have := HRL.out; omega)
     injection e3 with ea en ec
     subst ea
     subst ec
     have GB3 := Aside0.mk gb3
     clear en gb3 gl3 hcl3
     have HIV0 := iv_elem HRV.out a2 HA.out.1 HA.out.2
     have hx0 := HIV0.1.1
     have hx1 := HIV0.1.2
     clear HIV0
     go_upto_region 6 with (first | (go_at_call 37; (with_reducible refine (flow_interval_cut.calls (rd_T59 r a2).f0 (rd_T59 r a2).f1 a3 a3 y.f0 y.f1 _ (cut_f HY.out)).mono ?_); rintro e w7 ⟨rfl, hb⟩; have n0_ := Aside0.mk (below_step HB.out hb); have HRV := Aside0.mk (Kd.R_below HRV.out hb); have HK := Aside0.mk (Kd.S_below HK.out hb); have HE := Aside0.mk (iv_elem HRV.out a2 HA.out.1 HA.out.2); replace hcn0 := (hb.cell (World.block_lt_of_cell? _ _ hcn0)).trans hcn0; replace hcn1 := (hb.cell (World.block_lt_of_cell? _ _ hcn1)).trans hcn1; have BN4 := Aside0.mk (blk_below BN4.out hb); have hxz0 := HE.out.1.1; have hxz1 := HE.out.1.2; have hfz0 := HE.out.2.1.1; have hfz1 := HE.out.2.1.2; clear HB hb hx0 hx1; have HB := n0_; clear n0_))
     obtain ⟨w75, hw75⟩ : ∃ w75, w75 = (w7.setCell ⟨g3, a2.toNat * 2, none⟩ (.int .i64 y.f0)).setCell ⟨g3, a2.toNat * 2 + 1, none⟩ (.int .i64 y.f1) := ⟨_, rfl⟩
     rw [← hw75]
     have hP := HE.out.2.2 y
     rw [← hw75] at hP
     obtain ⟨cl7, hcl7⟩ : ∃ cl7, w7.heap[g3]? = some (.cells cl7 59 (0, 0)) := Kd.R_typed HRV.out g3 (by simp [Value.ownBlock])
     have n0_ := Aside0.mk (show Below w.heap.size w w75 by rw [hw75]; exact below_set (below_set HB.out GB3.out) GB3.out)
     have n1_ := Aside0.mk (Kd.S_mono (Kd.S_grown (Kd.S_types HK.out hcl7 (by decide)) hP.2 (fun k hk e => hk.2 (by cases e; rfl))) (fun _ hk => hk.1))
     have n2_ := Aside0.mk (blk_grown BN4.out hP.2 (by have := blk_ne BN4.out hcl7 (by decide); simpa using this))
     have n3_ := Aside0.mk hP.1
     clear HB HK BN4 HRV hxz0 hxz1 hfz0 hfz1 hcn0 hcn1 hP hcl7 HE
     have HB := n0_
     have HK := n1_
     have BN4 := n2_
     have HRV := n3_
     clear n0_ n1_ n2_ n3_ hw75
     have hcn0 : w75.cell? ⟨gn, 0, none⟩ = some (.slice A0 l0.length c0) := (blk_cell BN4.out 0).trans rfl
     have hcn1 : w75.cell? ⟨gn, 1, none⟩ = some (.slice A2 l0.length c2) := (blk_cell BN4.out 1).trans rfl
     have HIV0 := iv_elem HRV.out a2 HA.out.1 HA.out.2
     have hx0 : w75.cell? ⟨g3, a2.toNat * 2, none⟩ = some (.int .i64 y.f0) := by rw [HIV0.1.1]; rw [rd_set_self _ _ _ (by have := HA.out; have := HRL.out; omega)]
     have hx1 : w75.cell? ⟨g3, a2.toNat * 2 + 1, none⟩ = some (.int .i64 y.f1) := by rw [HIV0.1.2]; rw [rd_set_self _ _ _ (by have := HA.out; have := HRL.out; omega)]
     clear HIV0
     go_wp2_with (first | (go_at_call 38; (with_reducible refine (flow_interval_empty.calls y.f0 y.f1 _ _ (emptyI_f HEM.out)).mono ?_); rintro e w8 ⟨rfl, hb⟩; have n0_ := Aside0.mk (below_step HB.out hb); have HRV := Aside0.mk (Kd.R_below HRV.out hb); have HK := Aside0.mk (Kd.S_below HK.out hb); replace hcn0 := (hb.cell (World.block_lt_of_cell? _ _ hcn0)).trans hcn0; replace hcn1 := (hb.cell (World.block_lt_of_cell? _ _ hcn1)).trans hcn1; have BN4 := Aside0.mk (blk_below BN4.out hb); clear HB hb; have HB := n0_; clear n0_) | (go_at_call 28; (with_reducible refine (bounds_calls w _ A0 c0 l0 A2 c2 kids (some ⟨g3, 0, none⟩) c3 rs HB.out HR0.out HC0.out HSZ.out HK.out HKO.out (HRS.out ▸ HRV.out) HRSL.out).mono ?_); rw [HBO.out]; rintro e w7 ⟨rfl, hR, hg⟩; have n0_ := Aside0.mk (grown_below HB.out hg (Kd.R_base HRV.out)); have HRV := Aside0.mk (by first | (rw [← HBB.out] at hR; exact hR) | exact hR); clear HB hg hR; have HB := n0_; clear n0_))
     go_ret2
     exact ⟨_, rfl, Kd.R_nil _ _ _ _ _, HB.out⟩
    | true =>
     have HBO := Aside0.mk hbo
     obtain ⟨b, hb_⟩ : ∃ b, b = (boundsF l0 kids rs).2 := ⟨_, rfl⟩
     have HBL := Aside0.mk (show b.length = l0.length by rw [hb_, boundsF_len, HRSL.out])
     have e : stateR l0 l1 a2 a3 = ((stateFold l0 kids b l0.length).1, 0) := by unfold stateR netOk; rw [if_pos hl, ho]; simp only []; rw [if_pos hbel, if_neg hi0, if_neg hi1, ← hrr, ← hy, if_neg (by rw [hem]; decide), ← hrs, if_pos hbo, ← hb_]
     rw [e] at h
     injection h with e1 e2
     subst e1
     subst e2
     have HY := Aside0.mk hy
     have HRS := Aside0.mk hrs
     have HBB := Aside0.mk hb_
     clear ho hl hbel e hi0 hi1 hrr hrs hem hy hbo hb_
     go_enter Try.func18, Try.ntmps18
     go_upto_region 5 with (first | (go_at_call 25; (with_reducible refine (open_some A0 c0 l0 _ HR0.out HC0.out HSZ.out HO.out).mono ?_); rintro e w1 ⟨A2, c2, rfl, hS, hb⟩; have n0_ := Aside0.mk (below_step HB.out hb); have HK := Aside0.mk hS; clear HB hb hS; have HB := n0_; clear n0_) | ((with_reducible refine gate_dst (N := 10) rfl ?_); refine box_event ?hg (N := 10) ?hd (cs := #[.slice none 0 0, .slice none 0 0]) (t := 52) ?hr ?_; (case hd => rfl); (case hg => rfl); (case hr => first | (go_simp; done) | (go_simp; rfl)); intro gn hgn w3 hbn hb3; have hcn0 : w3.cell? ⟨gn, 0, none⟩ = some (.slice none 0 0) := (blk_cell hbn 0).trans rfl; have hcn1 : w3.cell? ⟨gn, 1, none⟩ = some (.slice none 0 0) := (blk_cell hbn 1).trans rfl; have hfn0 := blk_frozen hbn 0; have hfn1 := blk_frozen hbn 1; have BN := Aside0.mk hbn; have n0_ := Aside0.mk (below_step HB.out hb3); have GN := Aside0.mk (show w.heap.size ≤ gn by rw [hgn]; exact below_size HB.out); have GE := Aside0.mk hgn; (try have HK := Aside0.mk (Kd.S_below HK.out hb3)); clear HB hbn hb3 hgn; have HB := n0_; clear n0_) | ((with_reducible refine gate_store (t := 52) (p := 10) (v := .tmp 18) rfl ?_); refine store_event rfl (t := 52) (p := 10) (v := .tmp 18) rfl rfl (by first | (go_simp; done) | (go_simp; rfl)) ?_; intro w4 hw4; have BN4 := Aside0.mk (show w4.heap[gn]? = some (.cells #[.slice A0 l0.length c0, .slice A2 l0.length c2] 52 (0, 0)) by rw [hw4]; exact blk_put (blk_put BN.out 0 _ rfl) 1 _ rfl); have n0_ := Aside0.mk (show Below w.heap.size w w4 by rw [hw4]; exact below_set (below_set HB.out GN.out) GN.out); have HK := Aside0.mk (show Kd.S (Kd.slice 3 (Kd.int .i64)) 24 w4 w.heap.size (fun _ => True) (.slice A2 l0.length c2) kids by rw [hw4]; have ht := Kd.S_far (p := ⟨gn, 0, none⟩) (Kd.S_types HK.out BN.out (by decide)) (fun _ hk => hk.2) (.slice A0 l0.length c0); exact Kd.S_mono (Kd.S_far (p := ⟨gn, 1, none⟩) ht (fun _ hk => hk.2) (.slice A2 l0.length c2)) (fun _ hk => hk.1)); clear hw4 BN HB hcn0 hcn1 hfn0 hfn1; have HB := n0_; clear n0_; have hcn0 : w4.cell? ⟨gn, 0, none⟩ = some (.slice A0 l0.length c0) := (blk_cell BN4.out 0).trans rfl; have hcn1 : w4.cell? ⟨gn, 1, none⟩ = some (.slice A2 l0.length c2) := (blk_cell BN4.out 1).trans rfl) | (go_at_call 26; (with_reducible refine (belongs_calls A0 l0.length c0 A2 l0.length c2 A1 c1 l1 _ (Kd.C_below HR1.out HB.out) HC1.out (by have := HSZ1.out; omega) (by have := HSZ.out; omega)).mono ?_); rw [HBEL.out]; rintro e w5 ⟨rfl, hb⟩; have n0_ := Aside0.mk (below_step HB.out hb); have HK := Aside0.mk (Kd.S_below HK.out hb); replace hcn0 := (hb.cell (World.block_lt_of_cell? _ _ hcn0)).trans hcn0; replace hcn1 := (hb.cell (World.block_lt_of_cell? _ _ hcn1)).trans hcn1; have BN4 := Aside0.mk (blk_below BN4.out hb); clear HB hb; have HB := n0_; clear n0_) | (go_at_call 27; (with_reducible refine (flow_intervals.calls (l1.length + 1) A1 c1 l1 r _ (Kd.C_below HR1.out HB.out) HC1.out HI.out).mono ?_); rintro e w6 ⟨v6, rfl, hR, hb⟩; obtain ⟨A3, c3, rfl⟩ := Kd.R_slice hR; rw [HRL.out] at hR; have n0_ := Aside0.mk (below_step HB.out hb); have HRV := Aside0.mk (Kd.R_lower hR (below_size HB.out)); have HK := Aside0.mk (Kd.S_below HK.out hb); replace hcn0 := (hb.cell (World.block_lt_of_cell? _ _ hcn0)).trans hcn0; replace hcn1 := (hb.cell (World.block_lt_of_cell? _ _ hcn1)).trans hcn1; have BN4 := Aside0.mk (blk_below BN4.out hb); rw [HRL.out]; clear HB hb hR; have HB := n0_; clear n0_))
     obtain ⟨g3, cg3, e3, gb3, gl3, cl3, hcl3⟩ := Kd.R_form HRV.out (by have := HA.out; have := HRL.out; omega)
     injection e3 with ea en ec
     subst ea
     subst ec
     have GB3 := Aside0.mk gb3
     clear en gb3 gl3 hcl3
     have HIV0 := iv_elem HRV.out a2 HA.out.1 HA.out.2
     have hx0 := HIV0.1.1
     have hx1 := HIV0.1.2
     clear HIV0
     go_upto_region 6 with (first | (go_at_call 37; (with_reducible refine (flow_interval_cut.calls (rd_T59 r a2).f0 (rd_T59 r a2).f1 a3 a3 y.f0 y.f1 _ (cut_f HY.out)).mono ?_); rintro e w7 ⟨rfl, hb⟩; have n0_ := Aside0.mk (below_step HB.out hb); have HRV := Aside0.mk (Kd.R_below HRV.out hb); have HK := Aside0.mk (Kd.S_below HK.out hb); have HE := Aside0.mk (iv_elem HRV.out a2 HA.out.1 HA.out.2); replace hcn0 := (hb.cell (World.block_lt_of_cell? _ _ hcn0)).trans hcn0; replace hcn1 := (hb.cell (World.block_lt_of_cell? _ _ hcn1)).trans hcn1; have BN4 := Aside0.mk (blk_below BN4.out hb); have hxz0 := HE.out.1.1; have hxz1 := HE.out.1.2; have hfz0 := HE.out.2.1.1; have hfz1 := HE.out.2.1.2; clear HB hb hx0 hx1; have HB := n0_; clear n0_))
     obtain ⟨w75, hw75⟩ : ∃ w75, w75 = (w7.setCell ⟨g3, a2.toNat * 2, none⟩ (.int .i64 y.f0)).setCell ⟨g3, a2.toNat * 2 + 1, none⟩ (.int .i64 y.f1) := ⟨_, rfl⟩
     rw [← hw75]
     have hP := HE.out.2.2 y
     rw [← hw75] at hP
     obtain ⟨cl7, hcl7⟩ : ∃ cl7, w7.heap[g3]? = some (.cells cl7 59 (0, 0)) := Kd.R_typed HRV.out g3 (by simp [Value.ownBlock])
     have n0_ := Aside0.mk (show Below w.heap.size w w75 by rw [hw75]; exact below_set (below_set HB.out GB3.out) GB3.out)
     have n1_ := Aside0.mk (Kd.S_mono (Kd.S_grown (Kd.S_types HK.out hcl7 (by decide)) hP.2 (fun k hk e => hk.2 (by cases e; rfl))) (fun _ hk => hk.1))
     have n2_ := Aside0.mk (blk_grown BN4.out hP.2 (by have := blk_ne BN4.out hcl7 (by decide); simpa using this))
     have n3_ := Aside0.mk hP.1
     clear HB HK BN4 HRV hxz0 hxz1 hfz0 hfz1 hcn0 hcn1 hP hcl7 HE
     have HB := n0_
     have HK := n1_
     have BN4 := n2_
     have HRV := n3_
     clear n0_ n1_ n2_ n3_ hw75
     have hcn0 : w75.cell? ⟨gn, 0, none⟩ = some (.slice A0 l0.length c0) := (blk_cell BN4.out 0).trans rfl
     have hcn1 : w75.cell? ⟨gn, 1, none⟩ = some (.slice A2 l0.length c2) := (blk_cell BN4.out 1).trans rfl
     have HIV0 := iv_elem HRV.out a2 HA.out.1 HA.out.2
     have hx0 : w75.cell? ⟨g3, a2.toNat * 2, none⟩ = some (.int .i64 y.f0) := by rw [HIV0.1.1]; rw [rd_set_self _ _ _ (by have := HA.out; have := HRL.out; omega)]
     have hx1 : w75.cell? ⟨g3, a2.toNat * 2 + 1, none⟩ = some (.int .i64 y.f1) := by rw [HIV0.1.2]; rw [rd_set_self _ _ _ (by have := HA.out; have := HRL.out; omega)]
     clear HIV0
     go_wp2_with (first | (go_at_call 38; (with_reducible refine (flow_interval_empty.calls y.f0 y.f1 _ _ (emptyI_f HEM.out)).mono ?_); rintro e w8 ⟨rfl, hb⟩; have n0_ := Aside0.mk (below_step HB.out hb); have HRV := Aside0.mk (Kd.R_below HRV.out hb); have HK := Aside0.mk (Kd.S_below HK.out hb); replace hcn0 := (hb.cell (World.block_lt_of_cell? _ _ hcn0)).trans hcn0; replace hcn1 := (hb.cell (World.block_lt_of_cell? _ _ hcn1)).trans hcn1; have BN4 := Aside0.mk (blk_below BN4.out hb); clear HB hb; have HB := n0_; clear n0_) | (go_at_call 28; (with_reducible refine (bounds_calls w _ A0 c0 l0 A2 c2 kids (some ⟨g3, 0, none⟩) c3 rs HB.out HR0.out HC0.out HSZ.out HK.out HKO.out (HRS.out ▸ HRV.out) HRSL.out).mono ?_); rw [HBO.out]; rintro e w7 ⟨rfl, hR, hg⟩; have n0_ := Aside0.mk (grown_below HB.out hg (Kd.R_base HRV.out)); have HRVo := HRV; clear HRV; have HRV := Aside0.mk (by first | (rw [← HBB.out] at hR; exact hR) | exact hR); have n1_ := Aside0.mk (Kd.S_mono (Kd.S_grown (Kd.S_apart' HK.out (Kd.R_typed HRVo.out) (by decide)) hg (fun _ hk => hk.2)) (fun _ hk => hk.1)); have n2_ := Aside0.mk (blk_grown BN4.out hg (Kd.R_ne HRVo.out BN4.out (by decide))); clear HK BN4 HRVo hcn0 hcn1; have HK := n1_; have BN4 := n2_; clear n1_ n2_; clear HB hg hR; have HB := n0_; clear n0_) | ((with_reducible refine gate_dst (N := 63) rfl ?_); refine Kd.R_make (Kd.int .i64) _ 3 rfl (N := 63) rfl 24 _ _ rfl (l0.length : Int) rfl rfl Try.underlying24 (.int .i64 0) 8 info3 rfl (by decide) (by omega) 0 (ok := fun _ => True) (okp := fun _ => True) rfl (fun _ hk => hk) trivial (by omega) (by have := HSZ.out; omega) (Below.refl _ _) (Nat.le_refl _) ?_; intro v1 w9 ho hb hg_ hnew_; have n0_ := Aside0.mk (below_step HB.out hb); have HO8 := Aside0.mk ho; have HN := Aside0.mk (below_size HB.out); have HRV := Aside0.mk (Kd.R_below HRV.out hb); have HK := Aside0.mk (Kd.S_old HK.out hb); have BN4 := Aside0.mk (blk_below BN4.out hb); clear HB hb ho hg_ hnew_; have HB := n0_; clear n0_))
     obtain ⟨Ao, co, eo⟩ := Kd.R_slice HO8.out
     subst eo
     rw [List.length_replicate, Int.toNat_natCast] at *
     have GV := Aside0.mk (Kd.R_base HRV.out)
     go_loopg [66] l0.length (fun kq v66 wr => ∃ (n : Nat) (x : List Int) (rr : List S59), v66 = .int .i64 n ∧ Aside0 (kq + n = l0.length) ∧ Aside0 ((x, rr) = stateFold l0 kids b n) ∧ Aside0 (Kd.R (Kd.int .i64) 3 wr w7.heap.size (fun _ => True) (.slice Ao l0.length co) x) ∧ Aside0 (Kd.R k59 59 wr w.heap.size (fun _ => True) (.slice (some ⟨g3, 0, none⟩) l0.length c3) rr)
      ∧ Aside0 (Kd.S (Kd.slice 3 (Kd.int .i64)) 24 wr w.heap.size (fun k => True ∧ k < w7.heap.size) (.slice A2 l0.length c2) kids) ∧ Aside0 (wr.heap[gn]? = some (.cells #[.slice A0 l0.length c0, .slice A2 l0.length c2] 52 (0, 0))) ∧ Aside0 (Below w.heap.size w wr))
     case atStart => exact ⟨0, _, b, rfl, ⟨by omega⟩, ⟨rfl⟩, HO8, HRV, HK, BN4, HB⟩
     case round =>
      clear HO8 HRV HB BN4 HK
      obtain ⟨n, x, rr, rfl, HM, HF, HX, HRV, HK, BN4, HB⟩ := hrel
      have HXL := Aside0.mk (show x.length = l0.length ∧ rr.length = l0.length by have h := stateFold_len l0 kids b n; rw [← HF.out] at h; exact ⟨h.1, h.2.trans HBL.out⟩)
      by_cases hlt : n < l0.length
      ·obtain ⟨i, hi⟩ : ∃ i : Int, i = (n : Int) := ⟨_, rfl⟩
       rw [← hi]
       have HI2 := Aside0.mk (show 0 ≤ i ∧ i < l0.length ∧ i = (n : Int) from ⟨by omega, by omega, hi⟩)
       have d2' : decide (i < (l0.length : Int)) = true := decide_eq_true HI2.out.2.1
       have ci2 : (0 ≤ i) = True := eq_true HI2.out.1
       have ci3 : (i < l0.length) = True := eq_true HI2.out.2.1
       have hIV := iv_elem HRV.out i HI2.out.1 HI2.out.2.1
       have hx0 := hIV.1.1
       obtain ⟨go, cgo, eo, gob, gol, ogl, hogl⟩ := Kd.R_form HX.out (by have := HI2.out; have := HXL.out; omega)
       injection eo with ea en ec
       subst ea
       subst ec
       have HGB := Aside0.mk gob
       obtain ⟨hy0, hfy0⟩ := Kd.R_celln 0 HX.out i HI2.out.1 HI2.out.2.1
       obtain ⟨v, hv⟩ : ∃ v, v = (rd_T59 rr i).f0 := ⟨_, rfl⟩
       have HV := Aside0.mk hv
       rw [← hv] at hx0
       have hX10 := Kd.R_putg HX.out i v
       have HG3 := Aside0.mk (show w.heap.size ≤ g3 from GV.out g3 (by simp [Value.ownBlock]))
       have HO1 := Aside0.mk hogl
       clear hi hlt en gob gol hogl hIV hv
       go_upto_region 13 with (first | (go_at_call 37; skip))
       obtain ⟨w10, hw10⟩ : ∃ w10, w10 = wr.setCell ⟨go, i.toNat, none⟩ (.int .i64 v) := ⟨_, rfl⟩
       rw [← hw10]
       have hX10' : Kd.R (Kd.int .i64) 3 w10 w7.heap.size (fun _ => True) (.slice (some ⟨go, 0, none⟩) l0.length co) (x.set i.toNat v) ∧ wr.grownBy w10 (some go) := by rw [hw10]; exact hX10
       have HX10 := Aside0.mk hX10'.1
       have n1_ := Aside0.mk (Kd.R_mono (Kd.R_grown (Kd.R_types HRV.out HO1.out (by decide)) hX10'.2 (fun k hk e => hk.2 (by cases e; rfl))) (fun _ hk => hk.1))
       have n2_ := Aside0.mk (Kd.S_grown HK.out hX10'.2 (fun k hk e => by cases e; have := hk.2; have := HGB.out; omega))
       have n3_ := Aside0.mk (blk_grown BN4.out hX10'.2 (by have := blk_ne BN4.out HO1.out (by decide); simpa using this))
       have n4_ := Aside0.mk (show Below w.heap.size w w10 by rw [hw10]; exact below_set HB.out (Nat.le_trans HN.out HGB.out))
       have hy1 : w10.drew.cell? ⟨go, i.toNat, none⟩ = some (.int .i64 v) := by have h := (Kd.R_celln 0 (Kd.R_drew HX10.out) i HI2.out.1 HI2.out.2.1).1; rw [rdOf_set_self _ _ _ (by have := HI2.out; have := HXL.out; omega)] at h; exact h
       clear hX10 hX10' hw10 HX HRV HK BN4 HB hy0 hfy0 hx0 HO1
       have HRV := n1_
       have HK := n2_
       have BN4 := n3_
       have HB := n4_
       clear n1_ n2_ n3_ n4_
       have HE := Aside0.mk (iv_elem HRV.out i HI2.out.1 HI2.out.2.1)
       have hxz0 := HE.out.1.1
       have hxz1 := HE.out.1.2
       have hfz0 := HE.out.2.1.1
       have hfz1 := HE.out.2.1.2
       go_wp2
       refine start_ (n := 13) (S := fun w' => w'.cell? ⟨go, i.toNat, none⟩ = some (.int .i64 v)) (ds := [12]) #[n_, n_, n_, n_, n_, n_, n_, n_, n_, n_, n_, n_, n_] (by kernel_rfl) rfl rfl (hy1) (fun hHeld => ?_)
       refine pure_ (i := 0) (N := some 77) (v := ?_) (a' := ?_) #[y_, n_, n_, n_, n_, n_, n_, n_, n_, n_, n_, n_, n_] rfl rfl (by kernel_rfl) (fun _ _ _ h => h) (Or.inl ⟨by rfl, ?_⟩) ?_ ?_
       rotate_left
       ·intro w'
        go_simp
        with_reducible rfl
       rotate_left
       ·simp only [Act.put, sI_, s0_, sS_, i64_w, i32_w]
        rfl
       refine pure_ (i := 1) (N := some 78) (v := ?_) (a' := ?_) #[y_, y_, n_, n_, n_, n_, n_, n_, n_, n_, n_, n_, n_] rfl rfl (by kernel_rfl) (fun _ _ _ h => h) (Or.inl ⟨by rfl, ?_⟩) ?_ ?_
       rotate_left
       ·intro w'
        go_simp
        with_reducible rfl
       rotate_left
       ·simp only [Act.put, sI_, s0_, sS_, i64_w, i32_w]
        rfl
       refine pure_ (i := 2) (N := some 79) (v := ?_) (a' := ?_) #[y_, y_, y_, n_, n_, n_, n_, n_, n_, n_, n_, n_, n_] rfl rfl (by kernel_rfl) (fun _ _ _ h => h) (Or.inl ⟨by rfl, ?_⟩) ?_ ?_
       rotate_left
       ·intro w'
        go_simp
        with_reducible rfl
       rotate_left
       ·simp only [Act.put, sI_, s0_, sS_, i64_w, i32_w]
        rfl
       refine pure_ (i := 3) (N := some 80) (v := ?_) (a' := ?_) #[y_, y_, y_, y_, n_, n_, n_, n_, n_, n_, n_, n_, n_] rfl rfl (by kernel_rfl) (fun _ _ _ h => h) (Or.inl ⟨by rfl, ?_⟩) ?_ ?_
       rotate_left
       ·intro w'
        go_simp
        with_reducible rfl
       rotate_left
       ·simp only [Act.put, sI_, s0_, sS_, i64_w, i32_w]
        rfl
       refine pure_ (i := 4) (N := some 81) (v := ?_) (a' := ?_) #[y_, y_, y_, y_, y_, n_, n_, n_, n_, n_, n_, n_, n_] rfl rfl (by kernel_rfl) (fun _ _ _ h => h) (Or.inl ⟨by rfl, ?_⟩) ?_ ?_
       rotate_left
       ·intro w'
        go_simp
        with_reducible rfl
       rotate_left
       ·simp only [Act.put, sI_, s0_, sS_, i64_w, i32_w]
        rfl
       refine pure_ (i := 6) (N := some 83) (v := ?_) (a' := ?_) #[y_, y_, y_, y_, y_, n_, y_, n_, n_, n_, n_, n_, n_] rfl rfl (by kernel_rfl) (fun _ _ _ h => h) (Or.inl ⟨by rfl, ?_⟩) ?_ ?_
       rotate_left
       ·intro w'
        go_simp
        with_reducible rfl
       rotate_left
       ·simp only [Act.put, sI_, s0_, sS_, i64_w, i32_w]
        rfl
       refine pure_ (i := 7) (N := some 84) (v := ?_) (a' := ?_) #[y_, y_, y_, y_, y_, n_, y_, y_, n_, n_, n_, n_, n_] rfl rfl (by kernel_rfl) (fun _ _ _ h => h) (Or.inl ⟨by rfl, ?_⟩) ?_ ?_
       rotate_left
       ·intro w'
        go_simp
        with_reducible rfl
       rotate_left
       ·simp only [Act.put, sI_, s0_, sS_, i64_w, i32_w]
        rfl
       refine pure_ (i := 8) (N := some 85) (v := ?_) (a' := ?_) #[y_, y_, y_, y_, y_, n_, y_, y_, y_, n_, n_, n_, n_] rfl rfl (by kernel_rfl) (fun _ _ _ h => h) (Or.inl ⟨by rfl, ?_⟩) ?_ ?_
       rotate_left
       ·intro w'
        go_simp
        with_reducible rfl
       rotate_left
       ·simp only [Act.put, sI_, s0_, sS_, i64_w, i32_w]
        rfl
       refine take_ (i := 5) (N := some 82) (v := ?_) (a' := ?_) #[y_, y_, y_, y_, y_, y_, y_, y_, y_, n_, n_, n_, n_] rfl rfl (by kernel_rfl) (fun _ _ _ h => h) (Or.inl ⟨by rfl, ?_⟩) hHeld ?_ ?_
       rotate_left
       ·intro w' s0
        go_simp
        with_reducible rfl
       rotate_left
       ·simp only [Act.put, sI_, s0_, sS_, i64_w, i32_w]
        rfl
       refine take_ (i := 9) (N := some 86) (v := ?_) (a' := ?_) #[y_, y_, y_, y_, y_, y_, y_, y_, y_, y_, n_, n_, n_] rfl rfl (by kernel_rfl) (fun _ _ _ h => h) (Or.inl ⟨by rfl, ?_⟩) hHeld ?_ ?_
       rotate_left
       ·intro w' s0
        go_simp
        with_reducible rfl
       rotate_left
       ·simp only [Act.put, sI_, s0_, sS_, i64_w, i32_w]
        rfl
       refine pure_ (i := 10) (N := some 87) (v := ?_) (a' := ?_) #[y_, y_, y_, y_, y_, y_, y_, y_, y_, y_, y_, n_, n_] rfl rfl (by kernel_rfl) (fun _ _ _ h => h) (Or.inl ⟨by rfl, ?_⟩) ?_ ?_
       rotate_left
       ·intro w'
        go_simp
        with_reducible rfl
       rotate_left
       ·simp only [Act.put, sI_, s0_, sS_, i64_w, i32_w]
        rfl
       refine pure_ (i := 11) (N := some 88) (v := ?_) (a' := ?_) #[y_, y_, y_, y_, y_, y_, y_, y_, y_, y_, y_, y_, n_] rfl rfl (by kernel_rfl) (fun _ _ _ h => h) (Or.inl ⟨by rfl, ?_⟩) ?_ ?_
       rotate_left
       ·intro w'
        go_simp
        with_reducible rfl
       rotate_left
       ·simp only [Act.put, sI_, s0_, sS_, i64_w, i32_w]
        rfl
       refine last_ (i := 12) (N := none) #[y_, y_, y_, y_, y_, y_, y_, y_, y_, y_, y_, y_, y_] rfl rfl (by kernel_rfl) (by decide) (fun K hK => ?_)
       refine skip_ (w1 := ?_) (by rfl) rfl ?_ ?_
       rotate_left
       ·go_simp
        rfl
       refine hK.out _ _ ?_
       clear hK K
       refine done_ (by kernel_rfl) ?_
       obtain ⟨w12, hw12⟩ : ∃ w12, w12 = ((w10.setCell ⟨g3, i.toNat * 2, none⟩ (.int .i64 v)).setCell ⟨g3, i.toNat * 2 + 1, none⟩ (.int .i64 v)).drew := ⟨_, rfl⟩
       rw [← hw12]
       have hP := HE.out.2.2 ⟨v, v⟩
       have hgw : w10.grownBy w12 (some g3) := by rw [hw12]; exact grown_drew hP.2
       obtain ⟨cl10, hcl10⟩ : ∃ cl10, w10.heap[g3]? = some (.cells cl10 59 (0, 0)) := Kd.R_typed HRV.out g3 (by simp [Value.ownBlock])
       have n1_ := Aside0.mk (show Kd.R k59 59 w12 w.heap.size (fun _ => True) (.slice (some ⟨g3, 0, none⟩) l0.length c3) (rr.set i.toNat ⟨v, v⟩) by rw [hw12]; exact Kd.R_drew hP.1)
       have n2_ := Aside0.mk (Kd.S_mono (Kd.S_grown (Kd.S_types HK.out hcl10 (by decide)) hgw (fun k hk e => hk.2 (by cases e; rfl))) (fun _ hk => hk.1))
       have n3_ := Aside0.mk (blk_grown BN4.out hgw (by have := blk_ne BN4.out hcl10 (by decide); simpa using this))
       have n4_ := Aside0.mk (show Below w.heap.size w w12 by rw [hw12]; exact below_drew (below_set (below_set HB.out HG3.out) HG3.out))
       have n5_ := Aside0.mk (Kd.R_mono (Kd.R_grown (Kd.R_types HX10.out hcl10 (by decide)) hgw (fun k hk e => hk.2 (by cases e; rfl))) (fun _ hk => hk.1))
       clear hHeld hxz0 hxz1 hfz0 hfz1 HE hP hgw hw12 hcl10 HRV HK BN4 HB HX10 hy1
       have HRV := n1_
       have HK := n2_
       have BN4 := n3_
       have HB := n4_
       have HX := n5_
       clear n1_ n2_ n3_ n4_ n5_
       have hcn0 : w12.cell? ⟨gn, 0, none⟩ = some (.slice A0 l0.length c0) := (blk_cell BN4.out 0).trans rfl
       have hcn1 : w12.cell? ⟨gn, 1, none⟩ = some (.slice A2 l0.length c2) := (blk_cell BN4.out 1).trans rfl
       have hz1 : i + 1 ≤ 9223372036854775807 := by have := HI2.out; have := HSZ.out; omega
       have hz2 : -9223372036854775808 ≤ i + 1 := by have := HI2.out; omega
       go_wp2_with (first | (go_at_call 28; (with_reducible refine (bounds_calls w _ A0 c0 l0 A2 c2 kids (some ⟨g3, 0, none⟩) c3 (rr.set i.toNat ⟨v, v⟩) HB.out HR0.out HC0.out HSZ.out (Kd.S_mono HK.out (fun _ _ => trivial)) HKO.out HRV.out (by rw [List.length_set]; exact HXL.out.2)).mono ?_); rintro e w13 ⟨rfl, hR, hg⟩; have n0_ := Aside0.mk (grown_below HB.out hg (Kd.R_base HRV.out)); have n1_ := Aside0.mk (Kd.S_mono (Kd.S_grown (Kd.S_apart' HK.out (Kd.R_typed HRV.out) (by decide)) hg (fun _ hk => hk.2)) (fun _ hk => hk.1)); have n2_ := Aside0.mk (blk_grown BN4.out hg (Kd.R_ne HRV.out BN4.out (by decide))); have n3_ := Aside0.mk (Kd.R_mono (Kd.R_grown (Kd.R_apartR HX.out HRV.out (by decide)) hg (fun _ hk => hk.2)) (fun _ hk => hk.1)); have n4_ := Aside0.mk hR; clear HRV HK BN4 HB HX hcn0 hcn1; have HB := n0_; have HK := n1_; have BN4 := n2_; have HX := n3_; have HRV := n4_; clear n0_ n1_ n2_ n3_ n4_; clear hR hg))
       go_roundg (gk - 1)
       case measure => have := HM.out; have := HI2.out; omega
       case rel =>
        refine ⟨n + 1, x.set i.toNat v, (boundsF l0 kids (rr.set i.toNat ⟨v, v⟩)).2, ?_, ⟨by have := HM.out; have := HI2.out; omega⟩, ⟨?_⟩, HX, HRV, HK, BN4, HB⟩
        ·have := HI2.out
         first | (rw [show ((n + 1 : Nat) : Int) = i + 1 from by omega]; done) | (simp; omega)
        ·rw [stateFold_succ, ← HF.out]
         have e1 : i.toNat = n := by have := HI2.out; omega
         have e2 : i = (n : Int) := HI2.out.2.2
         unfold stateStep
         rw [HV.out, e1, e2]
      ·have d2' : decide ((n : Int) < (l0.length : Int)) = false := decide_eq_false (by omega)
       have d2'' : decide (n < l0.length) = false := decide_eq_false hlt
       have HNL := Aside0.mk (show n = l0.length by have := HM.out; omega)
       clear hlt
       go_wp2
       go_ret2
       refine ⟨_, rfl, ?_, HB.out⟩
       have e1 : (stateFold l0 kids b l0.length).1 = x := by rw [← HNL.out, ← HF.out]
       rw [e1]
       exact Kd.R_lower HX.out HN.out
end Go.Proofs.Ytmojlpafpeeelaa.P
end
section
namespace Go.Proofs.Ytmojlpafpeeelaa.P
open Go.RowKit Go.Proofs.YtmojlpafpeeelaaW.PrintWords Go.Proofs.YtmojlpafpeeelaaW.PrintLast Go.Proofs.YtmojlpafpeeelaaW.PrintMore
attribute [local go_sem] max2_int min2_int max_two min_two max_three min_three max_four min_four
set_option linter.unusedVariables false
set_option linter.unusedSimpArgs false
open Go.Proofs.YtmojlpafpeeelaaH
def mkI (v : Int) : S59 := ⟨v, v⟩
def okIn (l1 : List S39) (x : List Int) (i : Nat) : Bool := !decide (rd x i < (rd_T39 l1 i).f0) && !decide ((rd_T39 l1 i).f1 < rd x i)
def lostI (kids : List (List Int)) (x : List Int) (i : Nat) : Int := wrap64 (rd x i - totalF S59.f0 (belowI kids (x.map mkI) i))
def okEq (l0 : List S44) (kids : List (List Int)) (x : List Int) (i : Nat) : Bool := decide ((belowI kids (x.map mkI) i).length = 0) || (!decide (lostI kids x i < 0) && !decide ((rd_T44 l0 i).f2 < lostI kids x i))
def consR (l0 : List S44) (l1 : List S39) (x : List Int) : Bool × Int :=
 match netOk l0 with
 | none => (false, 1)
 | some kids => if belongsB l0.length l1 = true then (if x.length = l0.length then ((List.range l0.length).all (okIn l1 x) && (List.range l0.length).all (okEq l0 kids x), 0) else (false, 1)) else (false, 1)
def flow_Consistent.f (l0 : List S44) (l1 : List S39) (x : List Int) : Option (Bool × Int) := if l0.length ≤ 5864062014805 ∧ l1.length ≤ 140737488355328 ∧ x.length ≤ 17592186044416 then some (consR l0 l1 x) else none
theorem all_false {p : Nat → Bool} {n i : Nat} (hi : i < n) (h : p i = false) : (List.range n).all p = false := by
 rw [List.all_eq_false]
 exact ⟨i, List.mem_range.2 hi, by rw [h]; decide⟩
theorem all_true {p : Nat → Bool} {n : Nat} (h : ∀ i, i < n → p i = true) : (List.range n).all p = true := by
 rw [List.all_eq_true]
 intro i hi
 exact h i (List.mem_range.1 hi)
set_option maxHeartbeats 8000000 in
set_option maxRecDepth 100000 in
theorem flow_Consistent.calls (A0 : Option Addr) (c0 : Nat) (l0 : List (S44)) (A1 : Option Addr) (c1 : Nat) (l1 : List (S39)) (A2_ : Option Addr) (c2_ : Nat) (l2 : List Int) (r1 : Bool) (r2 : Int) (w : World) (hr0 : Kd.C k44 w A0 l0.length l0) (hc0 : l0.length ≤ c0) (hr1 : Kd.C k39 w A1 l1.length l1) (hc1 : l1.length ≤ c1) (hr2 : Kd.C (Kd.int .i64) w A2_ l2.length l2) (hc2 : l2.length ≤ c2_) (h : flow_Consistent.f l0 l1 l2 = some (r1, r2)) :
  Calls Try.prog 16 #[.slice A0 l0.length c0, .slice A1 l1.length c1, .slice A2_ l2.length c2_] w fun e w' => e = .returned (.tuple #[.bool r1, .int .i64 r2]) ∧ Below w.heap.size w w' := by
 have hu52 := Try.underlying52
 have hu59 := Try.underlying59
 have hu39 := Try.underlying39
 have hu44 := Try.underlying44
 unfold flow_Consistent.f at h
 by_cases hsz : l0.length ≤ 5864062014805 ∧ l1.length ≤ 140737488355328 ∧ l2.length ≤ 17592186044416
 case neg =>
  rw [if_neg hsz] at h
  cases h
 rw [if_pos hsz] at h
 injection h with h
 have HSZ := Aside0.mk hsz.1
 have HSZ1 := Aside0.mk hsz.2.1
 have HSZ2 := Aside0.mk hsz.2.2
 have HR0 := Aside0.mk hr0
 have HC0 := Aside0.mk hc0
 have HR1 := Aside0.mk hr1
 have HC1 := Aside0.mk hc1
 have HR2 := Aside0.mk hr2
 have HC2 := Aside0.mk hc2
 clear hsz hr0 hc0 hr1 hc1 hr2 hc2
 have HB := Aside0.mk (Below.refl w.heap.size w)
 cases ho : openK l0 with
 | none =>
  have HO := Aside0.mk ho
  have e : consR l0 l1 l2 = (false, 1) := by unfold consR netOk; rw [ho]; split <;> simp_all
  rw [e] at h
  injection h with e1 e2
  subst e1
  subst e2
  clear ho e
  go_enter Try.func16, Try.ntmps16
  go_wp2_with (first | (go_at_call 25; (with_reducible refine (open_none A0 c0 l0 _ HR0.out HC0.out HSZ.out HO.out).mono ?_); rintro e w1 ⟨rfl, hb⟩; have n0_ := Aside0.mk (below_step HB.out hb); clear HB hb; have HB := n0_; clear n0_) | ((with_reducible refine gate_dst (N := 8) rfl ?_); refine box_event ?hg (N := 8) ?hd (cs := #[.slice none 0 0, .slice none 0 0]) (t := 52) ?hr ?_; (case hd => rfl); (case hg => rfl); (case hr => first | (go_simp; done) | (go_simp; rfl)); intro gn hgn w3 hbn hb3; have hcn0 : w3.cell? ⟨gn, 0, none⟩ = some (.slice none 0 0) := (blk_cell hbn 0).trans rfl; have hcn1 : w3.cell? ⟨gn, 1, none⟩ = some (.slice none 0 0) := (blk_cell hbn 1).trans rfl; have hfn0 := blk_frozen hbn 0; have hfn1 := blk_frozen hbn 1; have BN := Aside0.mk hbn; have n0_ := Aside0.mk (below_step HB.out hb3); have GN := Aside0.mk (show w.heap.size ≤ gn by rw [hgn]; exact below_size HB.out); have GE := Aside0.mk hgn; (try have HK := Aside0.mk (Kd.S_below HK.out hb3)); clear HB hbn hb3 hgn; have HB := n0_; clear n0_) | ((with_reducible refine gate_store (t := 52) (p := 8) (v := .tmp 20) rfl ?_); refine store_event rfl (t := 52) (p := 8) (v := .tmp 20) rfl rfl (by first | (go_simp; done) | (go_simp; rfl)) ?_; intro w4 hw4; have BN4 := Aside0.mk (show w4.heap[gn]? = some (.cells #[.slice none 0 0, .slice none 0 0] 52 (0, 0)) by rw [hw4]; exact blk_put (blk_put BN.out 0 _ rfl) 1 _ rfl); have n0_ := Aside0.mk (show Below w.heap.size w w4 by rw [hw4]; exact below_set (below_set HB.out GN.out) GN.out); clear hw4 BN HB hcn0 hcn1 hfn0 hfn1; have HB := n0_; clear n0_; have hcn0 : w4.cell? ⟨gn, 0, none⟩ = some (.slice none 0 0) := (blk_cell BN4.out 0).trans rfl; have hcn1 : w4.cell? ⟨gn, 1, none⟩ = some (.slice none 0 0) := (blk_cell BN4.out 1).trans rfl))
  go_ret2
  exact ⟨rfl, HB.out⟩
 | some kids =>
  have HO := Aside0.mk ho
  by_cases hl : l0.length ≤ 200
  case neg =>
   have e : consR l0 l1 l2 = (false, 1) := by unfold consR netOk; rw [if_neg hl]
   rw [e] at h
   injection h with e1 e2
   subst e1
   subst e2
   have d1 : decide (l0.length ≤ 200) = false := decide_eq_false hl
   clear ho hl e
   go_enter Try.func16, Try.ntmps16
   go_wp2_with (first | (go_at_call 25; (with_reducible refine (open_some A0 c0 l0 _ HR0.out HC0.out HSZ.out HO.out).mono ?_); rintro e w1 ⟨A2, c2, rfl, hS, hb⟩; have n0_ := Aside0.mk (below_step HB.out hb); have HK := Aside0.mk hS; clear HB hb hS; have HB := n0_; clear n0_) | ((with_reducible refine gate_dst (N := 8) rfl ?_); refine box_event ?hg (N := 8) ?hd (cs := #[.slice none 0 0, .slice none 0 0]) (t := 52) ?hr ?_; (case hd => rfl); (case hg => rfl); (case hr => first | (go_simp; done) | (go_simp; rfl)); intro gn hgn w3 hbn hb3; have hcn0 : w3.cell? ⟨gn, 0, none⟩ = some (.slice none 0 0) := (blk_cell hbn 0).trans rfl; have hcn1 : w3.cell? ⟨gn, 1, none⟩ = some (.slice none 0 0) := (blk_cell hbn 1).trans rfl; have hfn0 := blk_frozen hbn 0; have hfn1 := blk_frozen hbn 1; have BN := Aside0.mk hbn; have n0_ := Aside0.mk (below_step HB.out hb3); have GN := Aside0.mk (show w.heap.size ≤ gn by rw [hgn]; exact below_size HB.out); have GE := Aside0.mk hgn; (try have HK := Aside0.mk (Kd.S_below HK.out hb3)); clear HB hbn hb3 hgn; have HB := n0_; clear n0_) | ((with_reducible refine gate_store (t := 52) (p := 8) (v := .tmp 20) rfl ?_); refine store_event rfl (t := 52) (p := 8) (v := .tmp 20) rfl rfl (by first | (go_simp; done) | (go_simp; rfl)) ?_; intro w4 hw4; have BN4 := Aside0.mk (show w4.heap[gn]? = some (.cells #[.slice A0 l0.length c0, .slice A2 l0.length c2] 52 (0, 0)) by rw [hw4]; exact blk_put (blk_put BN.out 0 _ rfl) 1 _ rfl); have n0_ := Aside0.mk (show Below w.heap.size w w4 by rw [hw4]; exact below_set (below_set HB.out GN.out) GN.out); have HK := Aside0.mk (show Kd.S (Kd.slice 3 (Kd.int .i64)) 24 w4 w.heap.size (fun _ => True) (.slice A2 l0.length c2) kids by rw [hw4]; have ht := Kd.S_far (p := ⟨gn, 0, none⟩) (Kd.S_types HK.out BN.out (by decide)) (fun _ hk => hk.2) (.slice A0 l0.length c0); exact Kd.S_mono (Kd.S_far (p := ⟨gn, 1, none⟩) ht (fun _ hk => hk.2) (.slice A2 l0.length c2)) (fun _ hk => hk.1)); clear hw4 BN HB hcn0 hcn1 hfn0 hfn1; have HB := n0_; clear n0_; have hcn0 : w4.cell? ⟨gn, 0, none⟩ = some (.slice A0 l0.length c0) := (blk_cell BN4.out 0).trans rfl; have hcn1 : w4.cell? ⟨gn, 1, none⟩ = some (.slice A2 l0.length c2) := (blk_cell BN4.out 1).trans rfl))
   go_ret2
   exact ⟨rfl, HB.out⟩
  have d1 : decide (l0.length ≤ 200) = true := decide_eq_true hl
  cases hbel : belongsB l0.length l1 with
  | false =>
   have HBEL := Aside0.mk hbel
   have e : consR l0 l1 l2 = (false, 1) := by unfold consR netOk; rw [if_pos hl, ho]; simp [hbel]
   rw [e] at h
   injection h with e1 e2
   subst e1
   subst e2
   clear ho hl hbel e
   go_enter Try.func16, Try.ntmps16
   go_wp2_with (first | (go_at_call 25; (with_reducible refine (open_some A0 c0 l0 _ HR0.out HC0.out HSZ.out HO.out).mono ?_); rintro e w1 ⟨A2, c2, rfl, hS, hb⟩; have n0_ := Aside0.mk (below_step HB.out hb); have HK := Aside0.mk hS; clear HB hb hS; have HB := n0_; clear n0_) | ((with_reducible refine gate_dst (N := 8) rfl ?_); refine box_event ?hg (N := 8) ?hd (cs := #[.slice none 0 0, .slice none 0 0]) (t := 52) ?hr ?_; (case hd => rfl); (case hg => rfl); (case hr => first | (go_simp; done) | (go_simp; rfl)); intro gn hgn w3 hbn hb3; have hcn0 : w3.cell? ⟨gn, 0, none⟩ = some (.slice none 0 0) := (blk_cell hbn 0).trans rfl; have hcn1 : w3.cell? ⟨gn, 1, none⟩ = some (.slice none 0 0) := (blk_cell hbn 1).trans rfl; have hfn0 := blk_frozen hbn 0; have hfn1 := blk_frozen hbn 1; have BN := Aside0.mk hbn; have n0_ := Aside0.mk (below_step HB.out hb3); have GN := Aside0.mk (show w.heap.size ≤ gn by rw [hgn]; exact below_size HB.out); have GE := Aside0.mk hgn; (try have HK := Aside0.mk (Kd.S_below HK.out hb3)); clear HB hbn hb3 hgn; have HB := n0_; clear n0_) | ((with_reducible refine gate_store (t := 52) (p := 8) (v := .tmp 20) rfl ?_); refine store_event rfl (t := 52) (p := 8) (v := .tmp 20) rfl rfl (by first | (go_simp; done) | (go_simp; rfl)) ?_; intro w4 hw4; have BN4 := Aside0.mk (show w4.heap[gn]? = some (.cells #[.slice A0 l0.length c0, .slice A2 l0.length c2] 52 (0, 0)) by rw [hw4]; exact blk_put (blk_put BN.out 0 _ rfl) 1 _ rfl); have n0_ := Aside0.mk (show Below w.heap.size w w4 by rw [hw4]; exact below_set (below_set HB.out GN.out) GN.out); have HK := Aside0.mk (show Kd.S (Kd.slice 3 (Kd.int .i64)) 24 w4 w.heap.size (fun _ => True) (.slice A2 l0.length c2) kids by rw [hw4]; have ht := Kd.S_far (p := ⟨gn, 0, none⟩) (Kd.S_types HK.out BN.out (by decide)) (fun _ hk => hk.2) (.slice A0 l0.length c0); exact Kd.S_mono (Kd.S_far (p := ⟨gn, 1, none⟩) ht (fun _ hk => hk.2) (.slice A2 l0.length c2)) (fun _ hk => hk.1)); clear hw4 BN HB hcn0 hcn1 hfn0 hfn1; have HB := n0_; clear n0_; have hcn0 : w4.cell? ⟨gn, 0, none⟩ = some (.slice A0 l0.length c0) := (blk_cell BN4.out 0).trans rfl; have hcn1 : w4.cell? ⟨gn, 1, none⟩ = some (.slice A2 l0.length c2) := (blk_cell BN4.out 1).trans rfl) | (go_at_call 26; (with_reducible refine (belongs_calls A0 l0.length c0 A2 l0.length c2 A1 c1 l1 _ (Kd.C_below HR1.out HB.out) HC1.out (by have := HSZ1.out; omega) (by have := HSZ.out; omega)).mono ?_); rw [HBEL.out]; rintro e w5 ⟨rfl, hb⟩; have n0_ := Aside0.mk (below_step HB.out hb); have HK := Aside0.mk (Kd.S_below HK.out hb); replace hcn0 := (hb.cell (World.block_lt_of_cell? _ _ hcn0)).trans hcn0; replace hcn1 := (hb.cell (World.block_lt_of_cell? _ _ hcn1)).trans hcn1; have BN4 := Aside0.mk (blk_below BN4.out hb); clear HB hb; have HB := n0_; clear n0_))
   go_ret2
   exact ⟨rfl, HB.out⟩
  | true =>
   have HBEL := Aside0.mk hbel
   have HLL := Aside0.mk (show l1.length = l0.length by unfold belongsB at hbel; simp at hbel; exact hbel.1)
   by_cases hx : l2.length = l0.length
   case neg =>
    have e : consR l0 l1 l2 = (false, 1) := by unfold consR netOk; rw [if_pos hl, ho]; simp only []; rw [if_pos hbel, if_neg hx]
    rw [e] at h
    injection h with e1 e2
    subst e1
    subst e2
    have d2 : ((l2.length : Int) == (l0.length : Int)) = false := beq_eq_false_iff_ne.2 (by omega)
    have d2' : ((l2.length : Int) != (l0.length : Int)) = true := bne_iff_ne.2 (by omega)
    clear ho hl hbel e hx
    go_enter Try.func16, Try.ntmps16
    go_wp2_with (first | (go_at_call 25; (with_reducible refine (open_some A0 c0 l0 _ HR0.out HC0.out HSZ.out HO.out).mono ?_); rintro e w1 ⟨A2, c2, rfl, hS, hb⟩; have n0_ := Aside0.mk (below_step HB.out hb); have HK := Aside0.mk hS; clear HB hb hS; have HB := n0_; clear n0_) | ((with_reducible refine gate_dst (N := 8) rfl ?_); refine box_event ?hg (N := 8) ?hd (cs := #[.slice none 0 0, .slice none 0 0]) (t := 52) ?hr ?_; (case hd => rfl); (case hg => rfl); (case hr => first | (go_simp; done) | (go_simp; rfl)); intro gn hgn w3 hbn hb3; have hcn0 : w3.cell? ⟨gn, 0, none⟩ = some (.slice none 0 0) := (blk_cell hbn 0).trans rfl; have hcn1 : w3.cell? ⟨gn, 1, none⟩ = some (.slice none 0 0) := (blk_cell hbn 1).trans rfl; have hfn0 := blk_frozen hbn 0; have hfn1 := blk_frozen hbn 1; have BN := Aside0.mk hbn; have n0_ := Aside0.mk (below_step HB.out hb3); have GN := Aside0.mk (show w.heap.size ≤ gn by rw [hgn]; exact below_size HB.out); have GE := Aside0.mk hgn; (try have HK := Aside0.mk (Kd.S_below HK.out hb3)); clear HB hbn hb3 hgn; have HB := n0_; clear n0_) | ((with_reducible refine gate_store (t := 52) (p := 8) (v := .tmp 20) rfl ?_); refine store_event rfl (t := 52) (p := 8) (v := .tmp 20) rfl rfl (by first | (go_simp; done) | (go_simp; rfl)) ?_; intro w4 hw4; have BN4 := Aside0.mk (show w4.heap[gn]? = some (.cells #[.slice A0 l0.length c0, .slice A2 l0.length c2] 52 (0, 0)) by rw [hw4]; exact blk_put (blk_put BN.out 0 _ rfl) 1 _ rfl); have n0_ := Aside0.mk (show Below w.heap.size w w4 by rw [hw4]; exact below_set (below_set HB.out GN.out) GN.out); have HK := Aside0.mk (show Kd.S (Kd.slice 3 (Kd.int .i64)) 24 w4 w.heap.size (fun _ => True) (.slice A2 l0.length c2) kids by rw [hw4]; have ht := Kd.S_far (p := ⟨gn, 0, none⟩) (Kd.S_types HK.out BN.out (by decide)) (fun _ hk => hk.2) (.slice A0 l0.length c0); exact Kd.S_mono (Kd.S_far (p := ⟨gn, 1, none⟩) ht (fun _ hk => hk.2) (.slice A2 l0.length c2)) (fun _ hk => hk.1)); clear hw4 BN HB hcn0 hcn1 hfn0 hfn1; have HB := n0_; clear n0_; have hcn0 : w4.cell? ⟨gn, 0, none⟩ = some (.slice A0 l0.length c0) := (blk_cell BN4.out 0).trans rfl; have hcn1 : w4.cell? ⟨gn, 1, none⟩ = some (.slice A2 l0.length c2) := (blk_cell BN4.out 1).trans rfl) | (go_at_call 26; (with_reducible refine (belongs_calls A0 l0.length c0 A2 l0.length c2 A1 c1 l1 _ (Kd.C_below HR1.out HB.out) HC1.out (by have := HSZ1.out; omega) (by have := HSZ.out; omega)).mono ?_); rw [HBEL.out]; rintro e w5 ⟨rfl, hb⟩; have n0_ := Aside0.mk (below_step HB.out hb); have HK := Aside0.mk (Kd.S_below HK.out hb); replace hcn0 := (hb.cell (World.block_lt_of_cell? _ _ hcn0)).trans hcn0; replace hcn1 := (hb.cell (World.block_lt_of_cell? _ _ hcn1)).trans hcn1; have BN4 := Aside0.mk (blk_below BN4.out hb); clear HB hb; have HB := n0_; clear n0_))
    go_ret2
    exact ⟨rfl, HB.out⟩
   have d2 : ((l2.length : Int) == (l0.length : Int)) = true := beq_iff_eq.2 (by omega)
   have d2' : ((l2.length : Int) != (l0.length : Int)) = false := by rw [bne, d2]; rfl
   have HXL := Aside0.mk hx
   have HKO := Aside0.mk (openK_ok ho)
   obtain ⟨R, hR⟩ : ∃ R, R = consR l0 l1 l2 := ⟨_, rfl⟩
   have e : consR l0 l1 l2 = ((List.range l0.length).all (okIn l1 l2) && (List.range l0.length).all (okEq l0 kids l2), 0) := by unfold consR netOk; rw [if_pos hl, ho]; simp only []; rw [if_pos hbel, if_pos hx]
   rw [e] at h
   injection h with e1 e2
   subst e2
   have HE1 := Aside0.mk e1
   clear ho hl hbel e hx e1 hR
   go_enter Try.func16, Try.ntmps16
   go_wp2_with (first | (go_at_call 25; (with_reducible refine (open_some A0 c0 l0 _ HR0.out HC0.out HSZ.out HO.out).mono ?_); rintro e w1 ⟨A2, c2, rfl, hS, hb⟩; have n0_ := Aside0.mk (below_step HB.out hb); have HK := Aside0.mk hS; clear HB hb hS; have HB := n0_; clear n0_) | ((with_reducible refine gate_dst (N := 8) rfl ?_); refine box_event ?hg (N := 8) ?hd (cs := #[.slice none 0 0, .slice none 0 0]) (t := 52) ?hr ?_; (case hd => rfl); (case hg => rfl); (case hr => first | (go_simp; done) | (go_simp; rfl)); intro gn hgn w3 hbn hb3; have hcn0 : w3.cell? ⟨gn, 0, none⟩ = some (.slice none 0 0) := (blk_cell hbn 0).trans rfl; have hcn1 : w3.cell? ⟨gn, 1, none⟩ = some (.slice none 0 0) := (blk_cell hbn 1).trans rfl; have hfn0 := blk_frozen hbn 0; have hfn1 := blk_frozen hbn 1; have BN := Aside0.mk hbn; have n0_ := Aside0.mk (below_step HB.out hb3); have GN := Aside0.mk (show w.heap.size ≤ gn by rw [hgn]; exact below_size HB.out); have GE := Aside0.mk hgn; (try have HK := Aside0.mk (Kd.S_below HK.out hb3)); clear HB hbn hb3 hgn; have HB := n0_; clear n0_) | ((with_reducible refine gate_store (t := 52) (p := 8) (v := .tmp 20) rfl ?_); refine store_event rfl (t := 52) (p := 8) (v := .tmp 20) rfl rfl (by first | (go_simp; done) | (go_simp; rfl)) ?_; intro w4 hw4; have BN4 := Aside0.mk (show w4.heap[gn]? = some (.cells #[.slice A0 l0.length c0, .slice A2 l0.length c2] 52 (0, 0)) by rw [hw4]; exact blk_put (blk_put BN.out 0 _ rfl) 1 _ rfl); have n0_ := Aside0.mk (show Below w.heap.size w w4 by rw [hw4]; exact below_set (below_set HB.out GN.out) GN.out); have HK := Aside0.mk (show Kd.S (Kd.slice 3 (Kd.int .i64)) 24 w4 w.heap.size (fun _ => True) (.slice A2 l0.length c2) kids by rw [hw4]; have ht := Kd.S_far (p := ⟨gn, 0, none⟩) (Kd.S_types HK.out BN.out (by decide)) (fun _ hk => hk.2) (.slice A0 l0.length c0); exact Kd.S_mono (Kd.S_far (p := ⟨gn, 1, none⟩) ht (fun _ hk => hk.2) (.slice A2 l0.length c2)) (fun _ hk => hk.1)); clear hw4 BN HB hcn0 hcn1 hfn0 hfn1; have HB := n0_; clear n0_; have hcn0 : w4.cell? ⟨gn, 0, none⟩ = some (.slice A0 l0.length c0) := (blk_cell BN4.out 0).trans rfl; have hcn1 : w4.cell? ⟨gn, 1, none⟩ = some (.slice A2 l0.length c2) := (blk_cell BN4.out 1).trans rfl) | (go_at_call 26; (with_reducible refine (belongs_calls A0 l0.length c0 A2 l0.length c2 A1 c1 l1 _ (Kd.C_below HR1.out HB.out) HC1.out (by have := HSZ1.out; omega) (by have := HSZ.out; omega)).mono ?_); rw [HBEL.out]; rintro e w5 ⟨rfl, hb⟩; have n0_ := Aside0.mk (below_step HB.out hb); have HK := Aside0.mk (Kd.S_below HK.out hb); replace hcn0 := (hb.cell (World.block_lt_of_cell? _ _ hcn0)).trans hcn0; replace hcn1 := (hb.cell (World.block_lt_of_cell? _ _ hcn1)).trans hcn1; have BN4 := Aside0.mk (blk_below BN4.out hb); clear HB hb; have HB := n0_; clear n0_) | ((with_reducible refine gate_dst (N := 39) rfl ?_); refine Kd.R_make k59 _ 59 rfl (N := 39) rfl 56 _ _ rfl (l2.length : Int) rfl rfl Try.underlying56 (.agg #[(.int .i64 0), (.int .i64 0)]) 16 info59 rfl (by decide) (by omega) z59 (ok := fun _ => True) (okp := fun _ => True) (k59_mkM _ _ _ z59) (fun _ hk => hk) trivial (by omega) (by have := HSZ.out; have := HXL.out; omega) (Below.refl _ _) (Nat.le_refl _) ?_; intro v1 w8 ho hb hg_ hnew_; have n0_ := Aside0.mk (below_step HB.out hb); have HRV := Aside0.mk (Kd.R_lower ho (below_size HB.out)); have HK := Aside0.mk (Kd.S_below HK.out hb); have BN4 := Aside0.mk (blk_below BN4.out hb); clear HB hb ho hg_ hnew_ hcn0 hcn1; have HB := n0_; clear n0_))
   obtain ⟨A3, c3, e3⟩ := Kd.R_slice HRV.out
   subst e3
   have hrv := HRV.out
   clear HRV
   rw [List.length_replicate, Int.toNat_natCast, HXL.out] at hrv ⊢
   have HRV := Aside0.mk hrv
   clear hrv
   go_loopg [42] l0.length (fun kq v42 wr => ∃ (n : Nat) (y : List S59), v42 = .int .i64 n ∧ Aside0 (kq + n = l0.length) ∧ Aside0 (y = (List.range n).foldl (fun y (j : Nat) => y.set j (mkI (rd l2 j))) (List.replicate l0.length z59)) ∧ Aside0 (∀ j, j < n → okIn l1 l2 j = true) ∧ Aside0 (Kd.R k59 59 wr w.heap.size (fun _ => True) (.slice A3 l0.length c3) y)
    ∧ Aside0 (Kd.S (Kd.slice 3 (Kd.int .i64)) 24 wr w.heap.size (fun _ => True) (.slice A2 l0.length c2) kids) ∧ Aside0 (wr.heap[gn]? = some (.cells #[.slice A0 l0.length c0, .slice A2 l0.length c2] 52 (0, 0))) ∧ Aside0 (Below w.heap.size w wr))
   case atStart => exact ⟨0, _, rfl, ⟨by omega⟩, ⟨rfl⟩, ⟨fun j hj => absurd hj (Nat.not_lt_zero _)⟩, HRV, HK, BN4, HB⟩
   case round =>
    clear HRV HB BN4 HK
    obtain ⟨n, y, rfl, HM, HY, HOK, HRV, HK, BN4, HB⟩ := hrel
    have HYL := Aside0.mk (show y.length = l0.length by rw [HY.out, fold_len, List.length_replicate])
    by_cases hlt : n < l0.length
    ·obtain ⟨i, hi⟩ : ∃ i : Int, i = (n : Int) := ⟨_, rfl⟩
     rw [← hi]
     have HI2 := Aside0.mk (show 0 ≤ i ∧ i < l0.length ∧ i = (n : Int) from ⟨by omega, by omega, hi⟩)
     have q2' : decide (i < (l0.length : Int)) = true := decide_eq_true HI2.out.2.1
     have ci2 : (0 ≤ i) = True := eq_true HI2.out.1
     have ci3 : (i < l0.length) = True := eq_true HI2.out.2.1
     have ci4 : (i < l1.length) = True := eq_true (by have := HI2.out; have := HLL.out; omega)
     obtain ⟨adx, ex, hxx⟩ := Kd.at_int (Kd.C_below HR2.out HB.out) i HI2.out.1 (by have := HI2.out; have := HXL.out; omega)
     subst ex
     obtain ⟨adr, er, hrr0, hrr1⟩ := at_T39 (Kd.C_below HR1.out HB.out) i HI2.out.1 (by have := HI2.out; have := HLL.out; omega)
     subst er
     obtain ⟨v, hv⟩ : ∃ v, v = rd l2 i := ⟨_, rfl⟩
     rw [← hv] at hxx
     have HV := Aside0.mk hv
     have HOKI : okIn l1 l2 n = (!decide (v < (rd_T39 l1 i).f0) && !decide ((rd_T39 l1 i).f1 < v)) := by unfold okIn; rw [hv, HI2.out.2.2]
     have HO2 := Aside0.mk HOKI
     clear hi hv HOKI
     by_cases ht1 : v < (rd_T39 l1 i).f0
     ·have t1 : decide (v < (rd_T39 l1 i).f0) = true := decide_eq_true ht1
      have HF := Aside0.mk (show r1 = false by rw [← HE1.out, all_false (show n < l0.length from hlt) (show okIn l1 l2 n = false by rw [HO2.out, t1]; rfl)]; rfl)
      clear ht1 hlt
      go_wp2
      go_ret2
      exact ⟨by rw [HF.out]; rfl, HB.out⟩
     have t1 : decide (v < (rd_T39 l1 i).f0) = false := decide_eq_false ht1
     by_cases ht2 : (rd_T39 l1 i).f1 < v
     ·have t2 : decide ((rd_T39 l1 i).f1 < v) = true := decide_eq_true ht2
      have HF := Aside0.mk (show r1 = false by rw [← HE1.out, all_false (show n < l0.length from hlt) (show okIn l1 l2 n = false by rw [HO2.out, t1, t2]; rfl)]; rfl)
      clear ht1 ht2 hlt
      go_wp2
      go_ret2
      exact ⟨by rw [HF.out]; rfl, HB.out⟩
     have t2 : decide ((rd_T39 l1 i).f1 < v) = false := decide_eq_false ht2
     have HNX := Aside0.mk (show okIn l1 l2 n = true by rw [HO2.out, t1, t2]; rfl)
     obtain ⟨go, cgo, eo, gob, gol, ogl, hogl⟩ := Kd.R_form HRV.out (by have := HI2.out; have := HYL.out; omega)
     injection eo with ea en ec
     subst ea
     subst ec
     have HGB := Aside0.mk gob
     have HGO := Aside0.mk hogl
     have HE := Aside0.mk (iv_elem HRV.out i HI2.out.1 HI2.out.2.1)
     have hxz0 := HE.out.1.1
     have hxz1 := HE.out.1.2
     have hfz0 := HE.out.2.1.1
     have hfz1 := HE.out.2.1.2
     clear ht1 ht2 hlt en gob gol hogl
     have hz1 : i + 1 ≤ 9223372036854775807 := by have := HI2.out; have := HSZ.out; omega
     have hz2 : -9223372036854775808 ≤ i + 1 := by have := HI2.out; omega
     go_wp2
     have hP := HE.out.2.2 (mkI v)
     go_roundg (gk - 1)
     case measure => have := HM.out; have := HI2.out; omega
     case rel =>
      refine ⟨n + 1, _, ?_, ⟨by have := HM.out; have := HI2.out; omega⟩, ⟨?_⟩, ⟨fun j hj => ?_⟩, ⟨hP.1⟩, ⟨Kd.S_mono (Kd.S_grown (Kd.S_types HK.out HGO.out (by decide)) hP.2 (fun k hk e => hk.2 (by cases e; rfl))) (fun _ hk => hk.1)⟩, ⟨blk_grown BN4.out hP.2 (by have := blk_ne BN4.out HGO.out (by decide); simpa using this)⟩, ⟨below_set (below_set HB.out HGB.out) HGB.out⟩⟩
      ·have := HI2.out
       first | (rw [show ((n + 1 : Nat) : Int) = i + 1 from by omega]; done) | (simp; omega)
      ·rw [foldl_range_succ, ← HY.out, ← HI2.out.2.2, ← HV.out, show i.toNat = n by have := HI2.out; omega]
      ·by_cases hj' : j < n
       ·exact HOK.out j hj'
       ·rw [show j = n by omega]
        exact HNX.out
    ·have q2' : decide ((n : Int) < (l0.length : Int)) = false := decide_eq_false (by omega)
     have q2'' : decide (n < l0.length) = false := decide_eq_false hlt
     have HNL := Aside0.mk (show n = l0.length by have := HM.out; omega)
     clear hlt
     have HYX := Aside0.mk (show y = l2.map mkI by
      rw [HY.out, HNL.out, fold_set _ _ _ (by simp), List.drop_of_length_le (by simp), List.append_nil, ← HXL.out]
      exact fold_map (0 : Int) mkI l2)
     have HALL := Aside0.mk (show (List.range l0.length).all (okIn l1 l2) = true from all_true (fun i hi => HOK.out i (by have := HNL.out; omega)))
     have HE2 := Aside0.mk (show (List.range l0.length).all (okEq l0 kids l2) = r1 by have := HE1.out; rw [HALL.out] at this; exact this)
     clear HOK HE1 HALL HM HY
     have hyx := HYX.out
     subst hyx
     clear HYX
     go_wp2
     go_loopg [72] l0.length (fun kq v72 wr => ∃ (n : Nat), v72 = .int .i64 n ∧ Aside0 (kq + n = l0.length) ∧ Aside0 (∀ j, j < n → okEq l0 kids l2 j = true) ∧ Aside0 (Kd.R k59 59 wr w.heap.size (fun _ => True) (.slice A3 l0.length c3) (l2.map mkI))
      ∧ Aside0 (Kd.S (Kd.slice 3 (Kd.int .i64)) 24 wr w.heap.size (fun _ => True) (.slice A2 l0.length c2) kids) ∧ Aside0 (wr.heap[gn]? = some (.cells #[.slice A0 l0.length c0, .slice A2 l0.length c2] 52 (0, 0))) ∧ Aside0 (Below w.heap.size w wr))
     case atStart => exact ⟨0, rfl, ⟨by omega⟩, ⟨fun j hj => absurd hj (Nat.not_lt_zero _)⟩, HRV, HK, BN4, HB⟩
     case round =>
      clear HRV HB BN4 HK
      obtain ⟨n, rfl, HM, HOK, HRV, HK, BN4, HB⟩ := hrel
      by_cases hlt : n < l0.length
      ·obtain ⟨i, hi⟩ : ∃ i : Int, i = (n : Int) := ⟨_, rfl⟩
       rw [← hi]
       have HI2 := Aside0.mk (show 0 ≤ i ∧ i < l0.length ∧ i = (n : Int) ∧ n < l0.length from ⟨by omega, by omega, hi, hlt⟩)
       have q2' : decide (i < (l0.length : Int)) = true := decide_eq_true HI2.out.2.1
       have ci2 : (0 ≤ i) = True := eq_true HI2.out.1
       have ci3 : (i < l0.length) = True := eq_true HI2.out.2.1
       obtain ⟨adp, ep, hp0, hp1, hp2⟩ := at_T44 (Kd.C_below HR0.out HB.out) i HI2.out.1 HI2.out.2.1
       subst ep
       clear hi hlt
       go_upto_region 15 with (first | ((with_reducible refine gate_dst (N := 14) rfl ?_); refine box_event ?hg (N := 14) ?hd (cs := #[.int .i64 0, .int .i64 0, .int .i64 0]) (t := 44) ?hr ?_; (case hd => rfl); (case hg => rfl); (case hr => first | (go_simp; done) | (go_simp; rfl)); intro gp hgp w9 hbp hb; have hcp0 : w9.cell? ⟨gp, 0, none⟩ = some (.int .i64 0) := (blk_cell hbp 0).trans rfl; have hcp1 : w9.cell? ⟨gp, 1, none⟩ = some (.int .i64 0) := (blk_cell hbp 1).trans rfl; have hcp2 : w9.cell? ⟨gp, 2, none⟩ = some (.int .i64 0) := (blk_cell hbp 2).trans rfl; have hfp0 := blk_frozen hbp 0; have hfp1 := blk_frozen hbp 1; have hfp2 := blk_frozen hbp 2; have BP := Aside0.mk hbp; have HB9 := Aside0.mk hb; have GP := Aside0.mk hgp; clear hbp hb hgp))
       obtain ⟨w10, hw10⟩ : ∃ w10, w10 = ((w9.setCell ⟨gp, 0, none⟩ (.int .i64 (rd_T44 l0 i).f0)).setCell ⟨gp, 1, none⟩ (.int .i64 (rd_T44 l0 i).f1)).setCell ⟨gp, 2, none⟩ (.int .i64 (rd_T44 l0 i).f2) := ⟨_, rfl⟩
       rw [← hw10]
       have BP10 := Aside0.mk (show w10.heap[gp]? = some (.cells #[.int .i64 (rd_T44 l0 i).f0, .int .i64 (rd_T44 l0 i).f1, .int .i64 (rd_T44 l0 i).f2] 44 (0, 0)) by rw [hw10]; exact blk_put3 BP.out _ _ _)
       have HB10 := Aside0.mk (below_new3 GP.out HB9.out hw10)
       clear hw10 hcp0 hcp1 hcp2 hfp0 hfp1 hfp2 hp0 hp1 hp2
       have HBW := Aside0.mk (below_step HB.out HB10.out)
       have hcn0 : w10.cell? ⟨gn, 0, none⟩ = some (.slice (some adp) l0.length c0) := (blk_cell (blk_below BN4.out HB10.out) 0).trans rfl
       have hcn1 : w10.cell? ⟨gn, 1, none⟩ = some (.slice A2 l0.length c2) := (blk_cell (blk_below BN4.out HB10.out) 1).trans rfl
       have hlo : w10.cell? ⟨gp, 2, none⟩ = some (.int .i64 (rd_T44 l0 i).f2) := (blk_cell BP10.out 2).trans rfl
       have hSr := Kd.S_reads' (Kd.S_below HK.out HB10.out)
       have hRr := Kd.R_reads' (Kd.R_below HRV.out HB10.out)
       obtain ⟨bl, hbl⟩ : ∃ bl, bl = belowI kids (l2.map mkI) i := ⟨_, rfl⟩
       have HCALL := Aside0.mk (below_calls (some adp) l0.length c0 l0 A2 l0.length c2 kids A3 l0.length c3 (l2.map mkI) i w10 rfl hSr.1 hRr.1 (Kd.C_below HR0.out HBW.out) HC0.out hSr.2.2 (hSr.1 ▸ hSr.2.1) hRr.2.2 (hRr.1 ▸ hRr.2.1) HI2.out.1 (hSr.1 ▸ HI2.out.2.1) (hRr.1.symm.trans hSr.1) (hSr.1 ▸ HKO.out) (hSr.1 ▸ HSZ.out))
       rw [← hbl] at HCALL
       have HBLN := Aside0.mk (show bl.length ≤ 140737488355328 by rw [hbl]; unfold belowI; rw [List.length_map]; have := (HKO.out.2 i).1; have := HSZ.out; omega)
       have HBL := Aside0.mk (show belowI kids (l2.map mkI) ((n : Nat) : Int) = bl by rw [hbl, HI2.out.2.2.1])
       clear hSr hRr hbl
       have hz1 : i + 1 ≤ 9223372036854775807 := by have := HI2.out; have := HSZ.out; omega
       have hz2 : -9223372036854775808 ≤ i + 1 := by have := HI2.out; omega
       by_cases hz : 0 < bl.length
       ·have z1 : decide (0 < (bl.length : Int)) = true := decide_eq_true (by omega)
        have z2 : decide (0 < bl.length) = true := decide_eq_true hz
        have HZ := Aside0.mk hz
        clear hz
        go_wp2_with (first | (go_at_call 33; (with_reducible refine HCALL.out.mono ?_); rintro e w11 ⟨Ab, cb, rfl, hRb, hb⟩; have HRB := Aside0.mk (Kd.R_reads' hRb).2; have HB11 := Aside0.mk hb; replace hcn0 := (hb.cell (World.block_lt_of_cell? _ _ hcn0)).trans hcn0; replace hcn1 := (hb.cell (World.block_lt_of_cell? _ _ hcn1)).trans hcn1; replace hlo := (hb.cell (World.block_lt_of_cell? _ _ hlo)).trans hlo; clear hRb hb))
        obtain ⟨adx, ex, hxx⟩ := Kd.at_int (Kd.C_below HR2.out ((below_step HBW.out HB11.out).drew)) i HI2.out.1 (by have := HI2.out; have := HXL.out; omega)
        subst ex
        obtain ⟨v, hv⟩ : ∃ v, v = rd l2 i := ⟨_, rfl⟩
        rw [← hv] at hxx
        have HV := Aside0.mk hv
        clear hv
        refine start_ (n := 8) (S := fun w' => w'.cell? (adx.add i.toNat) = some (.int .i64 v)) (ds := []) #[n_, n_, n_, n_, n_, n_, n_, n_] (by kernel_rfl) rfl rfl (hxx) (fun hHeld => ?_)
        refine pure_ (i := 0) (N := some 84) (v := ?_) (a' := ?_) #[y_, n_, n_, n_, n_, n_, n_, n_] rfl rfl (by kernel_rfl) (fun _ _ _ h => h) (Or.inl ⟨by rfl, ?_⟩) ?_ ?_
        rotate_left
        ·intro w'
         go_simp
         with_reducible rfl
        rotate_left
        ·simp only [Act.put, sI_, s0_, sS_, i64_w, i32_w]
         rfl
        refine pure_ (i := 1) (N := some 85) (v := ?_) (a' := ?_) #[y_, y_, n_, n_, n_, n_, n_, n_] rfl rfl (by kernel_rfl) (fun _ _ _ h => h) (Or.inl ⟨by rfl, ?_⟩) ?_ ?_
        rotate_left
        ·intro w'
         go_simp
         with_reducible rfl
        rotate_left
        ·simp only [Act.put, sI_, s0_, sS_, i64_w, i32_w]
         rfl
        refine pure_ (i := 2) (N := some 86) (v := ?_) (a' := ?_) #[y_, y_, y_, n_, n_, n_, n_, n_] rfl rfl (by kernel_rfl) (fun _ _ _ h => h) (Or.inl ⟨by rfl, ?_⟩) ?_ ?_
        rotate_left
        ·intro w'
         go_simp
         with_reducible rfl
        rotate_left
        ·simp only [Act.put, sI_, s0_, sS_, i64_w, i32_w]
         rfl
        refine pure_ (i := 4) (N := some 88) (v := ?_) (a' := ?_) #[y_, y_, y_, n_, y_, n_, n_, n_] rfl rfl (by kernel_rfl) (fun _ _ _ h => h) (Or.inl ⟨by rfl, ?_⟩) ?_ ?_
        rotate_left
        ·intro w'
         go_simp
         with_reducible rfl
        rotate_left
        ·simp only [Act.put, sI_, s0_, sS_, i64_w, i32_w]
         rfl
        refine take_ (i := 3) (N := some 87) (v := ?_) (a' := ?_) #[y_, y_, y_, y_, y_, n_, n_, n_] rfl rfl (by kernel_rfl) (fun _ _ _ h => h) (Or.inl ⟨by rfl, ?_⟩) hHeld ?_ ?_
        rotate_left
        ·intro w' s0
         go_simp
         with_reducible rfl
        rotate_left
        ·simp only [Act.put, sI_, s0_, sS_, i64_w, i32_w]
         rfl
        refine one_ (i := 5) (N := some 89) #[y_, y_, y_, y_, y_, y_, n_, n_] rfl rfl (by kernel_rfl) (by decide) (fun K hK => ?_)
        refine goes_ Try.func34 (by kernel_rfl) rfl #[.slice Ab bl.length cb, .func (.func 35) #[] #[]] (by rfl) rfl rfl (by simp only [List.map_toArray, List.map_cons, List.map_nil]; rfl) ?_
        with_reducible refine (flow_total_low Ab cb bl _ (Kd.C_below HRB.out.2 (below_drew (Below.refl _ _))) HRB.out.1 HBLN.out).mono ?_
        rintro e w12 ⟨rfl, hb⟩
        refine ⟨_, rfl, ?_⟩
        have HB12 := Aside0.mk (below_step (below_drew HB11.out) hb)
        have HBX := Aside0.mk (below_step (below_drew (Below.refl _ _)) hb)
        refine hK.out _ _ ((hb.cell (World.block_lt_of_cell? _ _ hHeld)).trans hHeld) (fun hHeld => ?_)
        clear hK K
        refine norm_ (a' := ?_) ?_ ?_
        rotate_left
        ·show Act.put _ (some 89) _ = _
         simp only [Act.put, sI_, s0_, sS_, i64_w, i32_w]
         rfl
        refine pure_ (i := 6) (N := some 90) (v := ?_) (a' := ?_) #[y_, y_, y_, y_, y_, y_, y_, n_] rfl rfl (by kernel_rfl) (fun _ _ _ h => h) (Or.inl ⟨by rfl, ?_⟩) ?_ ?_
        rotate_left
        ·intro w'
         go_simp
         with_reducible rfl
        rotate_left
        ·simp only [Act.put, sI_, s0_, sS_, i64_w, i32_w]
         rfl
        refine pure_ (i := 7) (N := some 16) (v := ?_) (a' := ?_) #[y_, y_, y_, y_, y_, y_, y_, y_] rfl rfl (by kernel_rfl) (fun _ _ _ h => h) (Or.inl ⟨by rfl, ?_⟩) ?_ ?_
        rotate_left
        ·intro w'
         go_simp
         with_reducible rfl
        rotate_left
        ·simp only [Act.put, sI_, s0_, sS_, i64_w, i32_w]
         rfl
        refine done_ (by kernel_rfl) ?_
        obtain ⟨lost, hlost⟩ : ∃ lost, lost = wrap64 (v - totalF S59.f0 bl) := ⟨_, rfl⟩
        rw [← hlost]
        have HLOST := Aside0.mk (show lostI kids l2 n = lost by unfold lostI; rw [HBL.out, hlost, HV.out, HI2.out.2.2.1])
        replace hlo := (HBX.out.cell (World.block_lt_of_cell? _ _ hlo)).trans hlo
        have HOKI := Aside0.mk (show okEq l0 kids l2 n = (!decide (lost < 0) && !decide ((rd_T44 l0 i).f2 < lost)) by unfold okEq; rw [HBL.out, HLOST.out, decide_eq_false (show ¬ bl.length = 0 from by have := HZ.out; omega), Bool.false_or, HI2.out.2.2.1])
        clear hlost
        by_cases ht1 : lost < 0
        ·have t1 : decide (lost < 0) = true := decide_eq_true ht1
         have HF := Aside0.mk (show r1 = false by rw [← HE2.out]; exact all_false HI2.out.2.2.2 (by rw [HOKI.out, t1]; rfl))
         clear ht1
         go_wp2
         go_ret2
         exact ⟨by rw [HF.out]; rfl, below_step HBW.out HB12.out⟩
        have t1 : decide (lost < 0) = false := decide_eq_false ht1
        by_cases ht2 : (rd_T44 l0 i).f2 < lost
        ·have t2 : decide ((rd_T44 l0 i).f2 < lost) = true := decide_eq_true ht2
         have HF := Aside0.mk (show r1 = false by rw [← HE2.out]; exact all_false HI2.out.2.2.2 (by rw [HOKI.out, t1, t2]; rfl))
         clear ht1 ht2
         go_wp2
         go_ret2
         exact ⟨by rw [HF.out]; rfl, below_step HBW.out HB12.out⟩
        have t2 : decide ((rd_T44 l0 i).f2 < lost) = false := decide_eq_false ht2
        have HNX := Aside0.mk (show okEq l0 kids l2 n = true by rw [HOKI.out, t1, t2]; rfl)
        have HBA := Aside0.mk (below_step HB10.out HB12.out)
        clear ht1 ht2
        go_wp2
        go_roundg (gk - 1)
        case measure => have := HM.out; have := HI2.out; omega
        case rel =>
         refine ⟨n + 1, ?_, ⟨by have := HM.out; have := HI2.out; omega⟩, ⟨fun j hj => ?_⟩, ⟨Kd.R_below HRV.out HBA.out⟩, ⟨Kd.S_below HK.out HBA.out⟩, ⟨blk_below BN4.out HBA.out⟩, ⟨below_step HB.out HBA.out⟩⟩
         ·have := HI2.out
          first | (rw [show ((n + 1 : Nat) : Int) = i + 1 from by omega]; done) | (simp; omega)
         ·by_cases hj' : j < n
          ·exact HOK.out j hj'
          ·rw [show j = n by omega]
           exact HNX.out
       ·have z1 : decide (0 < (bl.length : Int)) = false := decide_eq_false (by omega)
        have z2 : decide (0 < bl.length) = false := decide_eq_false hz
        have HNX := Aside0.mk (show okEq l0 kids l2 n = true by unfold okEq; rw [HBL.out, decide_eq_true (show bl.length = 0 by omega), Bool.true_or])
        clear hz
        go_wp2_with (first | (go_at_call 33; (with_reducible refine HCALL.out.mono ?_); rintro e w11 ⟨Ab, cb, rfl, hRb, hb⟩; have HRB := Aside0.mk (Kd.R_reads' hRb).2; have HB11 := Aside0.mk hb; replace hcn0 := (hb.cell (World.block_lt_of_cell? _ _ hcn0)).trans hcn0; replace hcn1 := (hb.cell (World.block_lt_of_cell? _ _ hcn1)).trans hcn1; replace hlo := (hb.cell (World.block_lt_of_cell? _ _ hlo)).trans hlo; clear hRb hb))
        have HBA := Aside0.mk (below_step HB10.out HB11.out)
        go_roundg (gk - 1)
        case measure => have := HM.out; have := HI2.out; omega
        case rel =>
         refine ⟨n + 1, ?_, ⟨by have := HM.out; have := HI2.out; omega⟩, ⟨fun j hj => ?_⟩, ⟨Kd.R_below HRV.out HBA.out⟩, ⟨Kd.S_below HK.out HBA.out⟩, ⟨blk_below BN4.out HBA.out⟩, ⟨below_step HB.out HBA.out⟩⟩
         ·have := HI2.out
          first | (rw [show ((n + 1 : Nat) : Int) = i + 1 from by omega]; done) | (simp; omega)
         ·by_cases hj' : j < n
          ·exact HOK.out j hj'
          ·rw [show j = n by omega]
           exact HNX.out
      ·have q2' : decide ((n : Int) < (l0.length : Int)) = false := decide_eq_false (by omega)
       have q2'' : decide (n < l0.length) = false := decide_eq_false hlt
       have HF := Aside0.mk (show r1 = true by rw [← HE2.out]; exact all_true (fun j hj => HOK.out j (by have := HM.out; omega)))
       clear hlt
       go_wp2
       go_ret2
       exact ⟨by rw [HF.out]; rfl, HB.out⟩
end Go.Proofs.Ytmojlpafpeeelaa.P
end
section
namespace Go.Proofs.Ytmojlpafpeeelaa.P
open Go.RowKit Go.Proofs.YtmojlpafpeeelaaW.PrintWords Go.Proofs.YtmojlpafpeeelaaW.PrintLast Go.Proofs.YtmojlpafpeeelaaW.PrintMore
attribute [local go_sem] max2_int min2_int max_two min_two max_three min_three max_four min_four
set_option linter.unusedVariables false
set_option linter.unusedSimpArgs false
def cohousingref02_Same.l0 : Nat → List Int → List Int → Int → Option (Bool)
 | 0, _, _, _ => none
 | k + 1, x0, x1, x5 => if x5 < (x0.length : Int) then (if 0 ≤ x5 then (if x5 < (x1.length : Int) then (if (rd x0 x5) = (rd x1 x5) then (cohousingref02_Same.l0 k x0 x1 (wrap64 (x5 + 1))) else (some false)) else (none)) else (none)) else (some true)
def cohousingref02_Same.f (k : Nat) (l0 : List Int) (l1 : List Int) : Option (Bool) := if (l0.length : Int) = (l1.length : Int) then (cohousingref02_Same.l0 k l0 l1 0) else (some false)
theorem cohousingref02_Same.mono_l : ∀ k, (∀ y0 y1 y2, LeO (cohousingref02_Same.l0 k y0 y1 y2) (cohousingref02_Same.l0 (k + 1) y0 y1 y2))
 | 0 => fun _ _ _ r h => by simp [cohousingref02_Same.l0] at h
 | k + 1 => by
  have ih0 := cohousingref02_Same.mono_l k
  ·intro y0 y1 y2
   unfold cohousingref02_Same.l0
   repeat' first
   | (with_reducible exact ih0 _ _ _)
   | (with_reducible exact LeO.refl _)
   | (with_reducible exact LeO.none _)
   | (with_reducible refine LeO.ite ?_ ?_)
   | (with_reducible refine LeO.bind ?_ (fun _ => ?_))
   | exact ih0 _ _ _
   | exact LeO.none _
   | refine LeO.ite ?_ ?_
   | refine LeO.bind ?_ (fun _ => ?_)
theorem cohousingref02_Same.mono : ∀ a0 a1 k, LeO (cohousingref02_Same.f k a0 a1) (cohousingref02_Same.f (k + 1) a0 a1) := by
 intro a0 a1 k
 have ih0 := cohousingref02_Same.mono_l k
 unfold cohousingref02_Same.f
 repeat' first
   | (with_reducible exact ih0 _ _ _)
   | (with_reducible exact LeO.refl _)
   | (with_reducible exact LeO.none _)
   | (with_reducible refine LeO.ite ?_ ?_)
   | (with_reducible refine LeO.bind ?_ (fun _ => ?_))
   | exact ih0 _ _ _
   | exact LeO.none _
   | refine LeO.ite ?_ ?_
   | refine LeO.bind ?_ (fun _ => ?_)
set_option maxHeartbeats 8000000 in
set_option maxRecDepth 100000 in
theorem cohousingref02_Same.calls (k : Nat) (A0 : Option Addr) (c0 : Nat) (l0 : List Int) (A1 : Option Addr) (c1 : Nat) (l1 : List Int) (r : Bool) (w : World) (hr0 : Kd.C (Kd.int .i64) w A0 l0.length l0) (hc0 : l0.length ≤ c0) (hr1 : Kd.C (Kd.int .i64) w A1 l1.length l1) (hc1 : l1.length ≤ c1) (h : cohousingref02_Same.f k l0 l1 = some r) :
  Calls Try.prog 20 #[.slice A0 l0.length c0, .slice A1 l1.length c1] w fun e w' => e = .returned (.bool r) ∧ Drawn0 w w' := by
 have HR0 := Aside0.mk hr0
 have HC0 := Aside0.mk hc0
 clear hr0 hc0
 have HR1 := Aside0.mk hr1
 have HC1 := Aside0.mk hc1
 clear hr1 hc1
 have H : (if (l0.length : Int) = (l1.length : Int) then (cohousingref02_Same.l0 k l0 l1 0) else (some false)) = some r := h
 clear h
 by_cases c3 : (l0.length : Int) = (l1.length : Int)
 ·rw [if_pos c3] at H
  have c3b0 : ((l0.length : Int) == (l1.length : Int)) = true := beq_iff_eq.mpr c3
  have c3b1 : ((l0.length : Int) != (l1.length : Int)) = false := bne_eq_false_iff_eq.mpr c3
  have c3b2 : (l0.length == l1.length) = true := by first | simpa using c3 | (simp at c3 ⊢; omega)
  clear c3
  have H' := Aside0.mk H
  clear H
  go_enter Try.func20, Try.ntmps20
  go_wp2
  repeat (go_quiet (fail); try go_wp2)
  go_loopg [5] k (fun kq v5 w' => ∃ (x5_1 : Int), v5 = .int .i64 x5_1 ∧ Aside0 (cohousingref02_Same.l0 kq l0 l1 x5_1 = some r) ∧ Aside0 (kq ≤ k) ∧ Drawn0 w w')
  case atStart => exact ⟨(0), (by first | rfl | (simp; done) | (simp [*]; done)), H', ⟨Nat.le_refl _⟩, by repeat (first | exact Drawn0.refl _ | apply Drawn0.step)⟩
  case round =>
   clear H'
   try clear c1
   try clear c2
   try clear p2
   try clear c3
   try clear c3b0
   try clear c3b1
   try clear c3b2
   obtain ⟨x5_1, rfl, HA, HK1, ⟨m1, rfl⟩⟩ := hrel
   cases gk with
   | zero => exact absurd HA.out (by simp [cohousingref02_Same.l0])
   | succ k1 =>
    have H := HA.out
    clear HA
    simp only [cohousingref02_Same.l0] at H
    by_cases c4 : x5_1 < (l0.length : Int)
    ·rw [if_pos c4] at H
     have c4b0 : decide (x5_1 < (l0.length : Int)) = true := decide_eq_true c4
     clear c4
     by_cases c5 : 0 ≤ x5_1
     ·rw [if_pos c5] at H
      have c5b0 : decide (0 ≤ x5_1) = true := decide_eq_true c5
      clear c5
      by_cases c6 : x5_1 < (l1.length : Int)
      ·rw [if_pos c6] at H
       have c6b0 : decide (x5_1 < (l1.length : Int)) = true := decide_eq_true c6
       clear c6
       by_cases c7 : (rd l0 x5_1) = (rd l1 x5_1)
       ·rw [if_pos c7] at H
        have c7b0 : ((rd l0 x5_1) == (rd l1 x5_1)) = true := beq_iff_eq.mpr c7
        have c7b1 : ((rd l0 x5_1) != (rd l1 x5_1)) = false := bne_eq_false_iff_eq.mpr c7
        clear c7
        have H' := Aside0.mk H
        clear H
        have p123 : 0 ≤ (x5_1 : Int) := of_decide_eq_true (by first | (with_reducible assumption) | assumption)
        have q123 : x5_1 < (l0.length : Int) := of_decide_eq_true (by first | (with_reducible assumption) | assumption)
        obtain ⟨ad123, e123, hx123_0⟩ := Kd.at_int HR0.out x5_1 p123 q123
        cases e123
        replace p123 := eq_true p123
        replace q123 := eq_true q123
        have p124 : 0 ≤ (x5_1 : Int) := of_decide_eq_true (by first | (with_reducible assumption) | assumption)
        have q124 : x5_1 < (l1.length : Int) := of_decide_eq_true (by first | (with_reducible assumption) | assumption)
        obtain ⟨ad124, e124, hx124_0⟩ := Kd.at_int HR1.out x5_1 p124 q124
        cases e124
        replace p124 := eq_true p124
        replace q124 := eq_true q124
        go_wp2
        repeat (go_quiet (fail); try go_wp2)
        go_roundg k1
        case measure => have := HK1.out; omega
        case rel => exact ⟨(wrap64 (x5_1 + 1)), (by first | rfl | (simp; done) | (simp [*]; done)), H', ⟨by have := HK1.out; omega⟩, by repeat (first | exact Drawn0.refl _ | apply Drawn0.step)⟩
       ·rw [if_neg c7] at H
        have c7b0 : ((rd l0 x5_1) == (rd l1 x5_1)) = false := beq_eq_false_iff_ne.mpr c7
        have c7b1 : ((rd l0 x5_1) != (rd l1 x5_1)) = true := bne_iff_ne.mpr c7
        obtain rfl := Option.some.inj H
        have p123 : 0 ≤ (x5_1 : Int) := of_decide_eq_true (by first | (with_reducible assumption) | assumption)
        have q123 : x5_1 < (l0.length : Int) := of_decide_eq_true (by first | (with_reducible assumption) | assumption)
        obtain ⟨ad123, e123, hx123_0⟩ := Kd.at_int HR0.out x5_1 p123 q123
        cases e123
        replace p123 := eq_true p123
        replace q123 := eq_true q123
        have p124 : 0 ≤ (x5_1 : Int) := of_decide_eq_true (by first | (with_reducible assumption) | assumption)
        have q124 : x5_1 < (l1.length : Int) := of_decide_eq_true (by first | (with_reducible assumption) | assumption)
        obtain ⟨ad124, e124, hx124_0⟩ := Kd.at_int HR1.out x5_1 p124 q124
        cases e124
        replace p124 := eq_true p124
        replace q124 := eq_true q124
        go_wp2
        repeat (go_quiet (fail); try go_wp2)
        go_ret
        exact ⟨by first | rfl | (simp; done) | (simp [*]; done), by repeat (first | exact Drawn0.refl _ | apply Drawn0.step)⟩
      ·rw [if_neg c6] at H
       exact absurd H (by simp)
     ·rw [if_neg c5] at H
      exact absurd H (by simp)
    ·rw [if_neg c4] at H
     have c4b0 : decide (x5_1 < (l0.length : Int)) = false := decide_eq_false c4
     clear c4
     obtain rfl := Option.some.inj H
     go_wp2
     repeat (go_quiet (fail); try go_wp2)
     go_ret
     exact ⟨by first | rfl | (simp; done) | (simp [*]; done), by repeat (first | exact Drawn0.refl _ | apply Drawn0.step)⟩
 ·rw [if_neg c3] at H
  have c3b0 : ((l0.length : Int) == (l1.length : Int)) = false := beq_eq_false_iff_ne.mpr c3
  have c3b1 : ((l0.length : Int) != (l1.length : Int)) = true := bne_iff_ne.mpr c3
  have c3b2 : (l0.length == l1.length) = false := by first | simpa using c3 | (simp at c3 ⊢; omega)
  obtain rfl := Option.some.inj H
  go_enter Try.func20, Try.ntmps20
  go_wp2
  repeat (go_quiet (fail); try go_wp2)
  go_ret
  exact ⟨by first | rfl | (simp; done) | (simp [*]; done), by repeat (first | exact Drawn0.refl _ | apply Drawn0.step)⟩
end Go.Proofs.Ytmojlpafpeeelaa.P
end
