/- Part 3 of the base that the seat's proofs share: words, walks and plain laws. -/
import Derived.ArgAppend
import Derived.Below
import Derived.BigQuiet
import Derived.ChangeOld
import Derived.ChangeSlices
import Derived.Deep.AppendLies
import Derived.Deep.CutBlock
import Derived.Deep.DeepCutAuto
import Derived.Deep.Draws
import Derived.Deep.LoopGhost
import Derived.Deep.OwnRows
import Derived.Deep.QuietTactic
import Derived.Deep.RegionHeld3
import Derived.Deep.Slices
import Derived.KernelRfl
import Derived.Laws.BitsLemmas
import Derived.Laws.BytesArg
import Derived.Laws.IdiomCopy
import Derived.Laws.MakeOwn
import Derived.Laws.OwnMore
import Derived.Laws.Rows
import Derived.Laws.Slices
import Derived.Laws.StructEq
import Derived.Lib.AppendStr
import Derived.Lib.ConvBytes
import Derived.LoopIn
import Derived.LoopNIn
import Derived.Maps.AppendAt
import Derived.Maps.Own
import Derived.OpenShut
import Derived.OrdersHeld
import Derived.OwnWalk
import Derived.OwnWalkIn
import Derived.ProofKit
import Derived.RangeFuncBound
import Derived.RangeFuncCalls
import Derived.RangeFuncLeaves
import Derived.RangeFuncNested
import Derived.RowKit
import Derived.RowKit3
import Derived.ShutString
import Derived.SizedLaws
import Derived.Tactics
import Derived.TacticsInMore
import Derived.Test.YtbgchacafglcpaaProg
import Derived.WalkKit
import Derived.WideLaws
import Derived.Test.YtbgchacafglcpaaCBb
set_option linter.unusedVariables false
set_option linter.unusedSimpArgs false
section
namespace Go.Proofs.Ytbgchacafglcpaa.P
open Go.RowKit Go.Proofs.YtbgchacafglcpaaW.PrintWords Go.Proofs.YtbgchacafglcpaaW.PrintLast Go.Proofs.YtbgchacafglcpaaW.PrintMore
attribute [local go_sem] max2_int min2_int max_two min_two max_three min_three max_four min_four
set_option linter.unusedVariables false
set_option linter.unusedSimpArgs false
def charges_households.l0 : Nat → Int → List Int → Int → Int → Option (Bool)
 | 0, _, _, _, _ => none
 | k + 1, x3, x6, x7, x8 => if x8 < x7 then (if 0 ≤ x8 then (if x8 < (x6.length : Int) then (if (rd x6 x8) ≤ x3 then (some false) else (if (rd x6 x8) > 64 then (some false) else (charges_households.l0 k (rd x6 x8) x6 x7 (wrap64 (x8 + 1))))) else (none)) else (none)) else (some true)
def charges_households.f (k : Nat) (l0 : List Int) : Option (Bool) := charges_households.l0 k 0 l0 (l0.length : Int) 0
theorem charges_households.mono_l : ∀ k, (∀ y0 y1 y2 y3, LeO (charges_households.l0 k y0 y1 y2 y3) (charges_households.l0 (k + 1) y0 y1 y2 y3))
 | 0 => fun _ _ _ _ r h => by simp [charges_households.l0] at h
 | k + 1 => by
  have ih0 := charges_households.mono_l k
  ·intro y0 y1 y2 y3
   unfold charges_households.l0
   repeat' first
   | (with_reducible exact ih0 _ _ _ _)
   | (with_reducible exact LeO.refl _)
   | (with_reducible exact LeO.none _)
   | (with_reducible refine LeO.ite ?_ ?_)
   | (with_reducible refine LeO.bind ?_ (fun _ => ?_))
   | exact ih0 _ _ _ _
   | exact LeO.none _
   | refine LeO.ite ?_ ?_
   | refine LeO.bind ?_ (fun _ => ?_)
theorem charges_households.mono : ∀ a0 k, LeO (charges_households.f k a0) (charges_households.f (k + 1) a0) := by
 intro a0 k
 have ih0 := charges_households.mono_l k
 unfold charges_households.f
 repeat' first
   | (with_reducible exact ih0 _ _ _ _)
   | (with_reducible exact LeO.refl _)
   | (with_reducible exact LeO.none _)
   | (with_reducible refine LeO.ite ?_ ?_)
   | (with_reducible refine LeO.bind ?_ (fun _ => ?_))
   | exact ih0 _ _ _ _
   | exact LeO.none _
   | refine LeO.ite ?_ ?_
   | refine LeO.bind ?_ (fun _ => ?_)
set_option maxHeartbeats 8000000 in
set_option maxRecDepth 100000 in
theorem charges_households.calls (k : Nat) (A0 : Option Addr) (c0 : Nat) (l0 : List Int) (r : Bool) (w : World) (hr0 : Kd.C (Kd.int .i64) w A0 l0.length l0) (hc0 : l0.length ≤ c0) (h : charges_households.f k l0 = some r) :
  Calls Try.prog 35 #[.slice A0 l0.length c0] w fun e w' => e = .returned (.bool r) ∧ Drawn0 w w' := by
 have HR0 := Aside0.mk hr0
 have HC0 := Aside0.mk hc0
 clear hr0 hc0
 have H : (charges_households.l0 k 0 l0 (l0.length : Int) 0) = some r := h
 clear h
 have H' := Aside0.mk H
 clear H
 go_enter Try.func35, Try.ntmps35
 go_wp2
 go_loopg [3, 8] k (fun kq v3 v8 w' => ∃ (x3_1 : Int) (x8_1 : Int), v3 = .int .i64 x3_1 ∧ v8 = .int .i64 x8_1 ∧ Aside0 (charges_households.l0 kq x3_1 l0 (l0.length : Int) x8_1 = some r) ∧ Aside0 (kq ≤ k) ∧ Drawn0 w w')
 case atStart => exact ⟨(0), (0), (by first | rfl | (simp; done) | (simp [*]; done)), (by first | rfl | (simp; done) | (simp [*]; done)), H', ⟨Nat.le_refl _⟩, by repeat (first | exact Drawn0.refl _ | apply Drawn0.step)⟩
 case round =>
  clear H'
  obtain ⟨x3_1, x8_1, rfl, rfl, HA, HK1, ⟨m1, rfl⟩⟩ := hrel
  cases gk with
  | zero => exact absurd HA.out (by simp [charges_households.l0])
  | succ k1 =>
   have H := HA.out
   clear HA
   simp only [charges_households.l0] at H
   by_cases c2 : x8_1 < (l0.length : Int)
   ·rw [if_pos c2] at H
    have c2b0 : decide (x8_1 < (l0.length : Int)) = true := decide_eq_true c2
    clear c2
    by_cases c3 : 0 ≤ x8_1
    ·rw [if_pos c3] at H
     have c3b0 : decide (0 ≤ x8_1) = true := decide_eq_true c3
     clear c3
     by_cases c4 : x8_1 < (l0.length : Int)
     ·rw [if_pos c4] at H
      have c4b0 : decide (x8_1 < (l0.length : Int)) = true := decide_eq_true c4
      clear c4
      by_cases c5 : (rd l0 x8_1) ≤ x3_1
      ·rw [if_pos c5] at H
       have c5b0 : decide ((rd l0 x8_1) ≤ x3_1) = true := decide_eq_true c5
       clear c5
       obtain rfl := Option.some.inj H
       have p132 : 0 ≤ (x8_1 : Int) := of_decide_eq_true (by first | (with_reducible assumption) | assumption)
       have q132 : x8_1 < (l0.length : Int) := of_decide_eq_true (by first | (with_reducible assumption) | assumption)
       obtain ⟨ad132, e132, hx132_0⟩ := Kd.at_int HR0.out x8_1 p132 q132
       cases e132
       replace p132 := eq_true p132
       replace q132 := eq_true q132
       go_wp2
       go_ret
       exact ⟨by first | rfl | (simp; done) | (simp [*]; done), by repeat (first | exact Drawn0.refl _ | apply Drawn0.step)⟩
      ·rw [if_neg c5] at H
       have c5b0 : decide ((rd l0 x8_1) ≤ x3_1) = false := decide_eq_false c5
       clear c5
       by_cases c6 : (rd l0 x8_1) > 64
       ·rw [if_pos c6] at H
        have c6b0 : decide (64 < (rd l0 x8_1)) = true := decide_eq_true c6
        clear c6
        obtain rfl := Option.some.inj H
        have p132 : 0 ≤ (x8_1 : Int) := of_decide_eq_true (by first | (with_reducible assumption) | assumption)
        have q132 : x8_1 < (l0.length : Int) := of_decide_eq_true (by first | (with_reducible assumption) | assumption)
        obtain ⟨ad132, e132, hx132_0⟩ := Kd.at_int HR0.out x8_1 p132 q132
        cases e132
        replace p132 := eq_true p132
        replace q132 := eq_true q132
        go_wp2
        go_ret
        exact ⟨by first | rfl | (simp; done) | (simp [*]; done), by repeat (first | exact Drawn0.refl _ | apply Drawn0.step)⟩
       ·rw [if_neg c6] at H
        have c6b0 : decide (64 < (rd l0 x8_1)) = false := decide_eq_false c6
        clear c6
        have H' := Aside0.mk H
        clear H
        have p132 : 0 ≤ (x8_1 : Int) := of_decide_eq_true (by first | (with_reducible assumption) | assumption)
        have q132 : x8_1 < (l0.length : Int) := of_decide_eq_true (by first | (with_reducible assumption) | assumption)
        obtain ⟨ad132, e132, hx132_0⟩ := Kd.at_int HR0.out x8_1 p132 q132
        cases e132
        replace p132 := eq_true p132
        replace q132 := eq_true q132
        go_wp2
        go_roundg k1
        case measure => have := HK1.out; omega
        case rel => exact ⟨(rd l0 x8_1), (wrap64 (x8_1 + 1)), (by first | rfl | (simp; done) | (simp [*]; done)), (by first | rfl | (simp; done) | (simp [*]; done)), H', ⟨by have := HK1.out; omega⟩, by repeat (first | exact Drawn0.refl _ | apply Drawn0.step)⟩
     ·rw [if_neg c4] at H
      exact absurd H (by simp)
    ·rw [if_neg c3] at H
     exact absurd H (by simp)
   ·rw [if_neg c2] at H
    have c2b0 : decide (x8_1 < (l0.length : Int)) = false := decide_eq_false c2
    clear c2
    obtain rfl := Option.some.inj H
    go_wp2
    go_ret
    exact ⟨by first | rfl | (simp; done) | (simp [*]; done), by repeat (first | exact Drawn0.refl _ | apply Drawn0.step)⟩
end Go.Proofs.Ytbgchacafglcpaa.P
end
section
namespace Go.Proofs.Ytbgchacafglcpaa.P
open Go.RowKit Go.Proofs.YtbgchacafglcpaaW.PrintWords Go.Proofs.YtbgchacafglcpaaW.PrintLast Go.Proofs.YtbgchacafglcpaaW.PrintMore
attribute [local go_sem] max2_int min2_int max_two min_two max_three min_three max_four min_four
set_option linter.unusedVariables false
set_option linter.unusedSimpArgs false
open Go.Proofs.YtbgchacafglcpaaH
theorem infoB : (Try.prog.info? 94).map (fun i => (i.zero, i.size, i.bytes)) = some (some (.agg #[.int .i64 0, .int .i64 0, .int .i64 0, .int .i64 0, .bool false]), 5, 40) := by kernel_rfl
def set5 (W : World) (g o : Nat) (y : S43) : World := ((((W.setCell ⟨g, o, none⟩ (.int .i64 y.f0)).setCell ⟨g, o + 1, none⟩ (.int .i64 y.f1)).setCell ⟨g, o + 2, none⟩ (.int .i64 y.f2.f0)).setCell ⟨g, o + 3, none⟩ (.int .i64 y.f2.f1)).setCell ⟨g, o + 4, none⟩ (.bool y.f3)
theorem bill_elem {e : Nat} {W : World} {base g n cap : Nat} {xs : List S43} (h : Kd.R k43 e W base (fun _ => True) (.slice (some ⟨g, 0, none⟩) n cap) xs) (i : Int) (h0 : 0 ≤ i) (h1 : i < n) :
  (W.cell? ⟨g, i.toNat * 5, none⟩ = some (.int .i64 (rd_T43 xs i).f0) ∧ W.cell? ⟨g, i.toNat * 5 + 1, none⟩ = some (.int .i64 (rd_T43 xs i).f1) ∧ W.cell? ⟨g, i.toNat * 5 + 2, none⟩ = some (.int .i64 (rd_T43 xs i).f2.f0) ∧ W.cell? ⟨g, i.toNat * 5 + 3, none⟩ = some (.int .i64 (rd_T43 xs i).f2.f1) ∧ W.cell? ⟨g, i.toNat * 5 + 4, none⟩ = some (.bool (rd_T43 xs i).f3)) ∧
   (∀ j, W.frozen? ⟨g, i.toNat * 5 + j, none⟩ = false) ∧
   (∀ y : S43, Kd.R k43 e (set5 W g (i.toNat * 5) y) base (fun _ => True) (.slice (some ⟨g, 0, none⟩) n cap) (xs.set i.toNat y) ∧ W.grownBy (set5 W g (i.toNat * 5) y) (some g)) ∧
   (∀ c : Int, Kd.R k43 e (W.setCell ⟨g, i.toNat * 5 + 1, none⟩ (.int .i64 c)) base (fun _ => True) (.slice (some ⟨g, 0, none⟩) n cap) (xs.set i.toNat ⟨(rd_T43 xs i).f0, c, (rd_T43 xs i).f2, (rd_T43 xs i).f3⟩) ∧ W.grownBy (W.setCell ⟨g, i.toNat * 5 + 1, none⟩ (.int .i64 c)) (some g)) := by
 obtain ⟨c, hcl, hM, hcc, hfr⟩ := Kd.R_elem h z43 i h0 h1
 obtain rfl := k43_openM hM
 have e : k43.sz = 5 := rfl
 refine ⟨⟨hcc 0 _ rfl, hcc 1 _ rfl, hcc 2 _ rfl, hcc 3 _ rfl, hcc 4 _ rfl⟩, hfr, fun y => ?_, fun c' => ?_⟩
 ·exact Kd.R_seg h i h0 h1 hcl hcc (seg := [.int .i64 y.f0, .int .i64 y.f1, .int .i64 y.f2.f0, .int .i64 y.f2.f1, .bool y.f3]) (j := 0) (show 0 + 5 ≤ 5 from Nat.le_refl _) (x' := y) (okp := fun _ => False) (k43_mkM _ _ _ y) (fun _ hk => hk.elim)
 ·exact Kd.R_seg h i h0 h1 hcl hcc (seg := [.int .i64 c']) (j := 1) (show 1 + 1 ≤ 5 from by decide) (x' := ⟨(rd_T43 xs i).f0, c', (rd_T43 xs i).f2, (rd_T43 xs i).f3⟩) (okp := fun _ => False) (k43_mkM _ _ _ ⟨(rd_T43 xs i).f0, c', (rd_T43 xs i).f2, (rd_T43 xs i).f3⟩) (fun _ hk => hk.elim)
theorem backB_calls (A0 : Option Addr) (n c : Nat) (w : World) :
  Calls Try.prog 48 #[.slice A0 n c] w fun e w' => e = .returned (.func (.func 69) #[] #[.pointer (some ⟨w.heap.size, 0, none⟩)]) ∧ w' = w.alloc (.cells #[.slice A0 n c] 92) := by
 go_enter Try.func48, Try.ntmps48
 go_wp2
 go_ret
 exact ⟨rfl, rfl⟩
abbrev IxB (n : Nat) := { j : Nat // j < n } × S43
def encB {n : Nat} (x : IxB n) : Array Value := #[.int .i64 (x.1.1 : Int), .agg #[.int .i64 x.2.f0, .int .i64 x.2.f1, .int .i64 x.2.f2.f0, .int .i64 x.2.f2.f1, .bool x.2.f3]]
def RdB (n0 n : Nat) (A : Option Addr) (c : Nat) (W : World) : Prop := ∃ bs : List S43, bs.length = n ∧ Kd.R k43 94 W n0 (fun _ => True) (.slice A n c) bs
def KeepB (n0 b n : Nat) (A : Option Addr) (c : Nat) (W W' : World) : Prop := Below n0 W W' ∧ W'.heap[b]? = W.heap[b]? ∧ (RdB n0 n A c W → RdB n0 n A c W')
theorem keepB_t {n0 b n : Nat} {A0 : Option Addr} {c : Nat} {A B C : World} (h : KeepB n0 b n A0 c A B) (k : KeepB n0 b n A0 c B C) : KeepB n0 b n A0 c A C := ⟨h.1.trans k.1, k.2.1.trans h.2.1, fun r => k.2.2 (h.2.2 r)⟩
theorem keepB_b {n0 b n : Nat} {A0 : Option Addr} {c : Nat} {w : World} (hn : n0 ≤ w.heap.size) (hb : b < w.heap.size) (W : World) (l : Nat) (o o' : Obj) (hl : w.heap.size ≤ l) (h : W.heap[l]? = some o) (h1 : o.isCells = false) (h2 : o.isWalk = false) : KeepB n0 b n A0 c W (W.putObj l o') :=
 ⟨belowK_b hn W l o o' hl h h1 h2, World.putObj_heap_other (by omega), fun ⟨bs, hbl, hR⟩ => ⟨bs, hbl, R_objs hR (grownBy_putObj' W l o') (fun r e => by cases e; exact ⟨o, h, h1⟩)⟩⟩
attribute [local go_sem] Oper.semAt_some
set_option maxRecDepth 100000 in
set_option maxHeartbeats 4000000 in
theorem back1B_in (n : Nat) (hn : 1 ≤ n) (lr Bn n0 : Nat) (A0 : Option Addr) (c0 len : Nat) (hsz : len ≤ 5864062014805) (J Jx : List (IxB len) → World → Prop)
  (hY : ∀ pre x W, J pre W → pre.length < len → YieldAt Fence.wide (n - 1) Try.prog lr (encB x) W fun e W' =>
   (e = .returned (.bool true) ∧ J (pre ++ [x]) W' ∧ KeepB n0 Bn len A0 c0 W W') ∨ (e = .returned (.bool false) ∧ Jx (pre ++ [x]) W'))
  (W : World) (hBn : W.heap[Bn]? = some (.cells #[.slice A0 len c0] 92 (0, 0))) (hC : RdB n0 len A0 c0 W) (h0 : J [] W) :
  CallsIn Fence.wide n Try.prog 69 #[.func (.yield lr) #[] #[], .pointer (some ⟨Bn, 0, none⟩)] W fun e W' => (∃ v, e = .returned v) ∧
   ((∃ xs : List (IxB len), xs.map (·.1.1) = downTo len len ∧ J xs W') ∨ (∃ pre, True ∧ Jx pre W')) := by
 refine callsIn_of_wp Try.func69 rfl trivial ?_ rfl
 simp only [Try.ntmps69, List.size_toArray, List.length_cons, List.length_nil, Nat.reduceAdd, Nat.reduceSub, Array.replicate_succ, Array.replicate_zero, List.push_toArray, List.append_toArray, List.nil_append, List.cons_append]
 have hc0 : W.cell? ⟨Bn, 0, none⟩ = some (.slice A0 len c0) := (blk_cell hBn 0).trans rfl
 have HSZ := Aside0.mk hsz
 have HC := Aside0.mk hC
 have HY := Aside0.mk hY
 have HBN := Aside0.mk hBn
 have H0 := Aside0.mk h0
 clear hsz hC hY hBn h0
 have hq1 : (len : Int) - 1 ≤ 9223372036854775807 := by have := HSZ.out; omega
 have hq2 : -9223372036854775808 ≤ (len : Int) - 1 := by omega
 gi_wp2
 gi_loopw [3] (fun i wr => ∃ (k : Nat) (pre : List (IxB len)), k ≤ len ∧ i = .int .i64 ((len : Int) - 1 - k) ∧ Aside0 (pre.map (·.1.1) = downTo len k) ∧ Aside0 (J pre wr) ∧ Aside0 (KeepB n0 Bn len A0 c0 W wr))
  (fun i _ => (intOf i + 1).toNat)
 case atStart => exact ⟨0, [], Nat.zero_le _, by simp, ⟨by simp [downTo]⟩, H0, ⟨⟨Below.refl _ _, rfl, id⟩⟩⟩
 case round =>
  clear hc0 H0
  obtain ⟨k, pre, hk, rfl, HP, HJ, HK⟩ := hrel
  have hc0 : wr.cell? ⟨Bn, 0, none⟩ = some (.slice A0 len c0) := (blk_cell (HK.out.2.1.trans HBN.out) 0).trans rfl
  by_cases hlt : k < len
  ·obtain ⟨i, hi⟩ : ∃ i : Int, i = (len : Int) - 1 - k := ⟨_, rfl⟩
   rw [← hi]
   have hi0 : 0 ≤ i := by omega
   have hi1 : i < len := by omega
   obtain ⟨bs, hbl, hbR⟩ := HK.out.2.2 HC.out
   obtain ⟨b, hb⟩ : ∃ b, b = rd_T43 bs i := ⟨_, rfl⟩
   obtain ⟨xi, hti, hxb⟩ : ∃ xi : IxB len, (xi.1.1 : Int) = i ∧ xi.2 = b := ⟨(⟨i.toNat, by omega⟩, b), by show ((i.toNat : Nat) : Int) = i; omega, rfl⟩
   obtain ⟨fn, tmps, assign, body, hy, hR⟩ := HY.out pre xi wr HJ.out (by have := congrArg List.length HP.out; rw [List.length_map, downTo_length] at this; omega)
   simp only [encB, hti, hxb] at hy
   have HTI := Aside0.mk hti
   obtain ⟨ad, e, hx0, hx1, hx2, hx3, hx4⟩ := at_T43 (Kd.R_reads' hbR).2.2 i hi0 (by omega)
   rw [← hb] at hx0 hx1 hx2 hx3 hx4
   have HI := Aside0.mk hi
   have HR := Aside0.mk hR
   have HL := Aside0.mk (And.intro hi0 (And.intro hi1 hlt))
   have c1 : decide (0 ≤ i) = true := decide_eq_true hi0
   have c2 : (0 ≤ i) = True := eq_true hi0
   have c3 : (i < len) = True := eq_true hi1
   have hb1 : i - 1 ≤ 9223372036854775807 := by have := HSZ.out; omega
   have hb2 : -9223372036854775808 ≤ i - 1 := by omega
   clear hi hR hi0 hi1 hlt hti hk hbl hbR hb hxb
   subst e
   gi_wp2
   refine HR.out.mono ?_
   rintro e W3 (⟨rfl, hJ3, hk3⟩ | ⟨rfl, hJx3⟩)
   ·have HJ3 := Aside0.mk hJ3
    have HK3 := Aside0.mk hk3
    clear hJ3 hk3
    gi_wp2
    go_roundw
    case rel =>
     refine ⟨k + 1, _, ?_, ?_, ⟨?_⟩, HJ3, ⟨keepB_t HK.out HK3.out⟩⟩
     ·have := HL.out; omega
     ·have := HI.out; first | (rw [show i - 1 = (len : Int) - 1 - ((k + 1 : Nat) : Int) from by omega]; done) | (simp; omega)
     ·rw [List.map_append, HP.out, downTo_succ]
      have h1 := HTI.out
      have h2 := HI.out
      have h3 := HL.out
      simp only [List.map_cons, List.map_nil]
      congr 2
      omega
    case measure => have := HL.out; simp [intOf]; omega
   ·gi_wp2
    refine bodyPost_ret (results_none rfl _ _ _) rfl ?_
    exact ⟨⟨_, rfl⟩, .inr ⟨_, trivial, hJx3⟩⟩
  ·obtain ⟨i, hi⟩ : ∃ i : Int, i = (len : Int) - 1 - k := ⟨_, rfl⟩
   rw [← hi]
   have c1 : decide (0 ≤ i) = false := decide_eq_false (by omega)
   have HKL := Aside0.mk (show k = len by omega)
   clear hlt hk hi
   gi_wp2
   go_end0
   exact ⟨⟨_, rfl⟩, .inl ⟨pre, by rw [HP.out, HKL.out], HJ.out⟩⟩
theorem backB_stops (n : Nat) (hn : 1 ≤ n) (Bn n0 : Nat) (A0 : Option Addr) (c0 len : Nat) (hsz : len ≤ 5864062014805) (w : World) (hBn : w.heap[Bn]? = some (.cells #[.slice A0 len c0] 92 (0, 0))) (hC : RdB n0 len A0 c0 w) :
  SeqStopsK Fence.wide n Try.prog 69 #[.pointer (some ⟨Bn, 0, none⟩)] (encB (n := len)) (KeepB n0 Bn len A0 c0) (fun xs => xs.map (·.1.1) = downTo len len) (fun _ => True) len w := by
 intro lr J Jx W hW _ _ hY h0
 obtain ⟨bs, hbl, hR⟩ := hC
 exact back1B_in n hn lr Bn n0 A0 c0 len hsz J Jx hY W (blk_below hBn hW) ⟨bs, hbl, Kd.R_below hR hW⟩ h0
end Go.Proofs.Ytbgchacafglcpaa.P
end
section
namespace Go.Proofs.Ytbgchacafglcpaa.P
open Go.RowKit Go.Proofs.YtbgchacafglcpaaW.PrintWords Go.Proofs.YtbgchacafglcpaaW.PrintLast Go.Proofs.YtbgchacafglcpaaW.PrintMore
attribute [local go_sem] max2_int min2_int max_two min_two max_three min_three max_four min_four
set_option linter.unusedVariables false
set_option linter.unusedSimpArgs false
def lowBy (b c lo : Int) : Int := mx 0 (mn b (wrap64 (c - lo)))
set_option maxHeartbeats 8000000 in
theorem lower_at (g o : Nat) (c lo b : Int) (w : World) (h1 : w.cell? ⟨g, o + 1, none⟩ = some (.int .i64 c)) (h2 : w.cell? ⟨g, o + 2, none⟩ = some (.int .i64 lo)) (hf : w.frozen? ⟨g, o + 1, none⟩ = false) :
  Calls Try.prog 49 #[.pointer (some ⟨g, o, none⟩), .int .i64 b] w fun e w' => e = .returned (.int .i64 (lowBy b c lo)) ∧ ∃ n, w' = (w.drewN n).setCell ⟨g, o + 1, none⟩ (.int .i64 (wrap64 (c - lowBy b c lo))) := by
 obtain ⟨j3, h3⟩ : ∃ j, (mn b (wrap64 (c - lo))) = j := ⟨_, rfl⟩
 have h3_ : (if (wrap64 (c - lo)) < b then (wrap64 (c - lo)) else b) = j3 := h3
 obtain ⟨j4, h4⟩ : ∃ j, mx 0 j3 = j := ⟨_, rfl⟩
 have h4_ : (if 0 < j3 then j3 else 0) = j4 := h4
 have HL : lowBy b c lo = j4 := by unfold lowBy; rw [h3, h4]
 rw [HL]
 clear HL h3 h4
 go_enter Try.func49, Try.ntmps49
 go_wp2
 repeat (go_quiet (fail); try go_wp2)
 go_ret
 exact ⟨rfl, _, rfl⟩
end Go.Proofs.Ytbgchacafglcpaa.P
end
section
namespace Go.Proofs.Ytbgchacafglcpaa.P
open Go.RowKit Go.Proofs.YtbgchacafglcpaaW.PrintWords Go.Proofs.YtbgchacafglcpaaW.PrintLast Go.Proofs.YtbgchacafglcpaaW.PrintMore
attribute [local go_sem] max2_int min2_int max_two min_two max_three min_three max_four min_four
set_option linter.unusedVariables false
set_option linter.unusedSimpArgs false
open Go.Proofs.YtbgchacafglcpaaH
def homesB : Int → List Int → Bool
 | _, [] => true
 | last, h :: t => if h ≤ last ∨ h > 64 then false else homesB h t
theorem homes_l0 (l : List Int) (hn : l.length ≤ 140737488355328) : ∀ (d : Nat) (i : Nat) (k : Nat) (last : Int), i + d = l.length → d < k → charges_households.l0 k last l (l.length : Int) (i : Int) = some (homesB last (l.drop i)) := by
 intro d
 induction d with
 | zero =>
  intro i k last hi hk
  obtain ⟨k, rfl⟩ : ∃ m, k = m + 1 := ⟨k - 1, by omega⟩
  simp only [charges_households.l0]
  rw [if_neg (by omega), List.drop_of_length_le (by omega)]
  rfl
 | succ d ih =>
  intro i k last hi hk
  obtain ⟨k, rfl⟩ : ∃ m, k = m + 1 := ⟨k - 1, by omega⟩
  have hil : i < l.length := by omega
  have hrd : rd l (i : Int) = l[i] := by simp [rd, List.getD_eq_getElem?_getD, hil]
  simp only [charges_households.l0]
  rw [if_pos (by omega), if_pos (by omega), if_pos (by omega), hrd, List.drop_eq_getElem_cons hil]
  simp only [homesB]
  by_cases c1 : l[i] ≤ last
  ·rw [if_pos c1, if_pos (.inl c1)]
  ·by_cases c2 : l[i] > 64
   ·rw [if_neg c1, if_pos c2, if_pos (.inr c2)]
   ·rw [if_neg c1, if_neg c2, if_neg (by omega), show wrap64 ((i : Int) + 1) = ((i + 1 : Nat) : Int) from by unfold wrap64; omega]
    exact ih (i + 1) k _ (by omega) (by omega)
theorem homes_any (A0 : Option Addr) (c0 : Nat) (l : List Int) (b : Bool) (w : World) (hr0 : Kd.C (Kd.int .i64) w A0 l.length l) (hc0 : l.length ≤ c0) (hn : l.length ≤ 140737488355328) (h : homesB 0 l = b) :
  Calls Try.prog 35 #[.slice A0 l.length c0] w fun e w' => e = .returned (.bool b) ∧ Drawn0 w w' := by
 refine charges_households.calls (l.length + 1) A0 c0 l b w hr0 hc0 ?_
 unfold charges_households.f
 have := homes_l0 l hn l.length 0 (l.length + 1) 0 (by omega) (by omega)
 rw [show ((0 : Nat) : Int) = 0 from rfl] at this
 rw [this, List.drop_zero, h]
def billOf (h : Int) (b : S38) : S43 := ⟨h, wrap64 (Int.tdiv (wrap64 (b.f0 + b.f1)) 2), ⟨b.f0, b.f1⟩, b.f0 == b.f1⟩
def billsN (homes : List Int) (bs : List S38) (n i : Nat) : List S43 := (List.range i).foldl (fun y (j : Nat) => y.set j (billOf (rd homes j) (rd_T38 bs j))) (List.replicate n z43)
def sumN (bs : List S38) (i : Nat) : Int := (List.range i).foldl (fun s (j : Nat) => wrap64 (s + wrap64 (Int.tdiv (wrap64 ((rd_T38 bs j).f0 + (rd_T38 bs j).f1)) 2))) 0
def leastN (l : List S38) (i : Nat) : Int := (List.range i).foldl (fun s (j : Nat) => wrap64 (s + (rd_T38 l j).f0)) 0
def lowStep (c : Int) (p : List S43 × Int) (j : Nat) : List S43 × Int :=
 (p.1.set j ⟨(rd_T43 p.1 j).f0, wrap64 ((rd_T43 p.1 j).f1 - lowBy (wrap64 (p.2 - c)) (rd_T43 p.1 j).f1 (rd_T43 p.1 j).f2.f0), (rd_T43 p.1 j).f2, (rd_T43 p.1 j).f3⟩, wrap64 (p.2 - lowBy (wrap64 (p.2 - c)) (rd_T43 p.1 j).f1 (rd_T43 p.1 j).f2.f0))
def lowAll (c : Int) (js : List Nat) (p : List S43 × Int) : List S43 × Int := js.foldl (lowStep c) p
theorem lowAll_len (c : Int) (js : List Nat) : ∀ p : List S43 × Int, (lowAll c js p).1.length = p.1.length := by
 induction js with
 | nil => intro p; rfl
 | cons j js ih =>
  intro p
  show (lowAll c js (lowStep c p j)).1.length = _
  rw [ih]
  simp [lowStep]
theorem billsN_len (homes : List Int) (bs : List S38) (n i : Nat) : (billsN homes bs n i).length = n := by unfold billsN; rw [fold_len, List.length_replicate]
def shareC (c t : Int) (homes : List Int) (l : List S38) : List S43 × Int × Int :=
 if (boundsC c t l).2 = 0 then
  if homes.length ≠ l.length ∨ homesB 0 homes = false then ([], 0, 1)
  else if t < leastN l l.length then ([], 0, 30)
  else ((lowAll c (downTo l.length l.length) (billsN homes (boundsC c t l).1 l.length l.length, sumN (boundsC c t l).1 l.length)).1, wrap64 (c - (lowAll c (downTo l.length l.length) (billsN homes (boundsC c t l).1 l.length l.length, sumN (boundsC c t l).1 l.length)).2), 0)
 else ([], 0, 1)
def charges_Share.f (a0 a1 : Int) (l2 : List Int) (l3 : List S38) : Option (List S43 × Int × Int) := some (shareC a0 a1 l2 l3)
theorem boundsC_two (c t : Int) (l : List S38) : boundsC c t l = ([], 1) ∨ (boundsC c t l = (l.map (chgR c t), 0) ∧ l.length ≤ 200) := by
 unfold boundsC
 split
 ·exact .inl rfl
 ·rename_i h
  exact .inr ⟨rfl, by omega⟩
theorem postM_ret {F : Fence} {n : Nat} {P : Program} {fn : Func} {R : Ending → World → Prop} {T : Array Value} {v : Value} {w : World} (h : (results fn T).run P w = .ok v w) (hR : R (.returned v) w) : bodyPostM F n P fn R .ret { tmps := T, defers := [] } w := ⟨v, h, hR⟩
theorem postM_done {F : Fence} {n : Nat} {P : Program} {fn : Func} {R : Ending → World → Prop} {T : Array Value} {v : Value} {D : Nat} {w : World} (hD : w.heap[D]? = some (.deferred (some []))) (h : (results fn T).run P (w.putObj D (.deferred none)) = .ok v (w.putObj D (.deferred none))) (hR : R (.returned v) (w.putObj D (.deferred none))) :
  bodyPostM F n P fn R .ret { tmps := T, defers := [{ target := .collected D, args := #[] }] } w := ⟨by simp, .inl ⟨_, _, rfl, run_takeDeferred hD, v, h, hR⟩⟩
def calmQ (Q : Exit → Act → World → Prop) : Exit → Act → World → Prop
 | .panic _, _, _ => False
 | .outgrown, _, _ => False
 | e, a, w => Q e a w
theorem wp_calm {P : Program} {c : Code} {Q : Exit → Act → World → Prop} {a : Act} {w : World} (h : c.wp P (calmQ Q) a w) : c.wp P Q a w := wp_mono h (by
 intro e a w h
 cases e with
 | panic _ => exact h.elim
 | outgrown => exact h.elim
 | _ => exact h)
theorem blk_over {w w1 : World} {g g' : Nat} {t t' : TypeId} {cs cs' : Array Value} (h : w.heap[g]? = some (.cells cs t (0, 0))) (h' : w.heap[g']? = some (.cells cs' t' (0, 0))) (ht : t ≠ t') (hg : w.grownBy w1 (some g')) : w1.heap[g]? = some (.cells cs t (0, 0)) :=
 blk_grown h hg (by have := blk_ne h h' ht; simpa using this)
theorem R_overB {α : Type} {d : Kd α} {e base g t : Nat} {w w1 : World} {cs : Array Value} {v : Value} {xs : List α} (h : d.R e w base (fun _ => True) v xs) (hb : w.heap[g]? = some (.cells cs t (0, 0))) (ht : ∀ q, q ∈ e :: d.E → q ≠ t) (hg : w.grownBy w1 (some g)) : d.R e w1 base (fun _ => True) v xs :=
 Kd.R_mono (Kd.R_grown (Kd.R_types h hb ht) hg (fun k hk ek => hk.2 (by cases ek; rfl))) (fun _ _ => trivial)
theorem rd_setC (xs : List S43) (i : Int) (y : S43) (h : i.toNat < xs.length) : rd_T43 (xs.set i.toNat y) i = y := by
 simp [rd_T43, List.getD_eq_getElem?_getD, h]
theorem at_frame {F : Fence} {n : Nat} {P : Program} {c : Code} {Q : Exit → Act → World → Prop} {T : Array Value} {d : List Deferred} {w : World} (h : ∀ T0, T0 = T → c.wpIn F n P Q { tmps := T0, defers := d } w) : c.wpIn F n P Q { tmps := T, defers := d } w := h T rfl
set_option maxHeartbeats 8000000 in
set_option maxRecDepth 100000 in
theorem share_bad (a0 a1 : Int) (A2 : Option Addr) (c2 : Nat) (l2 : List Int) (A3 : Option Addr) (c3 : Nat) (l3 : List (S38)) (w : World) (hr2 : Kd.C (Kd.int .i64) w A2 l2.length l2) (hc2 : l2.length ≤ c2) (hr3 : Kd.C k38 w A3 l3.length l3) (hc3 : l3.length ≤ c3)
  (h : boundsC a0 a1 l3 = ([], 1) ∨ (∃ bs, boundsC a0 a1 l3 = (bs, 0) ∧ l3.length ≤ 200 ∧ (l2.length ≠ l3.length ∨ homesB 0 l2 = false))) :
  Calls Try.prog 25 #[.int .i64 a0, .int .i64 a1, .slice A2 l2.length c2, .slice A3 l3.length c3] w fun e w' => e = .returned (.tuple #[.slice none 0 0, .int .i64 0, .int .i64 1]) ∧ Below w.heap.size w w' := by
 have HR2 := Aside0.mk hr2
 have HC2 := Aside0.mk hc2
 have HR3 := Aside0.mk hr3
 have HC3 := Aside0.mk hc3
 clear hr2 hc2 hr3 hc3
 have HB := Aside0.mk (Below.refl w.heap.size w)
 rcases h with h | ⟨bs, h, h200, h'⟩
 ·have HE := Aside0.mk (show charges_Bounds.f a0 a1 l3 = some _ from congrArg some h)
  clear h
  go_enter Try.func25, Try.ntmps25
  go_wp2_with (first | ((with_reducible refine gate_dst (N := 4) rfl ?_); refine box_event ?hg (N := 4) ?hd (cs := #[.int .i64 a0]) (t := 3) ?hr ?_; (case hd => rfl); (case hg => rfl); (case hr => first | (go_simp; done) | (go_simp; rfl)); intro gc hg_C wc hbox_ hb_; have n0_ := Aside0.mk (below_step HB.out hb_); have BC := Aside0.mk hbox_; have GC := Aside0.mk (show w.heap.size ≤ gc by rw [hg_C]; exact below_size HB.out); have EC := Aside0.mk hg_C; have hcc0 : wc.cell? ⟨gc, 0, none⟩ = some (.int .i64 a0) := (blk_cell hbox_ 0).trans rfl; have hfc0 := blk_frozen hbox_ 0; clear HB hg_C hbox_ hb_; have HB := n0_; clear n0_) | (go_at_call 22; (with_reducible refine (charges_Bounds.calls a0 a1 A3 c3 l3 _ _ _ (Kd.C_below HR3.out HB.out) HC3.out HE.out).mono ?_); rintro e w2 ⟨v2, rfl, hR_, hb_⟩; have n0_ := Aside0.mk (below_step HB.out hb_); obtain ⟨Ab, cb, rfl⟩ := Kd.R_slice hR_; clear HB hb_ hR_; have HB := n0_; clear n0_))
  go_ret3
  exact ⟨rfl, HB.out⟩
 ·have HE := Aside0.mk (show charges_Bounds.f a0 a1 l3 = some _ from congrArg some h)
  by_cases hl : l2.length = l3.length
  ·have e1 : ((l2.length : Int) == (l3.length : Int)) = true := beq_iff_eq.2 (by omega)
   have e2 : ((l2.length : Int) != (l3.length : Int)) = false := by rw [bne_eq_false_iff_eq]; omega
   have hh : homesB 0 l2 = false := by
    rcases h' with h' | h'
    ·exact absurd hl h'
    ·exact h'
   have HH := Aside0.mk hh
   have HN2 := Aside0.mk (show l2.length ≤ 140737488355328 by omega)
   clear h h' hl hh h200
   go_enter Try.func25, Try.ntmps25
   go_wp2_with (first | ((with_reducible refine gate_dst (N := 4) rfl ?_); refine box_event ?hg (N := 4) ?hd (cs := #[.int .i64 a0]) (t := 3) ?hr ?_; (case hd => rfl); (case hg => rfl); (case hr => first | (go_simp; done) | (go_simp; rfl)); intro gc hg_C wc hbox_ hb_; have n0_ := Aside0.mk (below_step HB.out hb_); have BC := Aside0.mk hbox_; have GC := Aside0.mk (show w.heap.size ≤ gc by rw [hg_C]; exact below_size HB.out); have EC := Aside0.mk hg_C; have hcc0 : wc.cell? ⟨gc, 0, none⟩ = some (.int .i64 a0) := (blk_cell hbox_ 0).trans rfl; have hfc0 := blk_frozen hbox_ 0; clear HB hg_C hbox_ hb_; have HB := n0_; clear n0_) | (go_at_call 22; (with_reducible refine (charges_Bounds.calls a0 a1 A3 c3 l3 _ _ _ (Kd.C_below HR3.out HB.out) HC3.out HE.out).mono ?_); rintro e w2 ⟨v2, rfl, hR_, hb_⟩; have n0_ := Aside0.mk (below_step HB.out hb_); obtain ⟨Ab, cb, rfl⟩ := Kd.R_slice hR_; have HRB := Aside0.mk (Kd.R_lower hR_ (below_size HB.out)); have BC := Aside0.mk (blk_below BC.out hb_); replace hcc0 := (hb_.cell (World.block_lt_of_cell? _ _ hcc0)).trans hcc0; clear HB hb_ hR_; have HB := n0_; clear n0_) | (go_at_call 35; (with_reducible refine (homes_any A2 c2 l2 _ _ (Kd.C_below HR2.out HB.out) HC2.out HN2.out HH.out).mono ?_); rintro e w3 ⟨rfl, hdr⟩; have hb_ := hdr.below; have n0_ := Aside0.mk (below_step HB.out hb_); have HRB := Aside0.mk (Kd.R_below HRB.out hb_); have BC := Aside0.mk (blk_below BC.out hb_); replace hcc0 := (hb_.cell (World.block_lt_of_cell? _ _ hcc0)).trans hcc0; clear HB hb_ hdr; have HB := n0_; clear n0_))
   go_ret3
   exact ⟨rfl, HB.out⟩
  ·have e1 : ((l2.length : Int) == (l3.length : Int)) = false := beq_eq_false_iff_ne.2 (by omega)
   have e2 : ((l2.length : Int) != (l3.length : Int)) = true := by rw [bne_iff_ne]; omega
   clear h h' hl h200
   go_enter Try.func25, Try.ntmps25
   go_wp2_with (first | ((with_reducible refine gate_dst (N := 4) rfl ?_); refine box_event ?hg (N := 4) ?hd (cs := #[.int .i64 a0]) (t := 3) ?hr ?_; (case hd => rfl); (case hg => rfl); (case hr => first | (go_simp; done) | (go_simp; rfl)); intro gc hg_C wc hbox_ hb_; have n0_ := Aside0.mk (below_step HB.out hb_); have BC := Aside0.mk hbox_; have GC := Aside0.mk (show w.heap.size ≤ gc by rw [hg_C]; exact below_size HB.out); have EC := Aside0.mk hg_C; have hcc0 : wc.cell? ⟨gc, 0, none⟩ = some (.int .i64 a0) := (blk_cell hbox_ 0).trans rfl; have hfc0 := blk_frozen hbox_ 0; clear HB hg_C hbox_ hb_; have HB := n0_; clear n0_) | (go_at_call 22; (with_reducible refine (charges_Bounds.calls a0 a1 A3 c3 l3 _ _ _ (Kd.C_below HR3.out HB.out) HC3.out HE.out).mono ?_); rintro e w2 ⟨v2, rfl, hR_, hb_⟩; have n0_ := Aside0.mk (below_step HB.out hb_); obtain ⟨Ab, cb, rfl⟩ := Kd.R_slice hR_; have HRB := Aside0.mk (Kd.R_lower hR_ (below_size HB.out)); have BC := Aside0.mk (blk_below BC.out hb_); replace hcc0 := (hb_.cell (World.block_lt_of_cell? _ _ hcc0)).trans hcc0; clear HB hb_ hR_; have HB := n0_; clear n0_))
   go_ret3
   exact ⟨rfl, HB.out⟩
attribute [local go_sem] Oper.semAt_some
set_option maxHeartbeats 16000000 in
set_option maxRecDepth 100000 in
theorem share_good (a0 a1 : Int) (A2 : Option Addr) (c2 : Nat) (l2 : List Int) (A3 : Option Addr) (c3 : Nat) (l3 : List (S38)) (bs : List (S38)) (w : World) (hr2 : Kd.C (Kd.int .i64) w A2 l2.length l2) (hc2 : l2.length ≤ c2) (hr3 : Kd.C k38 w A3 l3.length l3) (hc3 : l3.length ≤ c3)
  (h200 : l3.length ≤ 200) (hb : boundsC a0 a1 l3 = (bs, 0)) (hbl : bs.length = l3.length) (hl : l2.length = l3.length) (hh : homesB 0 l2 = true) :
  Calls Try.prog 25 #[.int .i64 a0, .int .i64 a1, .slice A2 l2.length c2, .slice A3 l3.length c3] w fun e w' => Below w.heap.size w w' ∧
   ((a1 < leastN l3 l3.length ∧ e = .returned (.tuple #[.slice none 0 0, .int .i64 0, .int .i64 30])) ∨
    (¬ a1 < leastN l3 l3.length ∧ ∃ v, e = .returned (.tuple #[v, .int .i64 (wrap64 (a0 - (lowAll a0 (downTo l3.length l3.length) (billsN l2 bs l3.length l3.length, sumN bs l3.length)).2)), .int .i64 0]) ∧
     Kd.R k43 43 w' w.heap.size (fun _ => True) v (lowAll a0 (downTo l3.length l3.length) (billsN l2 bs l3.length l3.length, sumN bs l3.length)).1)) := by
 refine (callsIn_wide (n := 5)).1 ?_
 refine callsIn_of_wp_marks Try.func25 rfl trivial ?_ rfl
 simp only [Try.ntmps25, List.size_toArray, List.length_cons, List.length_nil, Nat.reduceAdd, Nat.reduceSub, Array.replicate_succ, Array.replicate_zero, List.push_toArray, List.append_toArray, List.nil_append, List.cons_append]
 refine wpIn_wide.2 (wp_calm ?_)
 have hu38 := Try.underlying38
 have hu43 := Try.underlying43
 have hu94 := Try.underlying94
 have HR2 := Aside0.mk hr2
 have HC2 := Aside0.mk hc2
 have HR3 := Aside0.mk hr3
 have HC3 := Aside0.mk hc3
 have HN2 := Aside0.mk (show l2.length ≤ 140737488355328 by omega)
 have H200 := Aside0.mk h200
 have HE := Aside0.mk (show charges_Bounds.f a0 a1 l3 = some _ from congrArg some hb)
 have HBL := Aside0.mk hbl
 have HL := Aside0.mk hl
 have HH := Aside0.mk hh
 have e1 : ((l2.length : Int) == (l3.length : Int)) = true := beq_iff_eq.2 (by omega)
 have e2 : ((l2.length : Int) != (l3.length : Int)) = false := by rw [bne_eq_false_iff_eq]; omega
 clear hr2 hc2 hr3 hc3 h200 hb hbl hl hh
 have HB := Aside0.mk (Below.refl w.heap.size w)
 go_wp2_with (first | ((with_reducible refine gate_dst (N := 4) rfl ?_); refine box_event ?hg (N := 4) ?hd (cs := #[.int .i64 a0]) (t := 3) ?hr ?_; (case hd => rfl); (case hg => rfl); (case hr => first | (go_simp; done) | (go_simp; rfl)); intro gc hg_C wc hbox_ hb_; have n0_ := Aside0.mk (below_step HB.out hb_); have BC := Aside0.mk hbox_; have GC := Aside0.mk (show w.heap.size ≤ gc by rw [hg_C]; exact below_size HB.out); have EC := Aside0.mk hg_C; have hcc0 : wc.cell? ⟨gc, 0, none⟩ = some (.int .i64 a0) := (blk_cell hbox_ 0).trans rfl; have hfc0 := blk_frozen hbox_ 0; clear HB hg_C hbox_ hb_; have HB := n0_; clear n0_) | (go_at_call 22; (with_reducible refine (charges_Bounds.calls a0 a1 A3 c3 l3 _ _ _ (Kd.C_below HR3.out HB.out) HC3.out HE.out).mono ?_); rintro e w2 ⟨v2, rfl, hR_, hb_⟩; have n0_ := Aside0.mk (below_step HB.out hb_); obtain ⟨Ab, cb, rfl⟩ := Kd.R_slice hR_; rw [HBL.out] at hR_; rw [HBL.out]; have HRB := Aside0.mk (Kd.R_lower hR_ (below_size HB.out)); have BC := Aside0.mk (blk_below BC.out hb_); replace hcc0 := (hb_.cell (World.block_lt_of_cell? _ _ hcc0)).trans hcc0; clear HB hb_ hR_; have HB := n0_; clear n0_) | (go_at_call 35; (with_reducible refine (homes_any A2 c2 l2 _ _ (Kd.C_below HR2.out HB.out) HC2.out HN2.out HH.out).mono ?_); rintro e w3 ⟨rfl, hdr⟩; have hb_ := hdr.below; have n0_ := Aside0.mk (below_step HB.out hb_); have HRB := Aside0.mk (Kd.R_below HRB.out hb_); have BC := Aside0.mk (blk_below BC.out hb_); replace hcc0 := (hb_.cell (World.block_lt_of_cell? _ _ hcc0)).trans hcc0; clear HB hb_ hdr; have HB := n0_; clear n0_) | ((with_reducible refine gate_dst (N := 44) rfl ?_); refine Kd.R_make k43 _ 94 rfl (N := 44) rfl 92 _ _ rfl (l3.length : Int) rfl rfl Try.underlying92 (.agg #[.int .i64 0, .int .i64 0, .int .i64 0, .int .i64 0, .bool false]) 40 infoB rfl (by decide) (by omega) z43 (ok := fun _ => True) (okp := fun _ => True) (k43_mkM _ _ _ z43) (fun _ hk => hk) trivial (by omega) (by have := H200.out; omega) (Below.refl _ _) (Nat.le_refl _) ?_; intro v4 w4 ho_ hb_ hg_ hnew_; rw [Int.toNat_natCast] at ho_; obtain ⟨Al, cl, rfl⟩ := Kd.R_slice ho_; rw [List.length_replicate] at ho_; rw [List.length_replicate]; have n0_ := Aside0.mk (below_step HB.out hb_); have HRL := Aside0.mk (Kd.R_lower ho_ (below_size HB.out)); have HRB := Aside0.mk (Kd.R_below HRB.out hb_); have BC := Aside0.mk (blk_below BC.out hb_); replace hcc0 := (hb_.cell (World.block_lt_of_cell? _ _ hcc0)).trans hcc0; clear HB hb_ ho_ hg_ hnew_; have HB := n0_; clear n0_) | ((with_reducible refine gate_dst (N := 13) rfl ?_); refine box_event ?hg (N := 13) ?hd (cs := #[.slice none 0 0]) (t := 92) ?hr ?_; (case hd => rfl); (case hg => rfl); (case hr => first | (go_simp; done) | (go_simp; rfl)); intro gb hg_B w5 hbox_ hb_; have n0_ := Aside0.mk (below_step HB.out hb_); have BB := Aside0.mk hbox_; have GB := Aside0.mk (show w.heap.size ≤ gb by rw [hg_B]; exact below_size HB.out); have EB := Aside0.mk hg_B; have hcB0 : w5.cell? ⟨gb, 0, none⟩ = some (.slice none 0 0) := (blk_cell hbox_ 0).trans rfl; have hfB0 := blk_frozen hbox_ 0; have HRL := Aside0.mk (Kd.R_below HRL.out hb_); have HRB := Aside0.mk (Kd.R_below HRB.out hb_); have BC := Aside0.mk (blk_below BC.out hb_); replace hcc0 := (hb_.cell (World.block_lt_of_cell? _ _ hcc0)).trans hcc0; clear HB hg_B hbox_ hb_; have HB := n0_; clear n0_) | ((with_reducible refine gate_dst (N := 14) rfl ?_); refine box_event ?hg (N := 14) ?hd (cs := #[.int .i64 0]) (t := 3) ?hr ?_; (case hd => rfl); (case hg => rfl); (case hr => first | (go_simp; done) | (go_simp; rfl)); intro gs hg_S w6 hbox_ hb_; have n0_ := Aside0.mk (below_step HB.out hb_); have BS := Aside0.mk hbox_; have GS := Aside0.mk (show w.heap.size ≤ gs by rw [hg_S]; exact below_size HB.out); have ES := Aside0.mk hg_S; have hcS0 : w6.cell? ⟨gs, 0, none⟩ = some (.int .i64 0) := (blk_cell hbox_ 0).trans rfl; have hfS0 := blk_frozen hbox_ 0; have hne1_ : (gb = gs) = False := eq_false (by have := blk_lt BB.out; omega); have hne2_ : (gs = gb) = False := eq_false (by have := blk_lt BB.out; omega); have NCS := Aside0.mk (show gc ≠ gs by have := blk_lt BC.out; omega); have HRL := Aside0.mk (Kd.R_below HRL.out hb_); have HRB := Aside0.mk (Kd.R_below HRB.out hb_); have BC := Aside0.mk (blk_below BC.out hb_); replace hcc0 := (hb_.cell (World.block_lt_of_cell? _ _ hcc0)).trans hcc0; have BB := Aside0.mk (blk_below BB.out hb_); replace hcB0 := (hb_.cell (World.block_lt_of_cell? _ _ hcB0)).trans hcB0; have hfB0 := blk_frozen BB.out 0; clear HB hg_S hbox_ hb_; have HB := n0_; clear n0_))
 obtain ⟨w7, hw7⟩ : ∃ w7, w7 = (w6.setCell ⟨gb, 0, none⟩ (.slice Al l3.length cl)).setCell ⟨gs, 0, none⟩ (.int .i64 0) := ⟨_, rfl⟩
 rw [← hw7]
 have nbs : gb ≠ gs := blk_ne BB.out BS.out (by decide)
 have ncb : gc ≠ gb := blk_ne BC.out BB.out (by decide)
 have BB7 := Aside0.mk (show w7.heap[gb]? = some (.cells #[.slice Al l3.length cl] 92 (0, 0)) by rw [hw7]; exact blk_far (blk_put BB.out 0 _ rfl) nbs _)
 have BS7 := Aside0.mk (show w7.heap[gs]? = some (.cells #[.int .i64 0] 3 (0, 0)) by rw [hw7]; exact blk_put (blk_far BS.out nbs.symm _) 0 _ rfl)
 have BC7 := Aside0.mk (show w7.heap[gc]? = some (.cells #[.int .i64 a0] 3 (0, 0)) by rw [hw7]; exact blk_far (blk_far BC.out ncb _) NCS.out _)
 have HRL7 := Aside0.mk (show Kd.R k43 94 w7 w.heap.size (fun _ => True) (.slice Al l3.length cl) (List.replicate l3.length z43) by rw [hw7]; exact Kd.R_set (Kd.R_set HRL.out BB.out (by decide) _ _) (blk_far BS.out nbs.symm _) (by decide) _ _)
 have HRB7 := Aside0.mk (show Kd.R k38 38 w7 w.heap.size (fun _ => True) (.slice Ab l3.length cb) bs by rw [hw7]; exact Kd.R_set (Kd.R_set HRB.out BB.out (by decide) _ _) (blk_far BS.out nbs.symm _) (by decide) _ _)
 have HB7 := Aside0.mk (show Below w.heap.size w w7 by rw [hw7]; exact below_set (below_set HB.out GB.out) GS.out)
 clear hne1_ hne2_ hw7 nbs ncb BB BS BC HRL HRB HB hcc0 hfc0 hcB0 hfB0 hcS0 hfS0
 go_loopg [15, 47] l3.length (fun kq v15 v47 wr => ∃ (n : Nat) (y : List S43) (s q : Int), v15 = .int .i64 q ∧ v47 = .int .i64 n ∧ Aside0 (kq + n = l3.length) ∧ Aside0 (y = billsN l2 bs l3.length n) ∧ Aside0 (s = sumN bs n) ∧ Aside0 (q = leastN l3 n) ∧ Aside0 (Kd.R k43 94 wr w.heap.size (fun _ => True) (.slice Al l3.length cl) y)
  ∧ Aside0 (wr.heap[gb]? = some (.cells #[.slice Al l3.length cl] 92 (0, 0))) ∧ Aside0 (wr.heap[gs]? = some (.cells #[.int .i64 s] 3 (0, 0))) ∧ Aside0 (wr.heap[gc]? = some (.cells #[.int .i64 a0] 3 (0, 0))) ∧ Aside0 (Kd.R k38 38 wr w.heap.size (fun _ => True) (.slice Ab l3.length cb) bs) ∧ Aside0 (Below w.heap.size w wr))
 case atStart => exact ⟨0, _, _, _, rfl, rfl, ⟨by omega⟩, ⟨rfl⟩, ⟨rfl⟩, ⟨rfl⟩, HRL7, BB7, BS7, BC7, HRB7, HB7⟩
 case round =>
  clear HRL7 BB7 BS7 BC7 HRB7 HB7
  obtain ⟨n, y, s, q, rfl, rfl, HM, HY, HS, HQ, HRL, BB, BS, BC, HRB, HB⟩ := hrel
  have HYL := Aside0.mk (show y.length = l3.length by rw [HY.out, billsN_len])
  by_cases hlt : n < l3.length
  ·obtain ⟨i, hi⟩ : ∃ i : Int, i = (n : Int) := ⟨_, rfl⟩
   rw [← hi]
   have HI2 := Aside0.mk (show 0 ≤ i ∧ i < l3.length ∧ i = (n : Int) from ⟨by omega, by omega, hi⟩)
   have d7 : decide (i < (l3.length : Int)) = true := decide_eq_true HI2.out.2.1
   have ci2 : (0 ≤ i) = True := eq_true HI2.out.1
   have ci3 : (i < l3.length) = True := eq_true HI2.out.2.1
   have ci4 : (i < l2.length) = True := eq_true (by have := HI2.out; have := HL.out; omega)
   obtain ⟨adb, eb, hx0, hx1⟩ := at_T38 (Kd.R_reads' HRB.out).2.2 i HI2.out.1 (by have := HI2.out; have := HBL.out; omega)
   subst eb
   obtain ⟨adh, eh, hxh⟩ := Kd.at_int (Kd.C_below HR2.out HB.out) i HI2.out.1 (by have := HI2.out; have := HL.out; omega)
   subst eh
   obtain ⟨adl, el, hl0, hl1⟩ := at_T38 (Kd.C_below HR3.out HB.out) i HI2.out.1 HI2.out.2.1
   subst el
   obtain ⟨go, cgo, eo, gob, gol, ogl, hogl⟩ := Kd.R_form HRL.out (by have := HI2.out; have := HYL.out; omega)
   injection eo with ea en ec
   subst ea
   subst ec
   have HGC := Aside0.mk hogl
   have HGB := Aside0.mk gob
   clear hi hlt en gob gol hogl hl1
   have hz1 : i + 1 ≤ 9223372036854775807 := by have := HI2.out; have := H200.out; omega
   have hz2 : -9223372036854775808 ≤ i + 1 := by have := HI2.out; omega
   obtain ⟨x0, hx0'⟩ : ∃ x0, x0 = (rd_T38 bs i).f0 := ⟨_, rfl⟩
   obtain ⟨x1, hx1'⟩ : ∃ x1, x1 = (rd_T38 bs i).f1 := ⟨_, rfl⟩
   obtain ⟨xh, hxh'⟩ : ∃ xh, xh = rd l2 i := ⟨_, rfl⟩
   obtain ⟨xl, hxl'⟩ : ∃ xl, xl = (rd_T38 l3 i).f0 := ⟨_, rfl⟩
   rw [← hx0'] at hx0
   rw [← hx1'] at hx1
   rw [← hxh'] at hxh
   rw [← hxl'] at hl0
   have HX := Aside0.mk (show (x0 = (rd_T38 bs i).f0 ∧ x1 = (rd_T38 bs i).f1) ∧ xh = rd l2 i ∧ xl = (rd_T38 l3 i).f0 from ⟨⟨hx0', hx1'⟩, hxh', hxl'⟩)
   clear hx0' hx1' hxh' hxl'
   have HXH := Aside0.mk hxh
   have HL0 := Aside0.mk hl0
   have HB0 := Aside0.mk (Below.refl wr.heap.size wr)
   clear hxh hl0
   go_upto_region 10 with (first | ((with_reducible refine gate_dst (N := 17) rfl ?_); refine box_event ?hg (N := 17) ?hd (cs := #[.int .i64 0, .int .i64 0]) (t := 38) ?hr ?_; (case hd => rfl); (case hg => rfl); (case hr => first | (go_simp; done) | (go_simp; rfl)); intro gx hg_X w9 hbox_ hb_; have n0_ := Aside0.mk (below_step HB0.out hb_); have BX := Aside0.mk hbox_; have GX := Aside0.mk (show wr.heap.size ≤ gx by rw [hg_X]; exact below_size HB0.out); have EX := Aside0.mk hg_X; have hcx0 : w9.cell? ⟨gx, 0, none⟩ = some (.int .i64 0) := (blk_cell hbox_ 0).trans rfl; have hfx0 := blk_frozen hbox_ 0; have hcx1 : w9.cell? ⟨gx, 1, none⟩ = some (.int .i64 0) := (blk_cell hbox_ 1).trans rfl; have hfx1 := blk_frozen hbox_ 1; clear HB0 hg_X hbox_ hb_; have HB0 := n0_; clear n0_))
   obtain ⟨w10, hw10⟩ : ∃ w10, w10 = (w9.setCell ⟨gx, 0, none⟩ (.int .i64 x0)).setCell ⟨gx, 1, none⟩ (.int .i64 x1) := ⟨_, rfl⟩
   rw [← hw10]
   have BX10 := Aside0.mk (show w10.heap[gx]? = some (.cells #[.int .i64 x0, .int .i64 x1] 38 (0, 0)) by rw [hw10]; exact blk_put2 BX.out _ _)
   have HB10 := Aside0.mk (show Below wr.heap.size wr w10 by rw [hw10]; exact below_put2 HB0.out GX.out _ _)
   clear hw10 BX HB0 hcx0 hcx1 hfx0 hfx1 hx0 hx1
   have hcx0 : w10.cell? ⟨gx, 0, none⟩ = some (.int .i64 x0) := (blk_cell BX10.out 0).trans rfl
   have hcx1 : w10.cell? ⟨gx, 1, none⟩ = some (.int .i64 x1) := (blk_cell BX10.out 1).trans rfl
   have hcb0 : w10.cell? ⟨gb, 0, none⟩ = some (.slice (some ⟨go, 0, none⟩) l3.length cl) := (blk_cell (blk_below BB.out HB10.out) 0).trans rfl
   have hch0 : w10.cell? (adh.add i.toNat) = some (.int .i64 xh) := (HB10.out.cell (World.block_lt_of_cell? _ _ HXH.out)).trans HXH.out
   have HE := Aside0.mk (bill_elem (Kd.R_below HRL.out HB10.out) i HI2.out.1 HI2.out.2.1)
   have hz0_ := HE.out.1.1
   have hz1_ := HE.out.1.2.1
   have hz2_ := HE.out.1.2.2.1
   have hz3_ := HE.out.1.2.2.2.1
   have hz4_ := HE.out.1.2.2.2.2
   have hy0_ : w10.frozen? ⟨go, i.toNat * 5, none⟩ = false := HE.out.2.1 0
   have hy1_ := HE.out.2.1 1
   have hy2_ := HE.out.2.1 2
   have hy3_ := HE.out.2.1 3
   have hy4_ := HE.out.2.1 4
   refine start_ (n := 22) (S := fun w' => w'.cell? ⟨gb, 0, none⟩ = some (.slice (some ⟨go, 0, none⟩) l3.length cl) ∧ w'.cell? (adh.add i.toNat) = some (.int .i64 xh) ∧ w'.cell? ⟨gx, 0, none⟩ = some (.int .i64 x0) ∧ w'.cell? ⟨gx, 1, none⟩ = some (.int .i64 x1)) (ds := [21]) #[n_, n_, n_, n_, n_, n_, n_, n_, n_, n_, n_, n_, n_, n_, n_, n_, n_, n_, n_, n_, n_, n_] (by kernel_rfl) rfl rfl ⟨hcb0, hch0, hcx0, hcx1⟩ (fun hHeld => ?_)
   refine pure_ (i := 1) (N := some 53) (v := ?_) (a' := ?_) #[n_, y_, n_, n_, n_, n_, n_, n_, n_, n_, n_, n_, n_, n_, n_, n_, n_, n_, n_, n_, n_, n_] rfl rfl (by kernel_rfl) (fun _ _ _ h => h) (Or.inl ⟨by rfl, ?_⟩) ?_ ?_
   rotate_left
   ·intro w'
    go_simp
    with_reducible rfl
   rotate_left
   ·simp only [Act.put, sI_, s0_, sS_, i64_w, i32_w]
    rfl
   refine pure_ (i := 2) (N := some 54) (v := ?_) (a' := ?_) #[n_, y_, y_, n_, n_, n_, n_, n_, n_, n_, n_, n_, n_, n_, n_, n_, n_, n_, n_, n_, n_, n_] rfl rfl (by kernel_rfl) (fun _ _ _ h => h) (Or.inl ⟨by rfl, ?_⟩) ?_ ?_
   rotate_left
   ·intro w'
    go_simp
    with_reducible rfl
   rotate_left
   ·simp only [Act.put, sI_, s0_, sS_, i64_w, i32_w]
    rfl
   refine pure_ (i := 3) (N := some 55) (v := ?_) (a' := ?_) #[n_, y_, y_, y_, n_, n_, n_, n_, n_, n_, n_, n_, n_, n_, n_, n_, n_, n_, n_, n_, n_, n_] rfl rfl (by kernel_rfl) (fun _ _ _ h => h) (Or.inl ⟨by rfl, ?_⟩) ?_ ?_
   rotate_left
   ·intro w'
    go_simp
    with_reducible rfl
   rotate_left
   ·simp only [Act.put, sI_, s0_, sS_, i64_w, i32_w]
    rfl
   refine pure_ (i := 4) (N := some 56) (v := ?_) (a' := ?_) #[n_, y_, y_, y_, y_, n_, n_, n_, n_, n_, n_, n_, n_, n_, n_, n_, n_, n_, n_, n_, n_, n_] rfl rfl (by kernel_rfl) (fun _ _ _ h => h) (Or.inl ⟨by rfl, ?_⟩) ?_ ?_
   rotate_left
   ·intro w'
    go_simp
    with_reducible rfl
   rotate_left
   ·simp only [Act.put, sI_, s0_, sS_, i64_w, i32_w]
    rfl
   refine pure_ (i := 6) (N := some 58) (v := ?_) (a' := ?_) #[n_, y_, y_, y_, y_, n_, y_, n_, n_, n_, n_, n_, n_, n_, n_, n_, n_, n_, n_, n_, n_, n_] rfl rfl (by kernel_rfl) (fun _ _ _ h => h) (Or.inl ⟨by rfl, ?_⟩) ?_ ?_
   rotate_left
   ·intro w'
    go_simp
    with_reducible rfl
   rotate_left
   ·simp only [Act.put, sI_, s0_, sS_, i64_w, i32_w]
    rfl
   refine pure_ (i := 8) (N := some 60) (v := ?_) (a' := ?_) #[n_, y_, y_, y_, y_, n_, y_, n_, y_, n_, n_, n_, n_, n_, n_, n_, n_, n_, n_, n_, n_, n_] rfl rfl (by kernel_rfl) (fun _ _ _ h => h) (Or.inl ⟨by rfl, ?_⟩) ?_ ?_
   rotate_left
   ·intro w'
    go_simp
    with_reducible rfl
   rotate_left
   ·simp only [Act.put, sI_, s0_, sS_, i64_w, i32_w]
    rfl
   refine pure_ (i := 13) (N := some 65) (v := ?_) (a' := ?_) #[n_, y_, y_, y_, y_, n_, y_, n_, y_, n_, n_, n_, n_, y_, n_, n_, n_, n_, n_, n_, n_, n_] rfl rfl (by kernel_rfl) (fun _ _ _ h => h) (Or.inl ⟨by rfl, ?_⟩) ?_ ?_
   rotate_left
   ·intro w'
    go_simp
    with_reducible rfl
   rotate_left
   ·simp only [Act.put, sI_, s0_, sS_, i64_w, i32_w]
    rfl
   refine pure_ (i := 15) (N := some 67) (v := ?_) (a' := ?_) #[n_, y_, y_, y_, y_, n_, y_, n_, y_, n_, n_, n_, n_, y_, n_, y_, n_, n_, n_, n_, n_, n_] rfl rfl (by kernel_rfl) (fun _ _ _ h => h) (Or.inl ⟨by rfl, ?_⟩) ?_ ?_
   rotate_left
   ·intro w'
    go_simp
    with_reducible rfl
   rotate_left
   ·simp only [Act.put, sI_, s0_, sS_, i64_w, i32_w]
    rfl
   refine take_ (i := 0) (N := some 52) (v := ?_) (a' := ?_) #[y_, y_, y_, y_, y_, n_, y_, n_, y_, n_, n_, n_, n_, y_, n_, y_, n_, n_, n_, n_, n_, n_] rfl rfl (by kernel_rfl) (fun _ _ _ h => h) (Or.inl ⟨by rfl, ?_⟩) hHeld ?_ ?_
   rotate_left
   ·rintro w' ⟨s0, s1, s2, s3⟩
    go_simp
    with_reducible rfl
   rotate_left
   ·simp only [Act.put, sI_, s0_, sS_, i64_w, i32_w]
    rfl
   refine take_ (i := 5) (N := some 57) (v := ?_) (a' := ?_) #[y_, y_, y_, y_, y_, y_, y_, n_, y_, n_, n_, n_, n_, y_, n_, y_, n_, n_, n_, n_, n_, n_] rfl rfl (by kernel_rfl) (fun _ _ _ h => h) (Or.inl ⟨by rfl, ?_⟩) hHeld ?_ ?_
   rotate_left
   ·rintro w' ⟨s0, s1, s2, s3⟩
    go_simp
    with_reducible rfl
   rotate_left
   ·simp only [Act.put, sI_, s0_, sS_, i64_w, i32_w]
    rfl
   refine take_ (i := 7) (N := some 59) (v := ?_) (a' := ?_) #[y_, y_, y_, y_, y_, y_, y_, y_, y_, n_, n_, n_, n_, y_, n_, y_, n_, n_, n_, n_, n_, n_] rfl rfl (by kernel_rfl) (fun _ _ _ h => h) (Or.inl ⟨by rfl, ?_⟩) hHeld ?_ ?_
   rotate_left
   ·rintro w' ⟨s0, s1, s2, s3⟩
    go_simp
    with_reducible rfl
   rotate_left
   ·simp only [Act.put, sI_, s0_, sS_, i64_w, i32_w]
    rfl
   refine take_ (i := 9) (N := some 61) (v := ?_) (a' := ?_) #[y_, y_, y_, y_, y_, y_, y_, y_, y_, y_, n_, n_, n_, y_, n_, y_, n_, n_, n_, n_, n_, n_] rfl rfl (by kernel_rfl) (fun _ _ _ h => h) (Or.inl ⟨by rfl, ?_⟩) hHeld ?_ ?_
   rotate_left
   ·rintro w' ⟨s0, s1, s2, s3⟩
    go_simp
    with_reducible rfl
   rotate_left
   ·simp only [Act.put, sI_, s0_, sS_, i64_w, i32_w]
    rfl
   refine pure_ (i := 10) (N := some 62) (v := ?_) (a' := ?_) #[y_, y_, y_, y_, y_, y_, y_, y_, y_, y_, y_, n_, n_, y_, n_, y_, n_, n_, n_, n_, n_, n_] rfl rfl (by kernel_rfl) (fun _ _ _ h => h) (Or.inl ⟨by rfl, ?_⟩) ?_ ?_
   rotate_left
   ·intro w'
    go_simp
    with_reducible rfl
   rotate_left
   ·simp only [Act.put, sI_, s0_, sS_, i64_w, i32_w]
    rfl
   refine pure_ (i := 11) (N := some 63) (v := ?_) (a' := ?_) #[y_, y_, y_, y_, y_, y_, y_, y_, y_, y_, y_, y_, n_, y_, n_, y_, n_, n_, n_, n_, n_, n_] rfl rfl (by kernel_rfl) (fun _ _ _ h => h) (Or.inl ⟨by rfl, ?_⟩) ?_ ?_
   rotate_left
   ·intro w'
    go_simp
    with_reducible rfl
   rotate_left
   ·simp only [Act.put, sI_, s0_, sS_, i64_w, i32_w]
    rfl
   refine take_ (i := 12) (N := some 64) (v := ?_) (a' := ?_) #[y_, y_, y_, y_, y_, y_, y_, y_, y_, y_, y_, y_, y_, y_, n_, y_, n_, n_, n_, n_, n_, n_] rfl rfl (by kernel_rfl) (fun _ _ _ h => h) (Or.inl ⟨by rfl, ?_⟩) hHeld ?_ ?_
   rotate_left
   ·rintro w' ⟨s0, s1, s2, s3⟩
    go_simp
    with_reducible rfl
   rotate_left
   ·simp only [Act.put, sI_, s0_, sS_, i64_w, i32_w]
    rfl
   refine take_ (i := 14) (N := some 66) (v := ?_) (a' := ?_) #[y_, y_, y_, y_, y_, y_, y_, y_, y_, y_, y_, y_, y_, y_, y_, y_, n_, n_, n_, n_, n_, n_] rfl rfl (by kernel_rfl) (fun _ _ _ h => h) (Or.inl ⟨by rfl, ?_⟩) hHeld ?_ ?_
   rotate_left
   ·rintro w' ⟨s0, s1, s2, s3⟩
    go_simp
    with_reducible rfl
   rotate_left
   ·simp only [Act.put, sI_, s0_, sS_, i64_w, i32_w]
    rfl
   refine take_ (i := 16) (N := some 68) (v := ?_) (a' := ?_) #[y_, y_, y_, y_, y_, y_, y_, y_, y_, y_, y_, y_, y_, y_, y_, y_, y_, n_, n_, n_, n_, n_] rfl rfl (by kernel_rfl) (fun _ _ _ h => h) (Or.inl ⟨by rfl, ?_⟩) hHeld ?_ ?_
   rotate_left
   ·rintro w' ⟨s0, s1, s2, s3⟩
    go_simp
    with_reducible rfl
   rotate_left
   ·simp only [Act.put, sI_, s0_, sS_, i64_w, i32_w]
    rfl
   refine pure_ (i := 17) (N := some 69) (v := ?_) (a' := ?_) #[y_, y_, y_, y_, y_, y_, y_, y_, y_, y_, y_, y_, y_, y_, y_, y_, y_, y_, n_, n_, n_, n_] rfl rfl (by kernel_rfl) (fun _ _ _ h => h) (Or.inl ⟨by rfl, ?_⟩) ?_ ?_
   rotate_left
   ·intro w'
    go_simp
    with_reducible rfl
   rotate_left
   ·simp only [Act.put, sI_, s0_, sS_, i64_w, i32_w]
    rfl
   refine pure_ (i := 18) (N := some 70) (v := ?_) (a' := ?_) #[y_, y_, y_, y_, y_, y_, y_, y_, y_, y_, y_, y_, y_, y_, y_, y_, y_, y_, y_, n_, n_, n_] rfl rfl (by kernel_rfl) (fun _ _ _ h => h) (Or.inl ⟨by rfl, ?_⟩) ?_ ?_
   rotate_left
   ·intro w'
    go_simp
    with_reducible rfl
   rotate_left
   ·simp only [Act.put, sI_, s0_, sS_, i64_w, i32_w]
    rfl
   refine pure_ (i := 19) (N := some 71) (v := ?_) (a' := ?_) #[y_, y_, y_, y_, y_, y_, y_, y_, y_, y_, y_, y_, y_, y_, y_, y_, y_, y_, y_, y_, n_, n_] rfl rfl (by kernel_rfl) (fun _ _ _ h => h) (Or.inl ⟨by rfl, ?_⟩) ?_ ?_
   rotate_left
   ·intro w'
    go_simp
    with_reducible rfl
   rotate_left
   ·simp only [Act.put, sI_, s0_, sS_, i64_w, i32_w]
    rfl
   refine pure_ (i := 20) (N := some 72) (v := ?_) (a' := ?_) #[y_, y_, y_, y_, y_, y_, y_, y_, y_, y_, y_, y_, y_, y_, y_, y_, y_, y_, y_, y_, y_, n_] rfl rfl (by kernel_rfl) (fun _ _ _ h => h) (Or.inl ⟨by rfl, ?_⟩) ?_ ?_
   rotate_left
   ·intro w'
    go_simp
    with_reducible rfl
   rotate_left
   ·simp only [Act.put, sI_, s0_, sS_, i64_w, i32_w]
    rfl
   refine last_ (i := 21) (N := none) #[y_, y_, y_, y_, y_, y_, y_, y_, y_, y_, y_, y_, y_, y_, y_, y_, y_, y_, y_, y_, y_, y_] rfl rfl (by kernel_rfl) (by decide) (fun K hK => ?_)
   refine skip_ (w1 := ?_) (by rfl) rfl ?_ ?_
   rotate_left
   ·go_simp
    rfl
   refine hK.out _ _ ?_
   clear hK K
   refine done_ (by kernel_rfl) ?_
   go_wp2_with (fail)
   obtain ⟨xc, hxc⟩ : ∃ xc, xc = wrap64 (Int.tdiv (wrap64 (x0 + x1)) 2) := ⟨_, rfl⟩
   rw [← hxc]
   obtain ⟨w11, hw11⟩ : ∃ w11, w11 = (((((w10.setCell ⟨go, i.toNat * 5, none⟩ (.int .i64 xh)).setCell ⟨go, i.toNat * 5 + 1, none⟩ (.int .i64 xc)).setCell ⟨go, i.toNat * 5 + 2, none⟩ (.int .i64 x0)).setCell ⟨go, i.toNat * 5 + 3, none⟩ (.int .i64 x1)).setCell ⟨go, i.toNat * 5 + 4, none⟩ (.bool (x0 == x1))).drew := ⟨_, rfl⟩
   rw [← hw11]
   have hP : Kd.R k43 94 w11 w.heap.size (fun _ => True) (.slice (some ⟨go, 0, none⟩) l3.length cl) (y.set i.toNat (billOf xh ⟨x0, x1⟩)) ∧ w10.grownBy w11 (some go) := by
    have h1 := HE.out.2.2.1 (billOf xh ⟨x0, x1⟩)
    rw [hw11, hxc]
    exact ⟨Kd.R_drew h1.1, grown_drew h1.2⟩
   have HXC := Aside0.mk hxc
   have HP := Aside0.mk hP
   have hog10 := blk_below HGC.out HB10.out
   have BS11 := Aside0.mk (blk_over (blk_below BS.out HB10.out) hog10 (by decide) hP.2)
   have BB11 := Aside0.mk (blk_over (blk_below BB.out HB10.out) hog10 (by decide) hP.2)
   have BC11 := Aside0.mk (blk_over (blk_below BC.out HB10.out) hog10 (by decide) hP.2)
   have HRB11 := Aside0.mk (R_overB (Kd.R_below HRB.out HB10.out) hog10 (by decide) hP.2)
   have HB11 := Aside0.mk (grown_below (below_step HB.out HB10.out) hP.2 (fun k e => by cases e; exact HGB.out))
   have HYL1 := Aside0.mk (show i.toNat < y.length by have := HI2.out; have := HYL.out; omega)
   have hce : w11.cell? ⟨go, i.toNat * 5 + 1, none⟩ = some (.int .i64 xc) := by
    have h1 := (bill_elem hP.1 i HI2.out.1 HI2.out.2.1).1.2.1
    rw [rd_setC y i _ HYL1.out] at h1
    rw [h1, HXC.out]
    rfl
   have hcs0 : w11.cell? ⟨gs, 0, none⟩ = some (.int .i64 s) := (blk_cell BS11.out 0).trans rfl
   have hcb1 : w11.cell? ⟨gb, 0, none⟩ = some (.slice (some ⟨go, 0, none⟩) l3.length cl) := (blk_cell BB11.out 0).trans rfl
   have hfs0 := blk_frozen BS11.out 0
   clear hw11 hxc hP hog10 hcx0 hcx1 hcb0 hch0 hz0_ hz1_ hz2_ hz3_ hz4_ hy0_ hy1_ hy2_ hy3_ hy4_ HE
   refine start_ (n := 9) (S := fun w' => w'.cell? ⟨gs, 0, none⟩ = some (.int .i64 s) ∧ w'.cell? ⟨gb, 0, none⟩ = some (.slice (some ⟨go, 0, none⟩) l3.length cl) ∧ w'.cell? ⟨go, i.toNat * 5 + 1, none⟩ = some (.int .i64 xc)) (ds := [8]) #[n_, n_, n_, n_, n_, n_, n_, n_, n_] (by kernel_rfl) rfl rfl ⟨hcs0, hcb1, hce⟩ (fun hHeld => ?_)
   refine pure_ (i := 2) (N := some 75) (v := ?_) (a' := ?_) #[n_, n_, y_, n_, n_, n_, n_, n_, n_] rfl rfl (by kernel_rfl) (fun _ _ _ h => h) (Or.inl ⟨by rfl, ?_⟩) ?_ ?_
   rotate_left
   ·intro w'
    go_simp
    with_reducible rfl
   rotate_left
   ·simp only [Act.put, sI_, s0_, sS_, i64_w, i32_w]
    rfl
   refine take_ (i := 0) (N := some 73) (v := ?_) (a' := ?_) #[y_, n_, y_, n_, n_, n_, n_, n_, n_] rfl rfl (by kernel_rfl) (fun _ _ _ h => h) (Or.inl ⟨by rfl, ?_⟩) hHeld ?_ ?_
   rotate_left
   ·rintro w' ⟨s0, s1, s2⟩
    go_simp
    with_reducible rfl
   rotate_left
   ·simp only [Act.put, sI_, s0_, sS_, i64_w, i32_w]
    rfl
   refine take_ (i := 1) (N := some 74) (v := ?_) (a' := ?_) #[y_, y_, y_, n_, n_, n_, n_, n_, n_] rfl rfl (by kernel_rfl) (fun _ _ _ h => h) (Or.inl ⟨by rfl, ?_⟩) hHeld ?_ ?_
   rotate_left
   ·rintro w' ⟨s0, s1, s2⟩
    go_simp
    with_reducible rfl
   rotate_left
   ·simp only [Act.put, sI_, s0_, sS_, i64_w, i32_w]
    rfl
   refine pure_ (i := 3) (N := some 76) (v := ?_) (a' := ?_) #[y_, y_, y_, y_, n_, n_, n_, n_, n_] rfl rfl (by kernel_rfl) (fun _ _ _ h => h) (Or.inl ⟨by rfl, ?_⟩) ?_ ?_
   rotate_left
   ·intro w'
    go_simp
    with_reducible rfl
   rotate_left
   ·simp only [Act.put, sI_, s0_, sS_, i64_w, i32_w]
    rfl
   refine pure_ (i := 4) (N := some 77) (v := ?_) (a' := ?_) #[y_, y_, y_, y_, y_, n_, n_, n_, n_] rfl rfl (by kernel_rfl) (fun _ _ _ h => h) (Or.inl ⟨by rfl, ?_⟩) ?_ ?_
   rotate_left
   ·intro w'
    go_simp
    with_reducible rfl
   rotate_left
   ·simp only [Act.put, sI_, s0_, sS_, i64_w, i32_w]
    rfl
   refine pure_ (i := 5) (N := some 78) (v := ?_) (a' := ?_) #[y_, y_, y_, y_, y_, y_, n_, n_, n_] rfl rfl (by kernel_rfl) (fun _ _ _ h => h) (Or.inl ⟨by rfl, ?_⟩) ?_ ?_
   rotate_left
   ·intro w'
    go_simp
    with_reducible rfl
   rotate_left
   ·simp only [Act.put, sI_, s0_, sS_, i64_w, i32_w]
    rfl
   refine take_ (i := 6) (N := some 79) (v := ?_) (a' := ?_) #[y_, y_, y_, y_, y_, y_, y_, n_, n_] rfl rfl (by kernel_rfl) (fun _ _ _ h => h) (Or.inl ⟨by rfl, ?_⟩) hHeld ?_ ?_
   rotate_left
   ·rintro w' ⟨s0, s1, s2⟩
    go_simp
    with_reducible rfl
   rotate_left
   ·simp only [Act.put, sI_, s0_, sS_, i64_w, i32_w]
    rfl
   refine pure_ (i := 7) (N := some 80) (v := ?_) (a' := ?_) #[y_, y_, y_, y_, y_, y_, y_, y_, n_] rfl rfl (by kernel_rfl) (fun _ _ _ h => h) (Or.inl ⟨by rfl, ?_⟩) ?_ ?_
   rotate_left
   ·intro w'
    go_simp
    with_reducible rfl
   rotate_left
   ·simp only [Act.put, sI_, s0_, sS_, i64_w, i32_w]
    rfl
   refine last_ (i := 8) (N := none) #[y_, y_, y_, y_, y_, y_, y_, y_, y_] rfl rfl (by kernel_rfl) (by decide) (fun K hK => ?_)
   refine skip_ (w1 := ?_) (by rfl) rfl ?_ ?_
   rotate_left
   ·go_simp
    rfl
   refine hK.out _ _ ?_
   clear hK K
   refine done_ (by kernel_rfl) ?_
   obtain ⟨w12, hw12⟩ : ∃ w12, w12 = (w11.setCell ⟨gs, 0, none⟩ (.int .i64 (wrap64 (s + xc)))).drew := ⟨_, rfl⟩
   rw [← hw12]
   have BS12 := Aside0.mk (show w12.heap[gs]? = some (.cells #[.int .i64 (wrap64 (s + xc))] 3 (0, 0)) by rw [hw12]; exact blk_drew (blk_put BS11.out 0 _ rfl))
   have BB12 := Aside0.mk (show w12.heap[gb]? = some (.cells #[.slice (some ⟨go, 0, none⟩) l3.length cl] 92 (0, 0)) by rw [hw12]; exact blk_drew (blk_far BB11.out (blk_ne BB11.out BS11.out (by decide)) _))
   have BC12 := Aside0.mk (show w12.heap[gc]? = some (.cells #[.int .i64 a0] 3 (0, 0)) by rw [hw12]; exact blk_drew (blk_far BC11.out NCS.out _))
   have HRL12 := Aside0.mk (show Kd.R k43 94 w12 w.heap.size (fun _ => True) (.slice (some ⟨go, 0, none⟩) l3.length cl) (y.set i.toNat (billOf xh ⟨x0, x1⟩)) by rw [hw12]; exact Kd.R_drew (Kd.R_set HP.out.1 BS11.out (by decide) _ _))
   have HRB12 := Aside0.mk (show Kd.R k38 38 w12 w.heap.size (fun _ => True) (.slice (some adb) l3.length cb) bs by rw [hw12]; exact Kd.R_drew (Kd.R_set HRB11.out BS11.out (by decide) _ _))
   have HB12 := Aside0.mk (show Below w.heap.size w w12 by rw [hw12]; exact below_drew (below_set HB11.out GS.out))
   clear hw12 hce hcs0 hcb1 hfs0
   obtain ⟨adl', el', hl0, _⟩ := at_T38 (Kd.C_below HR3.out HB12.out) i HI2.out.1 HI2.out.2.1
   cases el'
   rw [← HX.out.2.2] at hl0
   go_wp2
   go_roundg (gk - 1)
   case measure => have := HM.out; have := HI2.out; omega
   case rel =>
    have ei : i.toNat = n := by have := HI2.out; omega
    have ec : ((n : Nat) : Int) = i := by have := HI2.out; omega
    refine ⟨n + 1, _, _, _, rfl, ?_, ⟨by have := HM.out; have := HI2.out; omega⟩, ⟨?_⟩, ⟨?_⟩, ⟨?_⟩, HRL12, BB12, BS12, BC12, HRB12, HB12⟩
    ·have := HI2.out
     first | (rw [show ((n + 1 : Nat) : Int) = i + 1 from by omega]; done) | (simp; omega)
    ·unfold billsN
     rw [foldl_range_succ]
     show _ = (billsN l2 bs l3.length n).set n _
     rw [← HY.out, ei, ec, HX.out.2.1]
     congr 1
     simp only [billOf, HX.out.1.1, HX.out.1.2]
    ·unfold sumN
     rw [foldl_range_succ]
     show _ = wrap64 (sumN bs n + _)
     rw [← HS.out, ec, HXC.out, HX.out.1.1, HX.out.1.2]
    ·unfold leastN
     rw [foldl_range_succ]
     show _ = wrap64 (leastN l3 n + _)
     rw [← HQ.out, ec, HX.out.2.2]
  ·have d7 : decide ((n : Int) < (l3.length : Int)) = false := decide_eq_false (by omega)
   have d7' : decide (n < l3.length) = false := decide_eq_false hlt
   have hnl : n = l3.length := by have := HM.out; omega
   have HY2 := Aside0.mk (show y = billsN l2 bs l3.length l3.length by rw [HY.out, hnl])
   have HS2 := Aside0.mk (show s = sumN bs l3.length by rw [HS.out, hnl])
   have HQ2 := Aside0.mk (show q = leastN l3 l3.length by rw [HQ.out, hnl])
   clear hlt hnl HY HS HQ
   by_cases hq : a1 < q
   ·have dq : decide (a1 < q) = true := decide_eq_true hq
    have HLT := Aside0.mk (show a1 < leastN l3 l3.length by rw [← HQ2.out]; exact hq)
    clear hq
    go_wp2
    show bodyPostM _ _ _ _ _ .ret _ _
    exact postM_ret (results_list (rs := [.tmp 8, .tmp 9, .tmp 10]) rfl (by simp) (.tmp (.tmp (.tmp .nil)))) ⟨HB.out, .inl ⟨HLT.out, rfl⟩⟩
   have dq : decide (a1 < q) = false := decide_eq_false hq
   have HLT := Aside0.mk (show ¬ a1 < leastN l3 l3.length by rw [← HQ2.out]; exact hq)
   clear hq
   have hcb0 : wr.cell? ⟨gb, 0, none⟩ = some (.slice Al l3.length cl) := (blk_cell BB.out 0).trans rfl
   go_wp2_with (go_at_call 48; refine (backB_calls _ _ _ _).mono ?_; rintro e w' ⟨rfl, rfl⟩)
   obtain ⟨gr, hgr⟩ : ∃ gr, gr = wr.heap.size := ⟨_, rfl⟩
   rw [← hgr]
   obtain ⟨W3, hW3⟩ : ∃ W3, W3 = wr.alloc (Obj.cells #[Value.slice Al l3.length cl] 92) := ⟨_, rfl⟩
   rw [← hW3]
   have hb3 : Below wr.heap.size wr W3 := by rw [hW3]; exact below_alloc (Below.refl _ _) _
   have hs3 : W3.heap.size = gr + 1 := by rw [hW3, hgr]; simp
   have bk3 : W3.heap[gr]? = some (.cells #[.slice Al l3.length cl] 92 (0, 0)) := by rw [hW3, hgr]; exact blk_new _ _
   have hk1 : w.heap.size ≤ W3.heap.size := by have := below_size HB.out; omega
   have hk2 : gr < W3.heap.size := by omega
   clear hs3 hgr hW3
   refine (wpIn_wide (n := 4)).1 ?_
   refine at_frame (fun T0 hT0 => ?_)
   refine wpIn_rangeFunc_ownG rfl (by omega) (gf := 69) (lb := #[.pointer (some ⟨gr, 0, none⟩)]) (by subst hT0; rfl) trivial (enters_fn Try.func69 (by kernel_rfl) rfl)
    (backB_stops 3 (by omega) gr w.heap.size Al cl l3.length (by have := H200.out; omega) W3 bk3 ⟨y, HYL.out, Kd.R_below HRL.out hb3⟩) keepB_t (keepB_b hk1 hk2) (Below.refl _ _) (fun _ => rfl)
    (fun pre W => (W.heap[gb]? = some (.cells #[.slice Al l3.length cl] 92 (0, 0)) ∧ W.heap[gs]? = some (.cells #[.int .i64 (lowAll a0 (pre.map (·.1.1)) (y, s)).2] 3 (0, 0)) ∧ W.heap[gc]? = some (.cells #[.int .i64 a0] 3 (0, 0)) ∧ W.heap[gr]? = some (.cells #[.slice Al l3.length cl] 92 (0, 0)))
     ∧ Kd.R k43 94 W w.heap.size (fun _ => True) (.slice Al l3.length cl) (lowAll a0 (pre.map (·.1.1)) (y, s)).1 ∧ Below w.heap.size w W)
    (fun _ _ _ => False)
    (fun st A B row hs hg hr => by
     have hr' : ∀ r, row = some r → ∃ o : Obj, A.heap[r]? = some o ∧ o.isCells = false := fun r e => (hr r e).2
     exact ⟨⟨blk_objs hs.1.1 hg hr', blk_objs hs.1.2.1 hg hr', blk_objs hs.1.2.2.1 hg hr', blk_objs hs.1.2.2.2 hg hr'⟩, R_objs hs.2.1 hg hr', grown_below hs.2.2 hg (fun r e => by have := (hr r e).1; omega)⟩)
    (fun _ _ _ _ _ hs _ _ => hs)
    ⟨⟨blk_below BB.out hb3, blk_below BS.out hb3, blk_below BC.out hb3, bk3⟩, Kd.R_below HRL.out hb3, below_step HB.out hb3⟩
    (fun x => { tmps := ((T0.setIfInBounds 94 (.int .i64 (x.1.1 : Int))).setIfInBounds 95 (.agg #[.int .i64 x.2.f0, .int .i64 x.2.f1, .int .i64 x.2.f2.f0, .int .i64 x.2.f2.f1, .bool x.2.f3])).setIfInBounds 18 (.int .i64 (x.1.1 : Int)), defers := [] }) ?assign ?body ?done ?stop
   case assign =>
    intro lr x W K hK
    subst hT0
    simp only [sI_, s0_, sS_] at hK
    simp only [encB]
    gi_wp2
    exact hK
   case stop =>
    rintro D c pre W _ _ h _
    exact h.elim
   case body =>
    rintro lr pre x W ⟨⟨hb1, hs1, hc1, hr1⟩, hRR, hBW⟩ hlen
    subst hT0
    simp only [sI_, s0_, sS_]
    obtain ⟨p, hp⟩ : ∃ p, p = lowAll a0 (pre.map (·.1.1)) (y, s) := ⟨_, rfl⟩
    rw [← hp] at hs1 hRR
    have HPL := Aside0.mk (show p.1.length = l3.length by rw [hp, lowAll_len]; exact HYL.out)
    have HPP := Aside0.mk hp
    obtain ⟨i, hi⟩ : ∃ i : Int, i = (x.1.1 : Int) := ⟨_, rfl⟩
    rw [← hi]
    have HI2 := Aside0.mk (show 0 ≤ i ∧ i < l3.length ∧ i = (x.1.1 : Int) from ⟨by omega, by have := x.1.2; omega, hi⟩)
    obtain ⟨go, cgo, eo, gob, gol, ogl, hogl⟩ := Kd.R_form hRR (by have := HI2.out; have := HPL.out; omega)
    injection eo with ea en ec
    subst ea
    subst ec
    have HGC := Aside0.mk hogl
    have HGB := Aside0.mk gob
    have ci2 : (0 ≤ i) = True := eq_true HI2.out.1
    have ci3 : (i < l3.length) = True := eq_true HI2.out.2.1
    have hcs0 : W.cell? ⟨gs, 0, none⟩ = some (.int .i64 p.2) := (blk_cell hs1 0).trans rfl
    have hcb0 : W.cell? ⟨gb, 0, none⟩ = some (.slice (some ⟨go, 0, none⟩) l3.length cl) := (blk_cell hb1 0).trans rfl
    have hcc0 : W.cell? ⟨gc, 0, none⟩ = some (.int .i64 a0) := (blk_cell hc1 0).trans rfl
    have HB1 := Aside0.mk hb1
    have HS1 := Aside0.mk hs1
    have HC1 := Aside0.mk hc1
    have HK1 := Aside0.mk hr1
    have HRR := Aside0.mk hRR
    have HBW := Aside0.mk hBW
    have HE := Aside0.mk (bill_elem hRR i HI2.out.1 HI2.out.2.1)
    obtain ⟨bc, hbc⟩ : ∃ bc, bc = (rd_T43 p.1 i).f1 := ⟨_, rfl⟩
    obtain ⟨bl, hbl⟩ : ∃ bl, bl = (rd_T43 p.1 i).f2.f0 := ⟨_, rfl⟩
    have HBC := Aside0.mk hbc
    have HBLO := Aside0.mk hbl
    have HD1 := Aside0.mk (show W.drew.cell? ⟨go, i.toNat * 5 + 1, none⟩ = some (.int .i64 bc) by rw [hbc]; exact HE.out.1.2.1)
    have HD2 := Aside0.mk (show W.drew.cell? ⟨go, i.toNat * 5 + 2, none⟩ = some (.int .i64 bl) by rw [hbl]; exact HE.out.1.2.2.1)
    have HD3 := Aside0.mk (show W.drew.frozen? ⟨go, i.toNat * 5 + 1, none⟩ = false from HE.out.2.1 1)
    clear hb1 hs1 hc1 hr1 hRR hBW hp hi en gob gol hogl hbc hbl
    gi_wp2_with (fail)
    refine start_R (m := 10) (S := fun w' => w'.cell? ⟨gs, 0, none⟩ = some (.int .i64 p.2) ∧ w'.cell? ⟨gb, 0, none⟩ = some (.slice (some ⟨go, 0, none⟩) l3.length cl) ∧ w'.cell? ⟨gc, 0, none⟩ = some (.int .i64 a0)) (ds := [9]) (by kernel_rfl) (by rintro ⟨_, _, h⟩; exact h) #[n_, n_, n_, n_, n_, n_, n_, n_, n_, n_] (by kernel_rfl) rfl rfl ⟨hcs0, hcb0, hcc0⟩ (fun hHeld => ?_)
    refine pure_ (i := 2) (N := some 98) (v := ?_) (a' := ?_) #[n_, n_, y_, n_, n_, n_, n_, n_, n_, n_] rfl rfl (by kernel_rfl) (fun _ _ _ h => h) (Or.inl ⟨by rfl, ?_⟩) ?_ ?_
    rotate_left
    ·intro w'
     go_simp
     with_reducible rfl
    rotate_left
    ·simp only [Act.put, sI_, s0_, sS_, i64_w, i32_w]
     rfl
    refine take_ (i := 0) (N := some 96) (v := ?_) (a' := ?_) #[y_, n_, y_, n_, n_, n_, n_, n_, n_, n_] rfl rfl (by kernel_rfl) (fun _ _ _ h => h) (Or.inl ⟨by rfl, ?_⟩) hHeld ?_ ?_
    rotate_left
    ·rintro w' ⟨s0, s1, s2⟩
     go_simp
     with_reducible rfl
    rotate_left
    ·simp only [Act.put, sI_, s0_, sS_, i64_w, i32_w]
     rfl
    refine take_ (i := 1) (N := some 97) (v := ?_) (a' := ?_) #[y_, y_, y_, n_, n_, n_, n_, n_, n_, n_] rfl rfl (by kernel_rfl) (fun _ _ _ h => h) (Or.inl ⟨by rfl, ?_⟩) hHeld ?_ ?_
    rotate_left
    ·rintro w' ⟨s0, s1, s2⟩
     go_simp
     with_reducible rfl
    rotate_left
    ·simp only [Act.put, sI_, s0_, sS_, i64_w, i32_w]
     rfl
    refine pure_ (i := 3) (N := some 99) (v := ?_) (a' := ?_) #[y_, y_, y_, y_, n_, n_, n_, n_, n_, n_] rfl rfl (by kernel_rfl) (fun _ _ _ h => h) (Or.inl ⟨by rfl, ?_⟩) ?_ ?_
    rotate_left
    ·intro w'
     go_simp
     with_reducible rfl
    rotate_left
    ·simp only [Act.put, sI_, s0_, sS_, i64_w, i32_w]
     rfl
    refine take_ (i := 4) (N := some 100) (v := ?_) (a' := ?_) #[y_, y_, y_, y_, y_, n_, n_, n_, n_, n_] rfl rfl (by kernel_rfl) (fun _ _ _ h => h) (Or.inl ⟨by rfl, ?_⟩) hHeld ?_ ?_
    rotate_left
    ·rintro w' ⟨s0, s1, s2⟩
     go_simp
     with_reducible rfl
    rotate_left
    ·simp only [Act.put, sI_, s0_, sS_, i64_w, i32_w]
     rfl
    refine take_ (i := 5) (N := some 101) (v := ?_) (a' := ?_) #[y_, y_, y_, y_, y_, y_, n_, n_, n_, n_] rfl rfl (by kernel_rfl) (fun _ _ _ h => h) (Or.inl ⟨by rfl, ?_⟩) hHeld ?_ ?_
    rotate_left
    ·rintro w' ⟨s0, s1, s2⟩
     go_simp
     with_reducible rfl
    rotate_left
    ·simp only [Act.put, sI_, s0_, sS_, i64_w, i32_w]
     rfl
    refine pure_ (i := 6) (N := some 102) (v := ?_) (a' := ?_) #[y_, y_, y_, y_, y_, y_, y_, n_, n_, n_] rfl rfl (by kernel_rfl) (fun _ _ _ h => h) (Or.inl ⟨by rfl, ?_⟩) ?_ ?_
    rotate_left
    ·intro w'
     go_simp
     with_reducible rfl
    rotate_left
    ·simp only [Act.put, sI_, s0_, sS_, i64_w, i32_w]
     rfl
    refine one_ (i := 7) (N := some 103) #[y_, y_, y_, y_, y_, y_, y_, y_, n_, n_] rfl rfl (by kernel_rfl) (by decide) (fun K hK => ?_)
    refine goes_ Try.func49 (by kernel_rfl) rfl #[.pointer (some ⟨go, i.toNat * 5, none⟩), .int .i64 (wrap64 (p.2 - a0))] (by rfl) rfl rfl (by simp only [List.map_toArray, List.map_cons, List.map_nil]; rfl) ?_
    with_reducible refine (lower_at go (i.toNat * 5) bc bl (wrap64 (p.2 - a0)) _ HD1.out HD2.out HD3.out).mono ?_
    rintro e w3 ⟨rfl, nd, hw3⟩
    refine ⟨_, rfl, ?_⟩
    have hogw : (W.drew.drewN nd).heap[go]? = _ := HGC.out
    have hP3 := (bill_elem (Kd.R_drewN (Kd.R_drew HRR.out) nd) i HI2.out.1 HI2.out.2.1).2.2.2 (wrap64 (bc - lowBy (wrap64 (p.2 - a0)) bc bl))
    rw [← hw3] at hP3
    have HP3 := Aside0.mk hP3
    have HG3 := Aside0.mk hP3.2
    have HB3 := Aside0.mk (blk_over (show (W.drew.drewN nd).heap[gb]? = _ from HB1.out) hogw (by decide) hP3.2)
    have HS3 := Aside0.mk (blk_over (show (W.drew.drewN nd).heap[gs]? = _ from HS1.out) hogw (by decide) hP3.2)
    have HC3 := Aside0.mk (blk_over (show (W.drew.drewN nd).heap[gc]? = _ from HC1.out) hogw (by decide) hP3.2)
    have HK3 := Aside0.mk (blk_over (show (W.drew.drewN nd).heap[gr]? = _ from HK1.out) hogw (by decide) hP3.2)
    have hq0_ := (blk_cell HS3.out 0).trans rfl
    have hq1_ := blk_frozen HS3.out 0
    clear hw3 hogw hP3
    refine hK.out _ _ ⟨(blk_cell HS3.out 0).trans rfl, (blk_cell HB3.out 0).trans rfl, (blk_cell HC3.out 0).trans rfl⟩ (fun hHeld => ?_)
    clear hK K
    refine norm_ (a' := ?_) ?_ ?_
    rotate_left
    ·show Act.put _ (some 103) _ = _
     simp only [Act.put, sI_, s0_, sS_, i64_w, i32_w]
     rfl
    refine pure_ (i := 8) (N := some 104) (v := ?_) (a' := ?_) #[y_, y_, y_, y_, y_, y_, y_, y_, y_, n_] rfl rfl (by kernel_rfl) (fun _ _ _ h => h) (Or.inl ⟨by rfl, ?_⟩) ?_ ?_
    rotate_left
    ·intro w'
     go_simp
     with_reducible rfl
    rotate_left
    ·simp only [Act.put, sI_, s0_, sS_, i64_w, i32_w]
     rfl
    refine last_ (i := 9) (N := none) #[y_, y_, y_, y_, y_, y_, y_, y_, y_, y_] rfl rfl (by kernel_rfl) (by decide) (fun K hK => ?_)
    refine skip_ (w1 := ?_) (by rfl) rfl ?_ ?_
    rotate_left
    ·go_simp
     rfl
    refine hK.out _ _ ?_
    clear hK K
    refine done_ (by kernel_rfl) ?_
    obtain ⟨w4, hw4⟩ : ∃ w4, w4 = w3.setCell ⟨gs, 0, none⟩ (.int .i64 (wrap64 (p.2 - lowBy (wrap64 (p.2 - a0)) bc bl))) := ⟨_, rfl⟩
    have HB4 := blk_far HB3.out (blk_ne HB3.out HS3.out (by decide)) (p := ⟨gs, 0, none⟩) (.int .i64 (wrap64 (p.2 - lowBy (wrap64 (p.2 - a0)) bc bl)))
    have HK4 := blk_far HK3.out (blk_ne HK3.out HS3.out (by decide)) (p := ⟨gs, 0, none⟩) (.int .i64 (wrap64 (p.2 - lowBy (wrap64 (p.2 - a0)) bc bl)))
    have HC4 := blk_far HC3.out NCS.out (p := ⟨gs, 0, none⟩) (.int .i64 (wrap64 (p.2 - lowBy (wrap64 (p.2 - a0)) bc bl)))
    have HS4 := blk_put HS3.out 0 (.int .i64 (wrap64 (p.2 - lowBy (wrap64 (p.2 - a0)) bc bl))) rfl
    have HR4 := Kd.R_set HP3.out.1 HS3.out (by decide) 0 (.int .i64 (wrap64 (p.2 - lowBy (wrap64 (p.2 - a0)) bc bl)))
    rw [← hw4] at HB4 HK4 HC4 HS4 HR4 ⊢
    have hbel : Below w.heap.size W w4 := by
     rw [hw4]
     exact ((pw_below_drewN (below_drew1 (Below.refl w.heap.size W)) nd).grown HG3.out (show w.heap.size ≤ (W.drew.drewN nd).heap.size by have h_ := below_size HBW.out; exact h_) (fun k e => by cases e; exact HGB.out)).setCell (p := ⟨gs, 0, none⟩) GS.out _
    have hko : KeepsOthers W w4 := by
     rw [hw4]
     refine (KeepsOthers.of_grownBy (grown_of_below (pw_below_drewN (below_drew1 (Below.refl W.heap.size W)) nd) none) (by simp)).trans ((KeepsOthers.of_grownBy HG3.out (fun j o ej ho => ?_)).trans (KeepsOthers.setCell _ _ _))
     cases ej
     rw [show (W.drew.drewN nd).heap[go]? = _ from HGC.out] at ho
     cases ho
     rfl
    have hst : lowAll a0 ((pre ++ [x]).map (·.1.1)) (y, s) = (p.1.set i.toNat ⟨(rd_T43 p.1 i).f0, wrap64 (bc - lowBy (wrap64 (p.2 - a0)) bc bl), (rd_T43 p.1 i).f2, (rd_T43 p.1 i).f3⟩, wrap64 (p.2 - lowBy (wrap64 (p.2 - a0)) bc bl)) := by
     have e1 : lowAll a0 ((pre ++ [x]).map (·.1.1)) (y, s) = lowStep a0 p x.1.1 := by
      rw [HPP.out, List.map_append]
      unfold lowAll
      rw [List.foldl_append]
      rfl
     rw [e1]
     unfold lowStep
     rw [← HI2.out.2.2, ← HBC.out, ← HBLO.out, show x.1.1 = i.toNat by have := HI2.out.2.2; omega]
    refine ⟨hko.from _, ⟨hbel, HK4.trans HK1.out.symm, fun _ => ⟨_, by rw [List.length_set, HPL.out], HR4⟩⟩, ⟨HB4, ?_, HC4, HK4⟩, ?_, HBW.out.trans hbel⟩
    ·rw [hst]; exact HS4
    ·rw [hst]; exact HR4
   case done =>
    rintro D ys W hD hys ⟨⟨hb1, hs1, hc1, hr1⟩, hRR, hBW⟩ hDD
    subst hT0
    obtain ⟨p, hp⟩ : ∃ p, p = lowAll a0 (ys.map (·.1.1)) (y, s) := ⟨_, rfl⟩
    rw [← hp] at hs1 hRR
    have HPL := Aside0.mk (show p.1.length = l3.length by rw [hp, lowAll_len]; exact HYL.out)
    have HPP := Aside0.mk (show p = lowAll a0 (downTo l3.length l3.length) (billsN l2 bs l3.length l3.length, sumN bs l3.length) by rw [hp, hys, HY2.out, HS2.out])
    have hcb1 : W.cell? ⟨gb, 0, none⟩ = some (.slice Al l3.length cl) := (blk_cell hb1 0).trans rfl
    have BB := Aside0.mk hb1
    have BS := Aside0.mk hs1
    have BC := Aside0.mk hc1
    have HRL := Aside0.mk hRR
    have HB := Aside0.mk hBW
    have HDD := Aside0.mk hDD
    have HDL := Aside0.mk (show w.heap.size ≤ D from Nat.le_trans hk1 hD)
    clear hb1 hs1 hc1 hr1 hRR hBW hp hDD hD hys
    go_wp2_with (first | ((with_reducible refine gate_dst (N := 107) rfl ?_); refine Kd.R_make k43 _ 43 rfl (N := 107) rfl 30 _ _ rfl (l3.length : Int) rfl rfl Try.underlying30 (.agg #[.int .i64 0, .int .i64 0, .int .i64 0, .int .i64 0, .bool false]) 40 info43 rfl (by decide) (by omega) z43 (ok := fun _ => True) (okp := fun _ => True) (k43_mkM _ _ _ z43) (fun _ hk => hk) trivial (by omega) (by have := H200.out; omega) (Below.refl _ _) (Nat.le_refl _) ?_; intro v5 w5 ho_ hb_ hg_ hnew_; rw [Int.toNat_natCast] at ho_; obtain ⟨Ao, co, rfl⟩ := Kd.R_slice ho_; rw [List.length_replicate] at ho_; rw [List.length_replicate]; have n0_ := Aside0.mk (below_step HB.out hb_); have HRO := Aside0.mk (Kd.R_lower ho_ (below_size HB.out)); have HRL := Aside0.mk (Kd.R_below HRL.out hb_); have BC := Aside0.mk (blk_below BC.out hb_); have BS := Aside0.mk (blk_below BS.out hb_); have BB := Aside0.mk (blk_below BB.out hb_); have HDD := Aside0.mk (blk_below HDD.out hb_); replace hcb1 := (hb_.cell (World.block_lt_of_cell? _ _ hcb1)).trans hcb1; clear HB hb_ ho_ hg_ hnew_; have HB := n0_; clear n0_))
    go_loopg [110] l3.length (fun kq v110 wr => ∃ (n : Nat) (z : List S43), v110 = .int .i64 n ∧ Aside0 (kq + n = l3.length) ∧ Aside0 (z = (List.range n).foldl (fun y (j : Nat) => y.set j (p.1.getD j z43)) (List.replicate l3.length z43)) ∧ Aside0 (Kd.R k43 43 wr w.heap.size (fun _ => True) (.slice Ao l3.length co) z) ∧ Aside0 (Kd.R k43 94 wr w.heap.size (fun _ => True) (.slice Al l3.length cl) p.1)
     ∧ Aside0 (wr.heap[gs]? = some (.cells #[.int .i64 p.2] 3 (0, 0))) ∧ Aside0 (wr.heap[gc]? = some (.cells #[.int .i64 a0] 3 (0, 0))) ∧ Aside0 (wr.heap[D]? = some (.deferred (some []))) ∧ Aside0 (Below w.heap.size w wr))
    case atStart => exact ⟨0, _, rfl, ⟨by omega⟩, ⟨rfl⟩, HRO, HRL, BS, BC, HDD, HB⟩
    case round =>
     clear HRO HRL BS BC HDD HB BB hcb1
     obtain ⟨n, z, rfl, HM, HZ, HRO, HRL, BS, BC, HDD, HB⟩ := hrel
     have HZL := Aside0.mk (show z.length = l3.length by rw [HZ.out, fold_len, List.length_replicate])
     by_cases hlt : n < l3.length
     ·obtain ⟨i, hi⟩ : ∃ i : Int, i = (n : Int) := ⟨_, rfl⟩
      rw [← hi]
      have HI2 := Aside0.mk (show 0 ≤ i ∧ i < l3.length ∧ i = (n : Int) from ⟨by omega, by omega, hi⟩)
      have d7 : decide (i < (l3.length : Int)) = true := decide_eq_true HI2.out.2.1
      have ci2 : (0 ≤ i) = True := eq_true HI2.out.1
      have ci3 : (i < l3.length) = True := eq_true HI2.out.2.1
      obtain ⟨adb, eb, hx0, hx1, hx2, hx3, hx4⟩ := at_T43 (Kd.R_reads' HRL.out).2.2 i HI2.out.1 (by have := HI2.out; have := HPL.out; omega)
      subst eb
      obtain ⟨go, cgo, eo, gob, gol, ogl, hogl⟩ := Kd.R_form HRO.out (by have := HI2.out; have := HZL.out; omega)
      injection eo with ea en ec
      subst ea
      subst ec
      have HGC := Aside0.mk hogl
      have HGB := Aside0.mk gob
      clear hi hlt en gob gol hogl
      have hz1 : i + 1 ≤ 9223372036854775807 := by have := HI2.out; have := H200.out; omega
      have hz2 : -9223372036854775808 ≤ i + 1 := by have := HI2.out; omega
      obtain ⟨b, hb⟩ : ∃ b, b = rd_T43 p.1 i := ⟨_, rfl⟩
      rw [← hb] at hx0 hx1 hx2 hx3 hx4
      have HBI := Aside0.mk hb
      clear hb
      have HB0 := Aside0.mk (Below.refl wr.heap.size wr)
      go_upto_region 23 with (first | ((with_reducible refine gate_dst (N := 21) rfl ?_); refine box_event ?hg (N := 21) ?hd (cs := #[.int .i64 0, .int .i64 0, .int .i64 0, .int .i64 0, .bool false]) (t := 94) ?hr ?_; (case hd => rfl); (case hg => rfl); (case hr => first | (go_simp; done) | (go_simp; rfl)); intro gx hg_X w9 hbox_ hb_; have n0_ := Aside0.mk (below_step HB0.out hb_); have BX := Aside0.mk hbox_; have GX := Aside0.mk (show wr.heap.size ≤ gx by rw [hg_X]; exact below_size HB0.out); have EX := Aside0.mk hg_X; have hcx0 : w9.cell? ⟨gx, 0, none⟩ = some (.int .i64 0) := (blk_cell hbox_ 0).trans rfl; have hfx0 := blk_frozen hbox_ 0; have hcx1 : w9.cell? ⟨gx, 1, none⟩ = some (.int .i64 0) := (blk_cell hbox_ 1).trans rfl; have hfx1 := blk_frozen hbox_ 1; have hcx2 : w9.cell? ⟨gx, 2, none⟩ = some (.int .i64 0) := (blk_cell hbox_ 2).trans rfl; have hfx2 := blk_frozen hbox_ 2; have hcx3 : w9.cell? ⟨gx, 3, none⟩ = some (.int .i64 0) := (blk_cell hbox_ 3).trans rfl; have hfx3 := blk_frozen hbox_ 3; have hcx4 : w9.cell? ⟨gx, 4, none⟩ = some (.bool false) := (blk_cell hbox_ 4).trans rfl; have hfx4 := blk_frozen hbox_ 4; clear HB0 hg_X hbox_ hb_; have HB0 := n0_; clear n0_))
      obtain ⟨w10, hw10⟩ : ∃ w10, w10 = ((((w9.setCell ⟨gx, 0, none⟩ (.int .i64 b.f0)).setCell ⟨gx, 1, none⟩ (.int .i64 b.f1)).setCell ⟨gx, 2, none⟩ (.int .i64 b.f2.f0)).setCell ⟨gx, 3, none⟩ (.int .i64 b.f2.f1)).setCell ⟨gx, 4, none⟩ (.bool b.f3) := ⟨_, rfl⟩
      rw [← hw10]
      have BX10 := Aside0.mk (show w10.heap[gx]? = some (.cells #[.int .i64 b.f0, .int .i64 b.f1, .int .i64 b.f2.f0, .int .i64 b.f2.f1, .bool b.f3] 94 (0, 0)) by rw [hw10]; exact blk_put (blk_put (blk_put (blk_put (blk_put BX.out 0 _ rfl) 1 _ rfl) 2 _ rfl) 3 _ rfl) 4 _ rfl)
      have HB10 := Aside0.mk (show Below wr.heap.size wr w10 by rw [hw10]; exact below_set (below_set (below_set (below_set (below_set HB0.out GX.out) GX.out) GX.out) GX.out) GX.out)
      clear hw10 BX HB0 hcx0 hcx1 hcx2 hcx3 hcx4 hfx0 hfx1 hfx2 hfx3 hfx4 hx0 hx1 hx2 hx3 hx4
      have hcx0 : w10.cell? ⟨gx, 0, none⟩ = some (.int .i64 b.f0) := (blk_cell BX10.out 0).trans rfl
      have hcx1 : w10.cell? ⟨gx, 1, none⟩ = some (.int .i64 b.f1) := (blk_cell BX10.out 1).trans rfl
      have hcx2 : w10.cell? ⟨gx, 2, none⟩ = some (.int .i64 b.f2.f0) := (blk_cell BX10.out 2).trans rfl
      have hcx3 : w10.cell? ⟨gx, 3, none⟩ = some (.int .i64 b.f2.f1) := (blk_cell BX10.out 3).trans rfl
      have hcx4 : w10.cell? ⟨gx, 4, none⟩ = some (.bool b.f3) := (blk_cell BX10.out 4).trans rfl
      have HE := Aside0.mk (bill_elem (Kd.R_below HRO.out HB10.out) i HI2.out.1 HI2.out.2.1)
      have hz0_ := HE.out.1.1
      have hz1_ := HE.out.1.2.1
      have hz2_ := HE.out.1.2.2.1
      have hz3_ := HE.out.1.2.2.2.1
      have hz4_ := HE.out.1.2.2.2.2
      have hy0_ : w10.frozen? ⟨go, i.toNat * 5, none⟩ = false := HE.out.2.1 0
      have hy1_ := HE.out.2.1 1
      have hy2_ := HE.out.2.1 2
      have hy3_ := HE.out.2.1 3
      have hy4_ := HE.out.2.1 4
      go_wp2
      have hP := HE.out.2.2.1 b
      have hog10 := blk_below HGC.out HB10.out
      have e1 : b = p.1.getD n z43 := by rw [HBI.out]; show p.1.getD i.toNat z43 = _; rw [show i.toNat = n by have := HI2.out; omega]
      have e2 : i.toNat = n := by have := HI2.out; omega
      go_roundg (gk - 1)
      case measure => have := HM.out; have := HI2.out; omega
      case rel =>
       refine ⟨n + 1, _, ?_, ⟨by have := HM.out; have := HI2.out; omega⟩, ⟨?_⟩, ⟨hP.1⟩, ⟨R_overB (Kd.R_below HRL.out HB10.out) hog10 (by decide) hP.2⟩, ⟨blk_over (blk_below BS.out HB10.out) hog10 (by decide) hP.2⟩, ⟨blk_over (blk_below BC.out HB10.out) hog10 (by decide) hP.2⟩, ⟨?_⟩, ⟨grown_below (below_step HB.out HB10.out) hP.2 (fun k e => by cases e; exact HGB.out)⟩⟩
       ·have := HI2.out
        first | (rw [show ((n + 1 : Nat) : Int) = i + 1 from by omega]; done) | (simp; omega)
       ·rw [foldl_range_succ, ← HZ.out, e2, e1]
       ·refine (hP.2.block _ (blk_lt (blk_below HDD.out HB10.out)) (fun e => ?_)).trans (blk_below HDD.out HB10.out)
        injection e with e
        have h1 := blk_below HDD.out HB10.out
        rw [e, hog10] at h1
        cases h1
     ·have d7 : decide ((n : Int) < (l3.length : Int)) = false := decide_eq_false (by omega)
      have d7' : decide (n < l3.length) = false := decide_eq_false hlt
      have hnl : n = l3.length := by have := HM.out; omega
      have HZ2 := Aside0.mk (show z = p.1 by
       rw [HZ.out, hnl, fold_set _ _ _ (by simp), List.drop_of_length_le (by simp), List.append_nil, ← HPL.out]
       have := fold_map z43 id p.1
       rw [List.map_id] at this
       exact this)
      have hcs0 : wr.cell? ⟨gs, 0, none⟩ = some (.int .i64 p.2) := (blk_cell BS.out 0).trans rfl
      have hcc0 : wr.cell? ⟨gc, 0, none⟩ = some (.int .i64 a0) := (blk_cell BC.out 0).trans rfl
      clear hlt hnl
      go_wp2
      go_quiet (fail)
      go_wp2
      show bodyPostM _ _ _ _ _ .ret _ _
      refine postM_done (D := D) (show _ from HDD.out) (results_list (rs := [.tmp 8, .tmp 9, .tmp 10]) rfl (by simp) (.tmp (.tmp (.tmp .nil)))) ⟨?_, .inr ⟨HLT.out, .slice Ao l3.length co, ?_, ?_⟩⟩
      ·exact (pw_below_drewN HB.out _).trans (belowK_b (w := w) (Nat.le_refl _) _ D _ _ HDL.out (show _ from HDD.out) rfl rfl)
      ·rw [← HPP.out]
       rfl
      ·rw [← HPP.out, ← HZ2.out]
       exact R_objs (Kd.R_drewN HRO.out _) (grownBy_putObj' _ D _) (fun r e => by cases e; exact ⟨_, (show _ from HDD.out), rfl⟩)
theorem charges_Share.calls (a0 a1 : Int) (A2 : Option Addr) (c2 : Nat) (l2 : List Int) (A3 : Option Addr) (c3 : Nat) (l3 : List (S38)) (r1 : List (S43)) (r2 r3 : Int) (w : World) (hr2 : Kd.C (Kd.int .i64) w A2 l2.length l2) (hc2 : l2.length ≤ c2) (hr3 : Kd.C k38 w A3 l3.length l3) (hc3 : l3.length ≤ c3) (h : charges_Share.f a0 a1 l2 l3 = some (r1, r2, r3)) :
  Calls Try.prog 25 #[.int .i64 a0, .int .i64 a1, .slice A2 l2.length c2, .slice A3 l3.length c3] w fun e w' => ∃ v0_ : Value, e = .returned (.tuple #[v0_, .int .i64 r2, .int .i64 r3]) ∧ Kd.R k43 43 w' w.heap.size (fun _ => True) v0_ r1 ∧ Below w.heap.size w w' := by
 have hC : shareC a0 a1 l2 l3 = (r1, r2, r3) := Option.some.inj h
 clear h
 rcases boundsC_two a0 a1 l3 with hb | ⟨hb, h200⟩
 ·have e : shareC a0 a1 l2 l3 = ([], 0, 1) := by unfold shareC; rw [hb]; rfl
  rw [e] at hC
  cases hC
  refine (share_bad a0 a1 A2 c2 l2 A3 c3 l3 w hr2 hc2 hr3 hc3 (.inl hb)).mono ?_
  rintro e w' ⟨rfl, hB⟩
  exact ⟨_, rfl, Kd.R_nil _ _ _ _ _, hB⟩
 ·by_cases hbad : l2.length ≠ l3.length ∨ homesB 0 l2 = false
  ·have e : shareC a0 a1 l2 l3 = ([], 0, 1) := by unfold shareC; rw [hb, if_pos rfl, if_pos hbad]
   rw [e] at hC
   cases hC
   refine (share_bad a0 a1 A2 c2 l2 A3 c3 l3 w hr2 hc2 hr3 hc3 (.inr ⟨_, hb, h200, hbad⟩)).mono ?_
   rintro e w' ⟨rfl, hB⟩
   exact ⟨_, rfl, Kd.R_nil _ _ _ _ _, hB⟩
  ·have hl : l2.length = l3.length := Classical.byContradiction fun hn => hbad (.inl hn)
   have hh : homesB 0 l2 = true := by
    cases hx : homesB 0 l2 with
    | true => rfl
    | false => exact absurd (.inr hx) hbad
   refine (share_good a0 a1 A2 c2 l2 A3 c3 l3 _ w hr2 hc2 hr3 hc3 h200 hb (by rw [List.length_map]) hl hh).mono ?_
   rintro e w' ⟨hB, ⟨hlt, rfl⟩ | ⟨hlt, v, rfl, hR⟩⟩
   ·have e : shareC a0 a1 l2 l3 = ([], 0, 30) := by unfold shareC; rw [hb, if_pos rfl, if_neg hbad, if_pos hlt]
    rw [e] at hC
    cases hC
    exact ⟨_, rfl, Kd.R_nil _ _ _ _ _, hB⟩
   ·unfold shareC at hC
    rw [hb, if_pos rfl, if_neg hbad, if_neg hlt] at hC
    cases hC
    exact ⟨_, rfl, hR, hB⟩
end Go.Proofs.Ytbgchacafglcpaa.P
end
section
namespace Go.Proofs.Ytbgchacafglcpaa.P
open Go.RowKit Go.Proofs.YtbgchacafglcpaaW.PrintWords Go.Proofs.YtbgchacafglcpaaW.PrintLast Go.Proofs.YtbgchacafglcpaaW.PrintMore
attribute [local go_sem] max2_int min2_int max_two min_two max_three min_three max_four min_four
set_option linter.unusedVariables false
set_option linter.unusedSimpArgs false
open Go.Proofs.YtbgchacafglcpaaH
def mapVB (m : Int → Bool) : Int → Option Value := fun k => if m k then some (.bool true) else none
theorem mapVB_set (m : Int → Bool) (k : Int) : ∀ x, setM (mapVB m) k (.bool true) x = mapVB (fun k' => if k' = k then true else m k') x := by
 intro x
 unfold setM mapVB
 by_cases h : x = k <;> simp [h]
theorem mapVB_get (m : Int → Bool) (k : Int) : (mapVB m k).getD (.bool false) = .bool (m k) := by
 unfold mapVB
 cases m k <;> rfl
def abvB (l : List S63) (n : Nat) (k : Int) : Bool := (List.range n).any (fun j => decide (k = (rd_T63 l j).f1))
theorem abvB_succ (l : List S63) (n : Nat) : (fun k' => if k' = (rd_T63 l n).f1 then true else abvB l n k') = abvB l (n + 1) := by
 funext k
 unfold abvB
 rw [List.range_succ, List.any_append]
 by_cases h : k = (rd_T63 l n).f1 <;> simp [h]
def rootsN (l : List S63) (n : Nat) : Int := (List.range n).foldl (fun s (j : Nat) => if (rd_T63 l j).f1 = 0 then wrap64 (s + 1) else s) 0
def totN (l : List S63) (bs : List S38) (n : Nat) : S38 := (List.range n).foldl (fun t (j : Nat) => if (rd_T63 l j).f1 = 0 then ⟨(rd_T38 bs j).f0, (rd_T38 bs j).f1⟩ else t) ⟨0, 0⟩
def partsN (l : List S63) (bs : List S38) (n : Nat) : List S38 := (List.range n).foldl (fun ps (j : Nat) => if abvB l l.length (rd_T63 l j).f0 = true then ps else ps ++ [⟨(rd_T38 bs j).f0, (rd_T38 bs j).f1⟩]) []
theorem partsN_len (l : List S63) (bs : List S38) (n : Nat) : (partsN l bs n).length ≤ n := by
 unfold partsN
 induction n with
 | zero => simp
 | succ n ih =>
  rw [foldl_range_succ]
  split
  ·omega
  ·rw [List.length_append]; simp; omega
def networkC (c : Int) (l : List S63) (known : List S38) (homes : List Int) : List S43 × Int × Int :=
 if (boundsR l known).2 = 0 then
  if c < 0 ∨ 1000000000 < c ∨ rootsN l l.length ≠ 1 ∨ homes.length ≠ (partsN l (boundsR l known).1 l.length).length ∨ homesB 0 homes = false then ([], 0, 1)
  else if (totN l (boundsR l known).1 l.length).f0 ≠ (totN l (boundsR l known).1 l.length).f1 ∨ (totN l (boundsR l known).1 l.length).f0 = 0 then ([], 0, 3)
  else shareC c (totN l (boundsR l known).1 l.length).f0 homes (partsN l (boundsR l known).1 l.length)
 else ([], 0, (boundsR l known).2)
def charges_Network.f (a0 : Int) (l1 : List S63) (l2 : List S38) (l3 : List Int) : Option (List S43 × Int × Int) := if l1.length ≤ 5864062014805 ∧ l2.length ≤ 140737488355328 then some (networkC a0 l1 l2 l3) else none
theorem boundsR_two (l : List S63) (r : List S38) : (boundsR l r).2 ≠ 0 ∧ (boundsR l r).1 = [] ∨ (boundsR l r).2 = 0 ∧ l.length ≤ 200 ∧ (boundsR l r).1.length = l.length := by
 unfold boundsR
 cases hk : netOk l with
 | none => exact .inl ⟨by simp, rfl⟩
 | some kids =>
  have hl : l.length ≤ 200 := by
   unfold netOk at hk
   split at hk
   ·assumption
   ·cases hk
  simp only []
  split
  ·rename_i hb
   split
   ·refine .inr ⟨rfl, hl, ?_⟩
    rw [List.length_map, boundsF_len, List.length_map]
    simp [belongsB] at hb
    exact hb.1
   ·exact .inl ⟨by simp, rfl⟩
  ·exact .inl ⟨by simp, rfl⟩
theorem R_farT {e base g : Nat} {w : World} {A : Option Addr} {n c : Nat} {xs : List S38} (h : Kd.R k38 e w base (fun _ => True) (.slice A n c) xs) (hne : some g ≠ (Value.slice A n c).ownBlock) (j : Nat) (u : Value) : Kd.R k38 e (w.setCell ⟨g, j, none⟩ u) base (fun _ => True) (.slice A n c) xs :=
 Kd.R_mono (Kd.R_far (p := ⟨g, j, none⟩) (Kd.R_far1 h rfl hne) (fun _ hk => hk.2) u) (fun _ _ => trivial)
set_option maxHeartbeats 16000000 in
set_option maxRecDepth 100000 in
theorem charges_Network.calls (a0 : Int) (A1 : Option Addr) (c1 : Nat) (l1 : List (S63)) (A2 : Option Addr) (c2 : Nat) (l2 : List (S38)) (A3 : Option Addr) (c3 : Nat) (l3 : List Int) (r1 : List (S43)) (r2 r3 : Int) (w : World) (hr1 : Kd.C k63 w A1 l1.length l1) (hc1 : l1.length ≤ c1) (hr2 : Kd.C k38 w A2 l2.length l2) (hc2 : l2.length ≤ c2) (hr3 : Kd.C (Kd.int .i64) w A3 l3.length l3) (hc3 : l3.length ≤ c3) (h : charges_Network.f a0 l1 l2 l3 = some (r1, r2, r3)) :
  Calls Try.prog 14 #[.int .i64 a0, .slice A1 l1.length c1, .slice A2 l2.length c2, .slice A3 l3.length c3] w fun e w' => ∃ v0_ : Value, e = .returned (.tuple #[v0_, .int .i64 r2, .int .i64 r3]) ∧ Kd.R k43 43 w' w.heap.size (fun _ => True) v0_ r1 ∧ Below w.heap.size w w' := by
 have hu38 := Try.underlying38
 have hu63 := Try.underlying63
 unfold charges_Network.f at h
 by_cases hsz : l1.length ≤ 5864062014805 ∧ l2.length ≤ 140737488355328
 case neg =>
  rw [if_neg hsz] at h
  cases h
 rw [if_pos hsz] at h
 injection h with h
 have HR1 := Aside0.mk hr1
 have HC1 := Aside0.mk hc1
 have HR2 := Aside0.mk hr2
 have HC2 := Aside0.mk hc2
 have HR3 := Aside0.mk hr3
 have HC3 := Aside0.mk hc3
 have HB := Aside0.mk (Below.refl w.heap.size w)
 obtain ⟨bs, hbs⟩ : ∃ bs, bs = (boundsR l1 l2).1 := ⟨_, rfl⟩
 obtain ⟨be, hbe⟩ : ∃ be, be = (boundsR l1 l2).2 := ⟨_, rfl⟩
 have HE := Aside0.mk (show flow_Bounds.f l1 l2 = some (bs, be) by unfold flow_Bounds.f; rw [if_pos hsz, hbs, hbe])
 have hmm := @run_makeMap Try.prog
 clear hr1 hc1 hr2 hc2 hr3 hc3 hsz
 rcases boundsR_two l1 l2 with ⟨hne, hnil⟩ | ⟨h0, h200, hlen⟩
 ·have e : networkC a0 l1 l2 l3 = ([], 0, be) := by unfold networkC; rw [if_neg hne, hbe]
  rw [e] at h
  injection h with e1 e2
  injection e2 with e2 e3
  subst e1
  subst e2
  subst e3
  rw [← hbe] at hne
  have n1 : (be == 0) = false := beq_eq_false_iff_ne.2 hne
  have n2 : (be != 0) = true := bne_iff_ne.2 hne
  clear e hne hnil hbs hbe
  go_enter Try.func14, Try.ntmps14
  go_wp2_with (first | (go_at_call 13; (with_reducible refine (flow_Bounds.calls A1 c1 l1 A2 c2 l2 _ _ _ (Kd.C_below HR1.out HB.out) HC1.out (Kd.C_below HR2.out HB.out) HC2.out HE.out).mono ?_); rintro e w2 ⟨v2, rfl, hR_, hb_⟩; have n0_ := Aside0.mk (below_step HB.out hb_); obtain ⟨Ab, cb, rfl⟩ := Kd.R_slice hR_; have HRB := Aside0.mk (Kd.R_lower hR_ (below_size HB.out)); clear HB hb_ hR_; have HB := n0_; clear n0_))
  go_ret3
  exact ⟨_, rfl, Kd.R_nil _ _ _ _ _, HB.out⟩
 ·rw [← hbe] at h0
  rw [← hbs] at hlen
  subst h0
  have HNET := Aside0.mk (show networkC a0 l1 l2 l3 = (if a0 < 0 ∨ 1000000000 < a0 ∨ rootsN l1 l1.length ≠ 1 ∨ l3.length ≠ (partsN l1 bs l1.length).length ∨ homesB 0 l3 = false then ([], 0, 1) else if (totN l1 bs l1.length).f0 ≠ (totN l1 bs l1.length).f1 ∨ (totN l1 bs l1.length).f0 = 0 then ([], 0, 3) else shareC a0 (totN l1 bs l1.length).f0 l3 (partsN l1 bs l1.length)) by unfold networkC; rw [if_pos hbe.symm, ← hbs])
  rw [HNET.out] at h
  have HH := Aside0.mk h
  have HBL := Aside0.mk hlen
  have H200 := Aside0.mk h200
  clear h hlen h200 HNET hbs hbe
  go_enter Try.func14, Try.ntmps14
  go_wp2_with (first | (go_at_call 13; (with_reducible refine (flow_Bounds.calls A1 c1 l1 A2 c2 l2 _ _ _ (Kd.C_below HR1.out HB.out) HC1.out (Kd.C_below HR2.out HB.out) HC2.out HE.out).mono ?_); rintro e w2 ⟨v2, rfl, hR_, hb_⟩; have n0_ := Aside0.mk (below_step HB.out hb_); obtain ⟨Ab, cb, rfl⟩ := Kd.R_slice hR_; rw [HBL.out] at hR_; rw [HBL.out]; have HRB := Aside0.mk (Kd.R_lower hR_ (below_size HB.out)); clear HB hb_ hR_; have HB := n0_; clear n0_))
  obtain ⟨gm, hgm⟩ : ∃ gm, gm = w2.heap.size := ⟨_, rfl⟩
  obtain ⟨gt, hgt⟩ : ∃ gt, gt = w2.heap.size + 1 := ⟨_, rfl⟩
  obtain ⟨w4, hw4⟩ : ∃ w4, w4 = (w2.alloc (Obj.map #[] 0)).alloc (Obj.cells #[Value.int .i64 0, Value.int .i64 0] 38) := ⟨_, rfl⟩
  rw [← hw4, ← hgt, ← hgm]
  have hb4 : Below w2.heap.size w2 w4 := by rw [hw4]; exact below_alloc (below_alloc (Below.refl _ _) _) _
  have BT4 := Aside0.mk (show w4.heap[gt]? = some (.cells #[.int .i64 0, .int .i64 0] 38 (0, 0)) by rw [hw4, hgt]; have := blk_new (w2.alloc (Obj.map #[] 0)) (.cells #[Value.int .i64 0, Value.int .i64 0] 38); rwa [World.size_alloc] at this)
  have HM4 := Aside0.mk (show MapI w4 gm (mapVB (abvB l1 0)) by rw [hw4, hgm]; exact ((MapI.made w2).alloc _).eq (fun k => rfl))
  have HRB4 := Aside0.mk (Kd.R_below HRB.out hb4)
  have HB4 := Aside0.mk (below_step HB.out hb4)
  have GT := Aside0.mk (show w.heap.size ≤ gt by have := below_size HB.out; omega)
  have GM := Aside0.mk (show w.heap.size ≤ gm by have := below_size HB.out; omega)
  have NTB := Aside0.mk (show some gt ≠ (Value.slice Ab l1.length cb).ownBlock from fun e => by have := Kd.R_lt HRB.out _ e.symm; omega)
  clear hw4 hb4 hgm hgt HRB HB
  go_loopg [14, 33] l1.length (fun kq v14 v33 wr => ∃ (n : Nat) (q : Int) (t : S38), v14 = .int .i64 q ∧ v33 = .int .i64 n ∧ Aside0 (kq + n = l1.length) ∧ Aside0 (q = rootsN l1 n) ∧ Aside0 (t = totN l1 bs n) ∧ Aside0 (MapI wr gm (mapVB (abvB l1 n))) ∧ Aside0 (wr.heap[gt]? = some (.cells #[.int .i64 t.f0, .int .i64 t.f1] 38 (0, 0)))
   ∧ Aside0 (Kd.R k38 38 wr w.heap.size (fun _ => True) (.slice Ab l1.length cb) bs) ∧ Aside0 (Below w.heap.size w wr))
  case atStart => exact ⟨0, _, ⟨0, 0⟩, rfl, rfl, ⟨by omega⟩, ⟨rfl⟩, ⟨rfl⟩, HM4, BT4, HRB4, HB4⟩
  case round =>
   clear HM4 BT4 HRB4 HB4
   obtain ⟨n, q, t, rfl, rfl, HK, HQ, HT, HM, BT, HRB, HB⟩ := hrel
   by_cases hlt : n < l1.length
   ·obtain ⟨i, hi⟩ : ∃ i : Int, i = (n : Int) := ⟨_, rfl⟩
    rw [← hi]
    have HI2 := Aside0.mk (show 0 ≤ i ∧ i < l1.length ∧ i = (n : Int) from ⟨by omega, by omega, hi⟩)
    have d7 : decide (i < (l1.length : Int)) = true := decide_eq_true HI2.out.2.1
    have ci2 : (0 ≤ i) = True := eq_true HI2.out.1
    have ci3 : (i < l1.length) = True := eq_true HI2.out.2.1
    obtain ⟨adp, ep, hx0, hx1, hx2⟩ := at_T63 (Kd.C_below HR1.out HB.out) i HI2.out.1 HI2.out.2.1
    subst ep
    obtain ⟨p, hp⟩ : ∃ p, p = rd_T63 l1 i := ⟨_, rfl⟩
    rw [← hp] at hx0 hx1 hx2
    have HP := Aside0.mk hp
    have hz1 : i + 1 ≤ 9223372036854775807 := by have := HI2.out; have := H200.out; omega
    have hz2 : -9223372036854775808 ≤ i + 1 := by have := HI2.out; omega
    clear hi hlt hp
    have HB0 := Aside0.mk (Below.refl wr.heap.size wr)
    go_upto_region 10 with (first | ((with_reducible refine gate_dst (N := 17) rfl ?_); refine box_event ?hg (N := 17) ?hd (cs := #[.int .i64 0, .int .i64 0, .int .i64 0]) (t := 63) ?hr ?_; (case hd => rfl); (case hg => rfl); (case hr => first | (go_simp; done) | (go_simp; rfl)); intro gp hg_P w9 hbox_ hb_; have n0_ := Aside0.mk (below_step HB0.out hb_); have BP := Aside0.mk hbox_; have GP := Aside0.mk (show wr.heap.size ≤ gp by rw [hg_P]; exact below_size HB0.out); have EP := Aside0.mk hg_P; have hcp0 : w9.cell? ⟨gp, 0, none⟩ = some (.int .i64 0) := (blk_cell hbox_ 0).trans rfl; have hfp0 := blk_frozen hbox_ 0; have hcp1 : w9.cell? ⟨gp, 1, none⟩ = some (.int .i64 0) := (blk_cell hbox_ 1).trans rfl; have hfp1 := blk_frozen hbox_ 1; have hcp2 : w9.cell? ⟨gp, 2, none⟩ = some (.int .i64 0) := (blk_cell hbox_ 2).trans rfl; have hfp2 := blk_frozen hbox_ 2; clear HB0 hg_P hbox_ hb_; have HB0 := n0_; clear n0_))
    obtain ⟨w10, hw10⟩ : ∃ w10, w10 = ((w9.setCell ⟨gp, 0, none⟩ (.int .i64 p.f0)).setCell ⟨gp, 1, none⟩ (.int .i64 p.f1)).setCell ⟨gp, 2, none⟩ (.int .i64 p.f2) := ⟨_, rfl⟩
    rw [← hw10]
    have BP10 := Aside0.mk (show w10.heap[gp]? = some (.cells #[.int .i64 p.f0, .int .i64 p.f1, .int .i64 p.f2] 63 (0, 0)) by rw [hw10]; exact blk_put3 BP.out _ _ _)
    have HB10 := Aside0.mk (show Below wr.heap.size wr w10 by rw [hw10]; exact below_put3 HB0.out GP.out _ _ _)
    clear hw10 BP HB0 hcp0 hcp1 hcp2 hfp0 hfp1 hfp2 hx0 hx1 hx2
    have hcp1 : w10.cell? ⟨gp, 1, none⟩ = some (.int .i64 p.f1) := (blk_cell BP10.out 1).trans rfl
    have HM10 := Aside0.mk (HM.out.below HB10.out)
    go_upto_region 11 with (first | ((with_reducible refine gate_ (op := .mapUpdate 75 (.tmp 38) (.tmp 40) (.const (.bool true))) rfl ?_); refine wpList_storeI _ rfl (.tmp 38) (.tmp 40) (.const (.bool true)) 75 rfl 3 4 Try.underlying75 Try.underlying3 gm (mapVB (abvB l1 n)) rfl HM10.out p.f1 rfl (.bool true) rfl ?_; intro w11 hm9 hg9; have HM11 := Aside0.mk (hm9.eq (mapVB_set _ _)); have HG11 := Aside0.mk hg9; clear hm9 hg9))
    have hnt : some gt ≠ some gm := HM10.out.ne_blk (blk_below BT.out HB10.out)
    have BT11 := Aside0.mk (blk_grown (blk_below BT.out HB10.out) HG11.out hnt)
    have BP11 := Aside0.mk (blk_grown BP10.out HG11.out (HM10.out.ne_blk BP10.out))
    have HRB11 := Aside0.mk (R_map (Kd.R_below HRB.out HB10.out) HM10.out HG11.out)
    have HB11 := Aside0.mk (grown_below (below_step HB.out HB10.out) HG11.out (fun k e => by cases e; exact GM.out))
    have ei : i.toNat = n := by have := HI2.out; omega
    have ec : ((n : Nat) : Int) = i := by have := HI2.out; omega
    have HN1 := Aside0.mk (show (fun k' => if k' = p.f1 then true else abvB l1 n k') = abvB l1 (n + 1) by rw [HP.out, ← ec]; exact abvB_succ l1 n)
    have HPF := Aside0.mk (show (rd_T63 l1 n).f1 = p.f1 by rw [HP.out, ec])
    have HE2 := Aside0.mk (And.intro ei ec)
    clear hnt ei ec hcp1
    have hcp1 : w11.cell? ⟨gp, 1, none⟩ = some (.int .i64 p.f1) := (blk_cell BP11.out 1).trans rfl
    by_cases hz : p.f1 = 0
    ·have z1 : (p.f1 == 0) = true := beq_iff_eq.2 hz
     have HZ := Aside0.mk hz
     obtain ⟨adb, eb, hy0, hy1⟩ := at_T38 (Kd.R_reads' HRB11.out).2.2 i HI2.out.1 (by have := HI2.out; have := HBL.out; omega)
     subst eb
     obtain ⟨y0, hy0'⟩ : ∃ y0, y0 = (rd_T38 bs i).f0 := ⟨_, rfl⟩
     obtain ⟨y1, hy1'⟩ : ∃ y1, y1 = (rd_T38 bs i).f1 := ⟨_, rfl⟩
     rw [← hy0'] at hy0
     rw [← hy1'] at hy1
     have HY := Aside0.mk (And.intro hy0' hy1')
     have hct0 : w11.cell? ⟨gt, 0, none⟩ = some (.int .i64 t.f0) := (blk_cell BT11.out 0).trans rfl
     have hct1 : w11.cell? ⟨gt, 1, none⟩ = some (.int .i64 t.f1) := (blk_cell BT11.out 1).trans rfl
     have hft0 := blk_frozen BT11.out 0
     have hft1 := blk_frozen BT11.out 1
     clear hz hy0' hy1'
     go_wp2
     go_roundg (gk - 1)
     case measure => have := HK.out; have := HI2.out; omega
     case rel =>
      refine ⟨n + 1, _, ⟨y0, y1⟩, rfl, ?_, ⟨by have := HK.out; have := HI2.out; omega⟩, ⟨?_⟩, ⟨?_⟩, ⟨?_⟩, ⟨blk_put2 BT11.out _ _⟩, ⟨R_farT (R_farT HRB11.out NTB.out 0 _) NTB.out 1 _⟩, ⟨below_put2 HB11.out GT.out _ _⟩⟩
      ·have := HI2.out
       first | (rw [show ((n + 1 : Nat) : Int) = i + 1 from by omega]; done) | (simp; omega)
      ·unfold rootsN
       rw [foldl_range_succ, HPF.out, if_pos HZ.out]
       show _ = wrap64 (rootsN l1 n + 1)
       rw [← HQ.out]
      ·unfold totN
       rw [foldl_range_succ, HPF.out, if_pos HZ.out, HE2.out.2, HY.out.1, HY.out.2]
      ·rw [← HN1.out]
       exact (HM11.out.move (Below.heap_setCell _ _ _ _ (fun e => HM11.out.ne_blk BT11.out (by rw [e])))).move (Below.heap_setCell _ _ _ _ (fun e => HM11.out.ne_blk BT11.out (by rw [e])))
    ·have z1 : (p.f1 == 0) = false := beq_eq_false_iff_ne.2 hz
     have HZ := Aside0.mk hz
     clear hz
     go_wp2
     go_roundg (gk - 1)
     case measure => have := HK.out; have := HI2.out; omega
     case rel =>
      refine ⟨n + 1, _, t, rfl, ?_, ⟨by have := HK.out; have := HI2.out; omega⟩, ⟨?_⟩, ⟨?_⟩, ⟨?_⟩, BT11, HRB11, HB11⟩
      ·have := HI2.out
       first | (rw [show ((n + 1 : Nat) : Int) = i + 1 from by omega]; done) | (simp; omega)
      ·unfold rootsN
       rw [foldl_range_succ, HPF.out, if_neg HZ.out]
       exact HQ.out
      ·unfold totN
       rw [foldl_range_succ, HPF.out, if_neg HZ.out]
       exact HT.out
      ·rw [← HN1.out]
       exact HM11.out
   ·have d7 : decide ((n : Int) < (l1.length : Int)) = false := decide_eq_false (by omega)
    have d7' : decide (n < l1.length) = false := decide_eq_false hlt
    have hnl : n = l1.length := by have := HK.out; omega
    rw [hnl] at HQ HT HM
    clear hlt hnl
    go_wp2
    have HPT0 := Aside0.mk (show Kd.R k38 38 wr w.heap.size (fun k_ => some k_ ≠ (Value.slice Ab l1.length cb).ownBlock ∧ k_ ≠ gt) (.slice none 0 0) ([] : List S38) from Kd.R_nil _ _ _ _ _)
    go_loopg [18, 53] l1.length (fun kq v18 v53 wr => ∃ (n : Nat) (ps : List S38), v53 = .int .i64 n ∧ Aside0 (kq + n = l1.length) ∧ Aside0 (ps = partsN l1 bs n) ∧ Aside0 (Kd.R k38 38 wr w.heap.size (fun k_ => some k_ ≠ (Value.slice Ab l1.length cb).ownBlock ∧ k_ ≠ gt) v18 ps) ∧ Aside0 (MapI wr gm (mapVB (abvB l1 l1.length))) ∧ Aside0 (wr.heap[gt]? = some (.cells #[.int .i64 t.f0, .int .i64 t.f1] 38 (0, 0)))
     ∧ Aside0 (Kd.R k38 38 wr w.heap.size (fun _ => True) (.slice Ab l1.length cb) bs) ∧ Aside0 (Below w.heap.size w wr))
    case atStart => exact ⟨0, _, rfl, ⟨by omega⟩, ⟨rfl⟩, HPT0, HM, BT, HRB, HB⟩
    case round =>
     clear HPT0 HM BT HRB HB
     obtain ⟨n, ps, rfl, HK, HPS, HRP, HM, BT, HRB, HB⟩ := hrel
     by_cases hlt : n < l1.length
     ·obtain ⟨i, hi⟩ : ∃ i : Int, i = (n : Int) := ⟨_, rfl⟩
      rw [← hi]
      have HI2 := Aside0.mk (show 0 ≤ i ∧ i < l1.length ∧ i = (n : Int) from ⟨by omega, by omega, hi⟩)
      have d7 : decide (i < (l1.length : Int)) = true := decide_eq_true HI2.out.2.1
      have ci2 : (0 ≤ i) = True := eq_true HI2.out.1
      have ci3 : (i < l1.length) = True := eq_true HI2.out.2.1
      obtain ⟨adp, ep, hx0, hx1, hx2⟩ := at_T63 (Kd.C_below HR1.out HB.out) i HI2.out.1 HI2.out.2.1
      subst ep
      obtain ⟨p, hp⟩ : ∃ p, p = rd_T63 l1 i := ⟨_, rfl⟩
      rw [← hp] at hx0 hx1 hx2
      have HP := Aside0.mk hp
      have hz1 : i + 1 ≤ 9223372036854775807 := by have := HI2.out; have := H200.out; omega
      have hz2 : -9223372036854775808 ≤ i + 1 := by have := HI2.out; omega
      clear hi hlt hp
      have HB0 := Aside0.mk (Below.refl wr.heap.size wr)
      go_upto_region 19 with (first | ((with_reducible refine gate_dst (N := 20) rfl ?_); refine box_event ?hg (N := 20) ?hd (cs := #[.int .i64 0, .int .i64 0, .int .i64 0]) (t := 63) ?hr ?_; (case hd => rfl); (case hg => rfl); (case hr => first | (go_simp; done) | (go_simp; rfl)); intro gp hg_P w9 hbox_ hb_; have n0_ := Aside0.mk (below_step HB0.out hb_); have BP := Aside0.mk hbox_; have GP := Aside0.mk (show wr.heap.size ≤ gp by rw [hg_P]; exact below_size HB0.out); have EP := Aside0.mk hg_P; have hcp0 : w9.cell? ⟨gp, 0, none⟩ = some (.int .i64 0) := (blk_cell hbox_ 0).trans rfl; have hfp0 := blk_frozen hbox_ 0; have hcp1 : w9.cell? ⟨gp, 1, none⟩ = some (.int .i64 0) := (blk_cell hbox_ 1).trans rfl; have hfp1 := blk_frozen hbox_ 1; have hcp2 : w9.cell? ⟨gp, 2, none⟩ = some (.int .i64 0) := (blk_cell hbox_ 2).trans rfl; have hfp2 := blk_frozen hbox_ 2; clear HB0 hg_P hbox_ hb_; have HB0 := n0_; clear n0_))
      obtain ⟨w10, hw10⟩ : ∃ w10, w10 = ((w9.setCell ⟨gp, 0, none⟩ (.int .i64 p.f0)).setCell ⟨gp, 1, none⟩ (.int .i64 p.f1)).setCell ⟨gp, 2, none⟩ (.int .i64 p.f2) := ⟨_, rfl⟩
      rw [← hw10]
      have BP10 := Aside0.mk (show w10.heap[gp]? = some (.cells #[.int .i64 p.f0, .int .i64 p.f1, .int .i64 p.f2] 63 (0, 0)) by rw [hw10]; exact blk_put3 BP.out _ _ _)
      have HB10 := Aside0.mk (show Below wr.heap.size wr w10 by rw [hw10]; exact below_put3 HB0.out GP.out _ _ _)
      clear hw10 BP HB0 hcp0 hcp1 hcp2 hfp0 hfp1 hfp2 hx0 hx1 hx2
      have hcp0 : w10.cell? ⟨gp, 0, none⟩ = some (.int .i64 p.f0) := (blk_cell BP10.out 0).trans rfl
      have HM10 := Aside0.mk (HM.out.below HB10.out)
      have BT10 := Aside0.mk (blk_below BT.out HB10.out)
      have HRB10 := Aside0.mk (Kd.R_below HRB.out HB10.out)
      have HRP10 := Aside0.mk (Kd.R_below HRP.out HB10.out)
      have HBB10 := Aside0.mk (below_step HB.out HB10.out)
      have ei : i.toNat = n := by have := HI2.out; omega
      have ec : ((n : Nat) : Int) = i := by have := HI2.out; omega
      have HPF := Aside0.mk (show (rd_T63 l1 n).f0 = p.f0 by rw [HP.out, ec])
      have HE2 := Aside0.mk (And.intro ei ec)
      clear ei ec
      cases hab : abvB l1 l1.length p.f0 with
      | true =>
       have HAB := Aside0.mk hab
       clear hab
       go_wp2_with (first | ((with_reducible refine gate_ (op := .lookup 75 (.tmp 58) (.tmp 60) false) rfl ?_); refine wpList_lookI _ rfl (.tmp 58) (.tmp 60) 75 false rfl 3 4 Try.underlying75 Try.underlying3 (Try.zeroValue4 _) gm (mapVB (abvB l1 l1.length)) rfl HM10.out p.f0 rfl ?_; rw [if_neg (by decide), mapVB_get, HAB.out]))
       go_roundg (gk - 1)
       case measure => have := HK.out; have := HI2.out; omega
       case rel =>
        refine ⟨n + 1, ps, ?_, ⟨by have := HK.out; have := HI2.out; omega⟩, ⟨?_⟩, HRP10, HM10, BT10, HRB10, HBB10⟩
        ·have := HI2.out
         first | (rw [show ((n + 1 : Nat) : Int) = i + 1 from by omega]; done) | (simp; omega)
        ·unfold partsN
         rw [foldl_range_succ, HPF.out, if_pos HAB.out]
         exact HPS.out
      | false =>
       have HAB := Aside0.mk hab
       clear hab
       obtain ⟨adb, eb, hy0, hy1⟩ := at_T38 (Kd.R_reads' HRB10.out).2.2 i HI2.out.1 (by have := HI2.out; have := HBL.out; omega)
       subst eb
       obtain ⟨y0, hy0'⟩ : ∃ y0, y0 = (rd_T38 bs i).f0 := ⟨_, rfl⟩
       obtain ⟨y1, hy1'⟩ : ∃ y1, y1 = (rd_T38 bs i).f1 := ⟨_, rfl⟩
       rw [← hy0'] at hy0
       rw [← hy1'] at hy1
       have HY := Aside0.mk (And.intro hy0' hy1')
       have HPL := Aside0.mk (show ps.length ≤ 200 by have h1 := partsN_len l1 bs n; rw [HPS.out]; have := HI2.out; have := H200.out; omega)
       clear hy0' hy1'
       go_wp2_with (first | ((with_reducible refine gate_ (op := .lookup 75 (.tmp 58) (.tmp 60) false) rfl ?_); refine wpList_lookI _ rfl (.tmp 58) (.tmp 60) 75 false rfl 3 4 Try.underlying75 Try.underlying3 (Try.zeroValue4 _) gm (mapVB (abvB l1 l1.length)) rfl HM10.out p.f0 rfl ?_; rw [if_neg (by decide), mapVB_get, HAB.out]) | ((with_reducible refine gate_builtin (b := .append) (xs := #[.tmp 63, .tmp 68]) rfl ?_); at_builtin; refine Kd.R_append k38 (w0 := w) w.heap.size rfl (.tmp 63) (.tmp 68) 23 38 (.agg #[(.int .i64 0), (.int .i64 0)]) 16 rfl Try.underlying23 info38 rfl (by decide) (by omega) _ ps (⟨y0, y1⟩ : S38) [.int .i64 y0, .int .i64 y1] (fun k_ => some k_ ≠ (Value.slice (some adb) l1.length cb).ownBlock ∧ k_ ≠ gt) (fun _ => False) rfl rfl (k38_mkM _ _ _ (⟨y0, y1⟩ : S38)) (fun _ hk => hk.elim) (fun k_ hk_ => ⟨fun e_ => by have := Kd.R_lt HRB10.out k_ e_.symm; omega, fun e_ => by have := blk_lt BT10.out; omega⟩) HRP10.out HBB10.out (below_size HBB10.out) (by have := HPL.out; omega) ?_; intro v9 w12 ho_ hb_ hg_ hat_; have HRP12 := Aside0.mk ho_; have HRB12 := Aside0.mk (Kd.R_grown2 HRB10.out rfl hg_ (fun k_ hk_ => (HRP10.out.1 k_ hk_).1)); have BT12 := Aside0.mk (blk_grown BT10.out hg_ (fun e_ => (HRP10.out.1 gt e_.symm).2 rfl)); have HM12 := Aside0.mk (HM10.out.kept hg_ (HM10.out.ne_row HRP10.out)); have HBB12 := Aside0.mk hb_; clear ho_ hb_ hg_ hat_))
       go_roundg (gk - 1)
       case measure => have := HK.out; have := HI2.out; omega
       case rel =>
        refine ⟨n + 1, _, ?_, ⟨by have := HK.out; have := HI2.out; omega⟩, ⟨?_⟩, HRP12, HM12, BT12, HRB12, HBB12⟩
        ·have := HI2.out
         first | (rw [show ((n + 1 : Nat) : Int) = i + 1 from by omega]; done) | (simp; omega)
        ·unfold partsN
         rw [foldl_range_succ, HPF.out, if_neg (by rw [HAB.out]; decide), HE2.out.2, HY.out.1, HY.out.2]
         show _ = partsN l1 bs n ++ _
         rw [← HPS.out]
     ·have d7 : decide ((n : Int) < (l1.length : Int)) = false := decide_eq_false (by omega)
      have d7' : decide (n < l1.length) = false := decide_eq_false hlt
      have hnl : n = l1.length := by have := HK.out; omega
      rw [hnl] at HPS
      clear hlt hnl
      obtain ⟨Ap, cp, ep⟩ := Kd.R_slice HRP.out
      subst ep
      have hct0 : wr.cell? ⟨gt, 0, none⟩ = some (.int .i64 t.f0) := (blk_cell BT.out 0).trans rfl
      have hct1 : wr.cell? ⟨gt, 1, none⟩ = some (.int .i64 t.f1) := (blk_cell BT.out 1).trans rfl
      have HH2 := HH.out
      rw [← HQ.out, ← HT.out, ← HPS.out] at HH2
      by_cases b1 : a0 < 0
      ·rw [if_pos (.inl b1)] at HH2
       cases HH2
       have e1 : decide (a0 < 0) = true := decide_eq_true b1
       clear b1
       go_wp2
       go_ret3
       exact ⟨_, rfl, Kd.R_nil _ _ _ _ _, HB.out⟩
      have e1 : decide (a0 < 0) = false := decide_eq_false b1
      by_cases b2 : 1000000000 < a0
      ·rw [if_pos (.inr (.inl b2))] at HH2
       cases HH2
       have e2 : decide (1000000000 < a0) = true := decide_eq_true b2
       clear b1 b2
       go_wp2
       go_ret3
       exact ⟨_, rfl, Kd.R_nil _ _ _ _ _, HB.out⟩
      have e2 : decide (1000000000 < a0) = false := decide_eq_false b2
      by_cases b3 : q = 1
      case neg =>
       rw [if_pos (.inr (.inr (.inl b3)))] at HH2
       cases HH2
       have e3 : (q == 1) = false := beq_eq_false_iff_ne.2 b3
       have e3' : (q != 1) = true := bne_iff_ne.2 b3
       clear b1 b2 b3
       go_wp2
       go_ret3
       exact ⟨_, rfl, Kd.R_nil _ _ _ _ _, HB.out⟩
      have e3 : (q == 1) = true := beq_iff_eq.2 b3
      have e3' : (q != 1) = false := by rw [bne_eq_false_iff_eq]; exact b3
      by_cases b4 : l3.length = ps.length
      case neg =>
       rw [if_pos (.inr (.inr (.inr (.inl b4))))] at HH2
       cases HH2
       have e4 : ((l3.length : Int) == (ps.length : Int)) = false := beq_eq_false_iff_ne.2 (by omega)
       have e4' : ((l3.length : Int) != (ps.length : Int)) = true := by rw [bne_iff_ne]; omega
       clear b1 b2 b3 b4
       go_wp2
       go_ret3
       exact ⟨_, rfl, Kd.R_nil _ _ _ _ _, HB.out⟩
      have e4 : ((l3.length : Int) == (ps.length : Int)) = true := beq_iff_eq.2 (by omega)
      have e4' : ((l3.length : Int) != (ps.length : Int)) = false := by rw [bne_eq_false_iff_eq]; omega
      have HN3 := Aside0.mk (show l3.length ≤ 140737488355328 by have h1 := partsN_len l1 bs l1.length; rw [← HPS.out] at h1; have := H200.out; omega)
      cases hh : homesB 0 l3 with
      | false =>
       rw [if_pos (.inr (.inr (.inr (.inr hh))))] at HH2
       cases HH2
       have HHO := Aside0.mk hh
       clear b1 b2 b3 b4 hh
       go_wp2_with (first | (go_at_call 35; (with_reducible refine (homes_any A3 c3 l3 _ _ (Kd.C_below HR3.out HB.out) HC3.out HN3.out HHO.out).mono ?_); rintro e w13 ⟨rfl, hdr⟩; have hb_ := hdr.below; have n0_ := Aside0.mk (below_step HB.out hb_); have HRP := Aside0.mk (Kd.R_below HRP.out hb_); replace hct0 := (hb_.cell (World.block_lt_of_cell? _ _ hct0)).trans hct0; replace hct1 := (hb_.cell (World.block_lt_of_cell? _ _ hct1)).trans hct1; clear HB hb_ hdr; have HB := n0_; clear n0_))
       go_ret3
       exact ⟨_, rfl, Kd.R_nil _ _ _ _ _, HB.out⟩
      | true =>
      rw [if_neg (by rw [hh]; rintro (h_ | h_ | h_ | h_ | h_) <;> first | exact absurd h_ (by assumption) | exact h_ b3 | exact h_ b4 | cases h_)] at HH2
      have HHO := Aside0.mk hh
      clear b1 b2 b3 b4 hh
      by_cases b5 : t.f0 = t.f1
      case neg =>
       rw [if_pos (.inl b5)] at HH2
       cases HH2
       have e5 : (t.f0 == t.f1) = false := beq_eq_false_iff_ne.2 b5
       have e5' : (t.f0 != t.f1) = true := bne_iff_ne.2 b5
       clear b5
       go_wp2_with (first | (go_at_call 35; (with_reducible refine (homes_any A3 c3 l3 _ _ (Kd.C_below HR3.out HB.out) HC3.out HN3.out HHO.out).mono ?_); rintro e w13 ⟨rfl, hdr⟩; have hb_ := hdr.below; have n0_ := Aside0.mk (below_step HB.out hb_); have HRP := Aside0.mk (Kd.R_below HRP.out hb_); replace hct0 := (hb_.cell (World.block_lt_of_cell? _ _ hct0)).trans hct0; replace hct1 := (hb_.cell (World.block_lt_of_cell? _ _ hct1)).trans hct1; clear HB hb_ hdr; have HB := n0_; clear n0_))
       go_ret3
       exact ⟨_, rfl, Kd.R_nil _ _ _ _ _, HB.out⟩
      have e5 : (t.f0 == t.f1) = true := beq_iff_eq.2 b5
      have e5' : (t.f0 != t.f1) = false := by rw [bne_eq_false_iff_eq]; exact b5
      by_cases b6 : t.f0 = 0
      ·rw [if_pos (.inr b6)] at HH2
       cases HH2
       have e6 : (t.f0 == 0) = true := beq_iff_eq.2 b6
       clear b5 b6
       go_wp2_with (first | (go_at_call 35; (with_reducible refine (homes_any A3 c3 l3 _ _ (Kd.C_below HR3.out HB.out) HC3.out HN3.out HHO.out).mono ?_); rintro e w13 ⟨rfl, hdr⟩; have hb_ := hdr.below; have n0_ := Aside0.mk (below_step HB.out hb_); have HRP := Aside0.mk (Kd.R_below HRP.out hb_); replace hct0 := (hb_.cell (World.block_lt_of_cell? _ _ hct0)).trans hct0; replace hct1 := (hb_.cell (World.block_lt_of_cell? _ _ hct1)).trans hct1; clear HB hb_ hdr; have HB := n0_; clear n0_))
       go_ret3
       exact ⟨_, rfl, Kd.R_nil _ _ _ _ _, HB.out⟩
      have e6 : (t.f0 == 0) = false := beq_eq_false_iff_ne.2 b6
      rw [if_neg (fun h_ => h_.elim (fun x_ => x_ b5) b6)] at HH2
      have HSH := Aside0.mk (show charges_Share.f a0 t.f0 l3 ps = some (r1, r2, r3) from congrArg some HH2)
      clear b5 b6 HH2
      go_wp2_with (first | (go_at_call 35; (with_reducible refine (homes_any A3 c3 l3 _ _ (Kd.C_below HR3.out HB.out) HC3.out HN3.out HHO.out).mono ?_); rintro e w13 ⟨rfl, hdr⟩; have hb_ := hdr.below; have n0_ := Aside0.mk (below_step HB.out hb_); have HRP := Aside0.mk (Kd.R_below HRP.out hb_); replace hct0 := (hb_.cell (World.block_lt_of_cell? _ _ hct0)).trans hct0; replace hct1 := (hb_.cell (World.block_lt_of_cell? _ _ hct1)).trans hct1; clear HB hb_ hdr; have HB := n0_; clear n0_) | (go_at_call 25; (with_reducible refine (charges_Share.calls a0 t.f0 A3 c3 l3 Ap cp ps _ _ _ _ (Kd.C_below HR3.out HB.out) HC3.out (Kd.R_reads' HRP.out).2.2 (Kd.R_reads' HRP.out).2.1 HSH.out).mono ?_); rintro e w14 ⟨v14, rfl, hR_, hb_⟩; have n0_ := Aside0.mk (below_step HB.out hb_); have HRS := Aside0.mk (Kd.R_lower hR_ (below_size HB.out)); clear HB hb_ hR_; have HB := n0_; clear n0_))
      go_ret3
      exact ⟨_, rfl, HRS.out, HB.out⟩
end Go.Proofs.Ytbgchacafglcpaa.P
end
section
namespace Go.Proofs.Ytbgchacafglcpaa.P
open Go.RowKit Go.Proofs.YtbgchacafglcpaaW.PrintWords Go.Proofs.YtbgchacafglcpaaW.PrintLast Go.Proofs.YtbgchacafglcpaaW.PrintMore
attribute [local go_sem] max2_int min2_int max_two min_two max_three min_three max_four min_four
set_option linter.unusedVariables false
set_option linter.unusedSimpArgs false
theorem eqA38 (d : Nat) (w : World) (x0 y0 : Int) (x1 y1 : Int) :
  (Op.equalIn (d + 2) 38 (.agg #[.int .i64 x0, .int .i64 x1]) (.agg #[.int .i64 y0, .int .i64 y1])).run Try.prog w = .ok (x0 == y0 && (x1 == y1)) w := by
 refine eqA_of Try.underlying38 (by kernel_rfl) ?_
 refine eqf_cons (by rfl) (by go_simp; rfl) (by go_simp; rfl) (by go_simp) ?_
 exact eqf_last (by rfl) (by go_simp; rfl) (by go_simp; rfl) (by go_simp)
end Go.Proofs.Ytbgchacafglcpaa.P
end
section
namespace Go.Proofs.Ytbgchacafglcpaa.P
open Go.RowKit Go.Proofs.YtbgchacafglcpaaW.PrintWords Go.Proofs.YtbgchacafglcpaaW.PrintLast Go.Proofs.YtbgchacafglcpaaW.PrintMore
attribute [local go_sem] max2_int min2_int max_two min_two max_three min_three max_four min_four
set_option linter.unusedVariables false
set_option linter.unusedSimpArgs false
theorem eqA43 (d : Nat) (w : World) (x0 y0 : Int) (x1 y1 : Int) (x2 y2 : Int) (x3 y3 : Int) (x4 y4 : Bool) :
  (Op.equalIn (d + 3) 43 (.agg #[.int .i64 x0, .int .i64 x1, .int .i64 x2, .int .i64 x3, .bool x4]) (.agg #[.int .i64 y0, .int .i64 y1, .int .i64 y2, .int .i64 y3, .bool y4])).run Try.prog w = .ok (x0 == y0 && (x1 == y1 && ((x2 == y2 && (x3 == y3)) && (x4 == y4)))) w := by
 refine eqA_of Try.underlying43 (by kernel_rfl) ?_
 refine eqf_cons (by rfl) (by go_simp; rfl) (by go_simp; rfl) (by go_simp) ?_
 refine eqf_cons (by rfl) (by go_simp; rfl) (by go_simp; rfl) (by go_simp) ?_
 refine eqf_cons (by rfl) (by go_simp) (by go_simp) (eqA38 (d + 0) w _ _ _ _) ?_
 exact eqf_last (by rfl) (by go_simp; rfl) (by go_simp; rfl) (by go_simp)
end Go.Proofs.Ytbgchacafglcpaa.P
end
section
namespace Go.Proofs.Ytbgchacafglcpaa.P
open Go.RowKit Go.Proofs.YtbgchacafglcpaaW.PrintWords Go.Proofs.YtbgchacafglcpaaW.PrintLast Go.Proofs.YtbgchacafglcpaaW.PrintMore
attribute [local go_sem] max2_int min2_int max_two min_two max_three min_three max_four min_four
set_option linter.unusedVariables false
set_option linter.unusedSimpArgs false
attribute [local go_sem high] eqA43
def cohousingref29_Same.l0 : Nat → List (S43) → List (S43) → Int → Option (Bool)
 | 0, _, _, _ => none
 | k + 1, x0, x1, x5 => if x5 < (x0.length : Int) then (if 0 ≤ x5 then (if x5 < (x1.length : Int) then (if (!(((rd_T43 x0 x5).f0) == ((rd_T43 x1 x5).f0)) || (!(((rd_T43 x0 x5).f1) == ((rd_T43 x1 x5).f1)) || ((!(((rd_T43 x0 x5).f2.f0) == ((rd_T43 x1 x5).f2.f0)) || (!(((rd_T43 x0 x5).f2.f1) == ((rd_T43 x1 x5).f2.f1)))) || (!(((rd_T43 x0 x5).f3) == ((rd_T43 x1 x5).f3)))))) = true then (some false) else (cohousingref29_Same.l0 k x0 x1 (wrap64 (x5 + 1)))) else (none)) else (none)) else (some true)
def cohousingref29_Same.f (k : Nat) (l0 : List (S43)) (l1 : List (S43)) : Option (Bool) := if (l0.length : Int) = (l1.length : Int) then (cohousingref29_Same.l0 k l0 l1 0) else (some false)
theorem cohousingref29_Same.mono_l : ∀ k, (∀ y0 y1 y2, LeO (cohousingref29_Same.l0 k y0 y1 y2) (cohousingref29_Same.l0 (k + 1) y0 y1 y2))
 | 0 => fun _ _ _ r h => by simp [cohousingref29_Same.l0] at h
 | k + 1 => by
  have ih0 := cohousingref29_Same.mono_l k
  ·intro y0 y1 y2
   unfold cohousingref29_Same.l0
   repeat' first
   | (with_reducible exact ih0 _ _ _)
   | (with_reducible exact LeO.refl _)
   | (with_reducible exact LeO.none _)
   | (with_reducible refine LeO.ite ?_ ?_)
   | (with_reducible refine LeO.bind ?_ (fun _ => ?_))
   | exact ih0 _ _ _
   | exact LeO.none _
   | refine LeO.ite ?_ ?_
   | refine LeO.bind ?_ (fun _ => ?_)
theorem cohousingref29_Same.mono : ∀ a0 a1 k, LeO (cohousingref29_Same.f k a0 a1) (cohousingref29_Same.f (k + 1) a0 a1) := by
 intro a0 a1 k
 have ih0 := cohousingref29_Same.mono_l k
 unfold cohousingref29_Same.f
 repeat' first
   | (with_reducible exact ih0 _ _ _)
   | (with_reducible exact LeO.refl _)
   | (with_reducible exact LeO.none _)
   | (with_reducible refine LeO.ite ?_ ?_)
   | (with_reducible refine LeO.bind ?_ (fun _ => ?_))
   | exact ih0 _ _ _
   | exact LeO.none _
   | refine LeO.ite ?_ ?_
   | refine LeO.bind ?_ (fun _ => ?_)
set_option maxHeartbeats 8000000 in
set_option maxRecDepth 100000 in
theorem cohousingref29_Same.calls (k : Nat) (A0 : Option Addr) (c0 : Nat) (l0 : List (S43)) (A1 : Option Addr) (c1 : Nat) (l1 : List (S43)) (r : Bool) (w : World) (hr0 : Kd.C k43 w A0 l0.length l0) (hc0 : l0.length ≤ c0) (hr1 : Kd.C k43 w A1 l1.length l1) (hc1 : l1.length ≤ c1) (h : cohousingref29_Same.f k l0 l1 = some r) :
  Calls Try.prog 27 #[.slice A0 l0.length c0, .slice A1 l1.length c1] w fun e w' => e = .returned (.bool r) ∧ Drawn0 w w' := by
 have hu43 := Try.underlying43
 have HR0 := Aside0.mk hr0
 have HC0 := Aside0.mk hc0
 clear hr0 hc0
 have HR1 := Aside0.mk hr1
 have HC1 := Aside0.mk hc1
 clear hr1 hc1
 have H : (if (l0.length : Int) = (l1.length : Int) then (cohousingref29_Same.l0 k l0 l1 0) else (some false)) = some r := h
 clear h
 by_cases c3 : (l0.length : Int) = (l1.length : Int)
 ·rw [if_pos c3] at H
  have c3b0 : ((l0.length : Int) == (l1.length : Int)) = true := beq_iff_eq.mpr c3
  have c3b1 : ((l0.length : Int) != (l1.length : Int)) = false := bne_eq_false_iff_eq.mpr c3
  have c3b2 : (l0.length == l1.length) = true := by first | simpa using c3 | (simp at c3 ⊢; omega)
  clear c3
  have H' := Aside0.mk H
  clear H
  go_enter Try.func27, Try.ntmps27
  go_wp2
  repeat (go_quiet (fail); try go_wp2)
  go_loopg [5] k (fun kq v5 w' => ∃ (x5_1 : Int), v5 = .int .i64 x5_1 ∧ Aside0 (cohousingref29_Same.l0 kq l0 l1 x5_1 = some r) ∧ Aside0 (kq ≤ k) ∧ Drawn0 w w')
  case atStart => exact ⟨(0), (by first | rfl | (simp; done) | (simp [*]; done)), H', ⟨Nat.le_refl _⟩, by repeat (first | exact Drawn0.refl _ | apply Drawn0.step)⟩
  case round =>
   clear H'
   try clear c1
   try clear c2
   try clear p2
   try clear c3
   try clear c3b0
   try clear c3b1
   try clear c3b2
   obtain ⟨x5_1, rfl, HA, HK1, ⟨m1, rfl⟩⟩ := hrel
   cases gk with
   | zero => exact absurd HA.out (by simp [cohousingref29_Same.l0])
   | succ k1 =>
    have H := HA.out
    clear HA
    simp only [cohousingref29_Same.l0] at H
    by_cases c4 : x5_1 < (l0.length : Int)
    ·rw [if_pos c4] at H
     have c4b0 : decide (x5_1 < (l0.length : Int)) = true := decide_eq_true c4
     clear c4
     by_cases c5 : 0 ≤ x5_1
     ·rw [if_pos c5] at H
      have c5b0 : decide (0 ≤ x5_1) = true := decide_eq_true c5
      clear c5
      by_cases c6 : x5_1 < (l1.length : Int)
      ·rw [if_pos c6] at H
       have c6b0 : decide (x5_1 < (l1.length : Int)) = true := decide_eq_true c6
       clear c6
       by_cases c7 : (!(((rd_T43 l0 x5_1).f0) == ((rd_T43 l1 x5_1).f0)) || (!(((rd_T43 l0 x5_1).f1) == ((rd_T43 l1 x5_1).f1)) || ((!(((rd_T43 l0 x5_1).f2.f0) == ((rd_T43 l1 x5_1).f2.f0)) || (!(((rd_T43 l0 x5_1).f2.f1) == ((rd_T43 l1 x5_1).f2.f1)))) || (!(((rd_T43 l0 x5_1).f3) == ((rd_T43 l1 x5_1).f3)))))) = true
       ·rw [if_pos c7] at H
        have c7b0 : (!(((rd_T43 l0 x5_1).f0) == ((rd_T43 l1 x5_1).f0)) || (!(((rd_T43 l0 x5_1).f1) == ((rd_T43 l1 x5_1).f1)) || ((!(((rd_T43 l0 x5_1).f2.f0) == ((rd_T43 l1 x5_1).f2.f0)) || (!(((rd_T43 l0 x5_1).f2.f1) == ((rd_T43 l1 x5_1).f2.f1)))) || (!(((rd_T43 l0 x5_1).f3) == ((rd_T43 l1 x5_1).f3)))))) = true := c7
        clear c7
        obtain rfl := Option.some.inj H
        have p133 : 0 ≤ (x5_1 : Int) := of_decide_eq_true (by first | (with_reducible assumption) | assumption)
        have q133 : x5_1 < (l0.length : Int) := of_decide_eq_true (by first | (with_reducible assumption) | assumption)
        obtain ⟨ad133, e133, hx133_0, hx133_1, hx133_2, hx133_3, hx133_4⟩ := at_T43 HR0.out x5_1 p133 q133
        cases e133
        replace p133 := eq_true p133
        replace q133 := eq_true q133
        have p134 : 0 ≤ (x5_1 : Int) := of_decide_eq_true (by first | (with_reducible assumption) | assumption)
        have q134 : x5_1 < (l1.length : Int) := of_decide_eq_true (by first | (with_reducible assumption) | assumption)
        obtain ⟨ad134, e134, hx134_0, hx134_1, hx134_2, hx134_3, hx134_4⟩ := at_T43 HR1.out x5_1 p134 q134
        cases e134
        replace p134 := eq_true p134
        replace q134 := eq_true q134
        go_wp2
        repeat (go_quiet (fail); try go_wp2)
        go_ret
        exact ⟨by first | rfl | (simp; done) | (simp [*]; done), by repeat (first | exact Drawn0.refl _ | apply Drawn0.step)⟩
       ·rw [if_neg c7] at H
        have c7b0 : (!(((rd_T43 l0 x5_1).f0) == ((rd_T43 l1 x5_1).f0)) || (!(((rd_T43 l0 x5_1).f1) == ((rd_T43 l1 x5_1).f1)) || ((!(((rd_T43 l0 x5_1).f2.f0) == ((rd_T43 l1 x5_1).f2.f0)) || (!(((rd_T43 l0 x5_1).f2.f1) == ((rd_T43 l1 x5_1).f2.f1)))) || (!(((rd_T43 l0 x5_1).f3) == ((rd_T43 l1 x5_1).f3)))))) = false := by simpa using c7
        clear c7
        have H' := Aside0.mk H
        clear H
        have p133 : 0 ≤ (x5_1 : Int) := of_decide_eq_true (by first | (with_reducible assumption) | assumption)
        have q133 : x5_1 < (l0.length : Int) := of_decide_eq_true (by first | (with_reducible assumption) | assumption)
        obtain ⟨ad133, e133, hx133_0, hx133_1, hx133_2, hx133_3, hx133_4⟩ := at_T43 HR0.out x5_1 p133 q133
        cases e133
        replace p133 := eq_true p133
        replace q133 := eq_true q133
        have p134 : 0 ≤ (x5_1 : Int) := of_decide_eq_true (by first | (with_reducible assumption) | assumption)
        have q134 : x5_1 < (l1.length : Int) := of_decide_eq_true (by first | (with_reducible assumption) | assumption)
        obtain ⟨ad134, e134, hx134_0, hx134_1, hx134_2, hx134_3, hx134_4⟩ := at_T43 HR1.out x5_1 p134 q134
        cases e134
        replace p134 := eq_true p134
        replace q134 := eq_true q134
        go_wp2
        repeat (go_quiet (fail); try go_wp2)
        go_roundg k1
        case measure => have := HK1.out; omega
        case rel => exact ⟨(wrap64 (x5_1 + 1)), (by first | rfl | (simp; done) | (simp [*]; done)), H', ⟨by have := HK1.out; omega⟩, by repeat (first | exact Drawn0.refl _ | apply Drawn0.step)⟩
      ·rw [if_neg c6] at H
       exact absurd H (by simp)
     ·rw [if_neg c5] at H
      exact absurd H (by simp)
    ·rw [if_neg c4] at H
     have c4b0 : decide (x5_1 < (l0.length : Int)) = false := decide_eq_false c4
     clear c4
     obtain rfl := Option.some.inj H
     go_wp2
     repeat (go_quiet (fail); try go_wp2)
     go_ret
     exact ⟨by first | rfl | (simp; done) | (simp [*]; done), by repeat (first | exact Drawn0.refl _ | apply Drawn0.step)⟩
 ·rw [if_neg c3] at H
  have c3b0 : ((l0.length : Int) == (l1.length : Int)) = false := beq_eq_false_iff_ne.mpr c3
  have c3b1 : ((l0.length : Int) != (l1.length : Int)) = true := bne_iff_ne.mpr c3
  have c3b2 : (l0.length == l1.length) = false := by first | simpa using c3 | (simp at c3 ⊢; omega)
  obtain rfl := Option.some.inj H
  go_enter Try.func27, Try.ntmps27
  go_wp2
  repeat (go_quiet (fail); try go_wp2)
  go_ret
  exact ⟨by first | rfl | (simp; done) | (simp [*]; done), by repeat (first | exact Drawn0.refl _ | apply Drawn0.step)⟩
end Go.Proofs.Ytbgchacafglcpaa.P
end
section
namespace Go.Proofs.Ytbgchacafglcpaa.P
open Go.RowKit Go.Proofs.YtbgchacafglcpaaW.PrintWords Go.Proofs.YtbgchacafglcpaaW.PrintLast Go.Proofs.YtbgchacafglcpaaW.PrintMore
attribute [local go_sem] max2_int min2_int max_two min_two max_three min_three max_four min_four
set_option linter.unusedVariables false
set_option linter.unusedSimpArgs false
def cohousinglaw29_head.f (k : Nat)  : Option (Bool) := (charges_Share.f 100 10 (([1, 2] : List Int)) (([(⟨3, 3⟩ : S38), (⟨2, 4⟩ : S38)] : List (S38)))).bind fun bt141 => ((charges_Share.f 100 10 (([1, 2] : List Int)) (([(⟨3, 3⟩ : S38), (⟨6, 10⟩ : S38)] : List (S38)))).bind fun bt152 => ((some (([(⟨1, 0, 2⟩ : S63), (⟨2, 1, 0⟩ : S63), (⟨3, 1, 0⟩ : S63)] : List (S63)) : List (S63))).bind fun y157 => ((charges_Network.f 100 y157 (([(⟨10, 10⟩ : S38), (⟨3, 5⟩ : S38), (⟨0, 100⟩ : S38)] : List (S38))) (([4, 7] : List Int))).bind fun bt166 => ((charges_Network.f 100 y157 (([(⟨9, 10⟩ : S38), (⟨3, 5⟩ : S38), (⟨0, 100⟩ : S38)] : List (S38))) (([4, 7] : List Int))).bind fun bt177 => (if bt141.2.2 = 0 then (if bt152.2.2 = 0 then (if bt166.2.2 = 0 then (if bt177.2.2 = 3 then (if bt141.2.1 = 40 then (if bt152.2.1 = 0 then (if bt166.2.1 = 10 then ((cohousingref29_Same.f k bt141.1 (([(⟨1, 30, (⟨30, 30⟩ : S38), true⟩ : S43), (⟨2, 30, (⟨20, 40⟩ : S38), false⟩ : S43)] : List (S43)))).bind fun t185 => (if t185 = true then ((cohousingref29_Same.f k bt152.1 (([(⟨1, 30, (⟨30, 30⟩ : S38), true⟩ : S43), (⟨2, 70, (⟨60, 100⟩ : S38), false⟩ : S43)] : List (S43)))).bind fun t189 => (if t189 = true then ((cohousingref29_Same.f k bt166.1 (([(⟨4, 40, (⟨30, 50⟩ : S38), false⟩ : S43), (⟨7, 50, (⟨30, 70⟩ : S38), false⟩ : S43)] : List (S43)))).bind fun t193 => (some t193)) else (some false))) else (some false))) else (some false)) else (some false)) else (some false)) else (some false)) else (some false)) else (some false)) else (some false))))))
def Held_ (p : Prop) : Prop := p
theorem held_ {p : Prop} (h : Held_ p) : p := h
theorem unheld_ {p : Prop} (h : p) : Held_ p := h
theorem cohousinglaw29_head.mono : ∀ k, LeO (cohousinglaw29_head.f k ) (cohousinglaw29_head.f (k + 1) ) := by
 intro  k
 unfold cohousinglaw29_head.f
 repeat' first
   | (with_reducible exact cohousingref29_Same.mono _ _ _)
   | (with_reducible exact LeO.refl _)
   | (with_reducible exact LeO.none _)
   | (with_reducible refine LeO.ite ?_ ?_)
   | (with_reducible refine LeO.bind ?_ (fun _ => ?_))
   | exact cohousingref29_Same.mono _ _ _
   | exact LeO.none _
   | refine LeO.ite ?_ ?_
   | refine LeO.bind ?_ (fun _ => ?_)
set_option maxHeartbeats 8000000 in
set_option maxRecDepth 100000 in
theorem cohousinglaw29_head.calls (k : Nat)  (r : Bool) (w : World) (h : cohousinglaw29_head.f k  = some r) :
  Calls Try.prog 20 #[] w fun e w' => e = .returned (.bool r) ∧ Below w.heap.size w w' := by
 have hu38 := Try.underlying38
 have hu63 := Try.underlying63
 have hu43 := Try.underlying43
 have HB := Aside0.mk (Below.refl w.heap.size w)
 have H : ((charges_Share.f 100 10 (([1, 2] : List Int)) (([(⟨3, 3⟩ : S38), (⟨2, 4⟩ : S38)] : List (S38)))).bind fun bt141 => ((charges_Share.f 100 10 (([1, 2] : List Int)) (([(⟨3, 3⟩ : S38), (⟨6, 10⟩ : S38)] : List (S38)))).bind fun bt152 => ((some (([(⟨1, 0, 2⟩ : S63), (⟨2, 1, 0⟩ : S63), (⟨3, 1, 0⟩ : S63)] : List (S63)) : List (S63))).bind fun y157 => ((charges_Network.f 100 y157 (([(⟨10, 10⟩ : S38), (⟨3, 5⟩ : S38), (⟨0, 100⟩ : S38)] : List (S38))) (([4, 7] : List Int))).bind fun bt166 => ((charges_Network.f 100 y157 (([(⟨9, 10⟩ : S38), (⟨3, 5⟩ : S38), (⟨0, 100⟩ : S38)] : List (S38))) (([4, 7] : List Int))).bind fun bt177 => (if bt141.2.2 = 0 then (if bt152.2.2 = 0 then (if bt166.2.2 = 0 then (if bt177.2.2 = 3 then (if bt141.2.1 = 40 then (if bt152.2.1 = 0 then (if bt166.2.1 = 10 then ((cohousingref29_Same.f k bt141.1 (([(⟨1, 30, (⟨30, 30⟩ : S38), true⟩ : S43), (⟨2, 30, (⟨20, 40⟩ : S38), false⟩ : S43)] : List (S43)))).bind fun t185 => (if t185 = true then ((cohousingref29_Same.f k bt152.1 (([(⟨1, 30, (⟨30, 30⟩ : S38), true⟩ : S43), (⟨2, 70, (⟨60, 100⟩ : S38), false⟩ : S43)] : List (S43)))).bind fun t189 => (if t189 = true then ((cohousingref29_Same.f k bt166.1 (([(⟨4, 40, (⟨30, 50⟩ : S38), false⟩ : S43), (⟨7, 50, (⟨30, 70⟩ : S38), false⟩ : S43)] : List (S43)))).bind fun t193 => (some t193)) else (some false))) else (some false))) else (some false)) else (some false)) else (some false)) else (some false)) else (some false)) else (some false)) else (some false))))))) = some r := h
 clear h
 obtain ⟨y135, hy135⟩ : ∃ y_ : List Int, y_ = (([1, 2] : List Int)) := ⟨_, rfl⟩
 replace H : ((charges_Share.f 100 10 y135 (([(⟨3, 3⟩ : S38), (⟨2, 4⟩ : S38)] : List (S38)))).bind fun bt141 => ((charges_Share.f 100 10 (([1, 2] : List Int)) (([(⟨3, 3⟩ : S38), (⟨6, 10⟩ : S38)] : List (S38)))).bind fun bt152 => ((some (([(⟨1, 0, 2⟩ : S63), (⟨2, 1, 0⟩ : S63), (⟨3, 1, 0⟩ : S63)] : List (S63)) : List (S63))).bind fun y157 => ((charges_Network.f 100 y157 (([(⟨10, 10⟩ : S38), (⟨3, 5⟩ : S38), (⟨0, 100⟩ : S38)] : List (S38))) (([4, 7] : List Int))).bind fun bt166 => ((charges_Network.f 100 y157 (([(⟨9, 10⟩ : S38), (⟨3, 5⟩ : S38), (⟨0, 100⟩ : S38)] : List (S38))) (([4, 7] : List Int))).bind fun bt177 => (if bt141.2.2 = 0 then (if bt152.2.2 = 0 then (if bt166.2.2 = 0 then (if bt177.2.2 = 3 then (if bt141.2.1 = 40 then (if bt152.2.1 = 0 then (if bt166.2.1 = 10 then ((cohousingref29_Same.f k bt141.1 (([(⟨1, 30, (⟨30, 30⟩ : S38), true⟩ : S43), (⟨2, 30, (⟨20, 40⟩ : S38), false⟩ : S43)] : List (S43)))).bind fun t185 => (if t185 = true then ((cohousingref29_Same.f k bt152.1 (([(⟨1, 30, (⟨30, 30⟩ : S38), true⟩ : S43), (⟨2, 70, (⟨60, 100⟩ : S38), false⟩ : S43)] : List (S43)))).bind fun t189 => (if t189 = true then ((cohousingref29_Same.f k bt166.1 (([(⟨4, 40, (⟨30, 50⟩ : S38), false⟩ : S43), (⟨7, 50, (⟨30, 70⟩ : S38), false⟩ : S43)] : List (S43)))).bind fun t193 => (some t193)) else (some false))) else (some false))) else (some false)) else (some false)) else (some false)) else (some false)) else (some false)) else (some false)) else (some false))))))) = some r := by first | (rw [hy135]; with_reducible exact H) | (have H2_ := (Option.bind_some _ _).symm.trans H; rw [hy135]; with_reducible exact H2_) | (have H2_ := (Option.bind_some _ _).symm.trans H; with_reducible exact H2_) | with_reducible exact H | (rw [hy135]; exact H) | exact H
 have Ny135 := Aside0.mk hy135
 clear hy135
 obtain ⟨y138, hy138⟩ : ∃ y_ : List (S38), y_ = (([(⟨3, 3⟩ : S38), (⟨2, 4⟩ : S38)] : List (S38))) := ⟨_, rfl⟩
 replace H : ((charges_Share.f 100 10 y135 y138).bind fun bt141 => ((charges_Share.f 100 10 (([1, 2] : List Int)) (([(⟨3, 3⟩ : S38), (⟨6, 10⟩ : S38)] : List (S38)))).bind fun bt152 => ((some (([(⟨1, 0, 2⟩ : S63), (⟨2, 1, 0⟩ : S63), (⟨3, 1, 0⟩ : S63)] : List (S63)) : List (S63))).bind fun y157 => ((charges_Network.f 100 y157 (([(⟨10, 10⟩ : S38), (⟨3, 5⟩ : S38), (⟨0, 100⟩ : S38)] : List (S38))) (([4, 7] : List Int))).bind fun bt166 => ((charges_Network.f 100 y157 (([(⟨9, 10⟩ : S38), (⟨3, 5⟩ : S38), (⟨0, 100⟩ : S38)] : List (S38))) (([4, 7] : List Int))).bind fun bt177 => (if bt141.2.2 = 0 then (if bt152.2.2 = 0 then (if bt166.2.2 = 0 then (if bt177.2.2 = 3 then (if bt141.2.1 = 40 then (if bt152.2.1 = 0 then (if bt166.2.1 = 10 then ((cohousingref29_Same.f k bt141.1 (([(⟨1, 30, (⟨30, 30⟩ : S38), true⟩ : S43), (⟨2, 30, (⟨20, 40⟩ : S38), false⟩ : S43)] : List (S43)))).bind fun t185 => (if t185 = true then ((cohousingref29_Same.f k bt152.1 (([(⟨1, 30, (⟨30, 30⟩ : S38), true⟩ : S43), (⟨2, 70, (⟨60, 100⟩ : S38), false⟩ : S43)] : List (S43)))).bind fun t189 => (if t189 = true then ((cohousingref29_Same.f k bt166.1 (([(⟨4, 40, (⟨30, 50⟩ : S38), false⟩ : S43), (⟨7, 50, (⟨30, 70⟩ : S38), false⟩ : S43)] : List (S43)))).bind fun t193 => (some t193)) else (some false))) else (some false))) else (some false)) else (some false)) else (some false)) else (some false)) else (some false)) else (some false)) else (some false))))))) = some r := by first | (rw [hy138]; with_reducible exact H) | (have H2_ := (Option.bind_some _ _).symm.trans H; rw [hy138]; with_reducible exact H2_) | (have H2_ := (Option.bind_some _ _).symm.trans H; with_reducible exact H2_) | with_reducible exact H | (rw [hy138]; exact H) | exact H
 have Ny138 := Aside0.mk hy138
 clear hy138
 replace H := Option.bind_eq_some_iff.mp H
 obtain ⟨⟨t141, t142, t143⟩, A10, H⟩ := H
 replace H : ((charges_Share.f 100 10 (([1, 2] : List Int)) (([(⟨3, 3⟩ : S38), (⟨6, 10⟩ : S38)] : List (S38)))).bind fun bt152 => ((some (([(⟨1, 0, 2⟩ : S63), (⟨2, 1, 0⟩ : S63), (⟨3, 1, 0⟩ : S63)] : List (S63)) : List (S63))).bind fun y157 => ((charges_Network.f 100 y157 (([(⟨10, 10⟩ : S38), (⟨3, 5⟩ : S38), (⟨0, 100⟩ : S38)] : List (S38))) (([4, 7] : List Int))).bind fun bt166 => ((charges_Network.f 100 y157 (([(⟨9, 10⟩ : S38), (⟨3, 5⟩ : S38), (⟨0, 100⟩ : S38)] : List (S38))) (([4, 7] : List Int))).bind fun bt177 => (if t143 = 0 then (if bt152.2.2 = 0 then (if bt166.2.2 = 0 then (if bt177.2.2 = 3 then (if t142 = 40 then (if bt152.2.1 = 0 then (if bt166.2.1 = 10 then ((cohousingref29_Same.f k t141 (([(⟨1, 30, (⟨30, 30⟩ : S38), true⟩ : S43), (⟨2, 30, (⟨20, 40⟩ : S38), false⟩ : S43)] : List (S43)))).bind fun t185 => (if t185 = true then ((cohousingref29_Same.f k bt152.1 (([(⟨1, 30, (⟨30, 30⟩ : S38), true⟩ : S43), (⟨2, 70, (⟨60, 100⟩ : S38), false⟩ : S43)] : List (S43)))).bind fun t189 => (if t189 = true then ((cohousingref29_Same.f k bt166.1 (([(⟨4, 40, (⟨30, 50⟩ : S38), false⟩ : S43), (⟨7, 50, (⟨30, 70⟩ : S38), false⟩ : S43)] : List (S43)))).bind fun t193 => (some t193)) else (some false))) else (some false))) else (some false)) else (some false)) else (some false)) else (some false)) else (some false)) else (some false)) else (some false)))))) = some r := H
 have A1 := Aside0.mk A10
 clear A10
 obtain ⟨y146, hy146⟩ : ∃ y_ : List Int, y_ = (([1, 2] : List Int)) := ⟨_, rfl⟩
 replace H : ((charges_Share.f 100 10 y146 (([(⟨3, 3⟩ : S38), (⟨6, 10⟩ : S38)] : List (S38)))).bind fun bt152 => ((some (([(⟨1, 0, 2⟩ : S63), (⟨2, 1, 0⟩ : S63), (⟨3, 1, 0⟩ : S63)] : List (S63)) : List (S63))).bind fun y157 => ((charges_Network.f 100 y157 (([(⟨10, 10⟩ : S38), (⟨3, 5⟩ : S38), (⟨0, 100⟩ : S38)] : List (S38))) (([4, 7] : List Int))).bind fun bt166 => ((charges_Network.f 100 y157 (([(⟨9, 10⟩ : S38), (⟨3, 5⟩ : S38), (⟨0, 100⟩ : S38)] : List (S38))) (([4, 7] : List Int))).bind fun bt177 => (if t143 = 0 then (if bt152.2.2 = 0 then (if bt166.2.2 = 0 then (if bt177.2.2 = 3 then (if t142 = 40 then (if bt152.2.1 = 0 then (if bt166.2.1 = 10 then ((cohousingref29_Same.f k t141 (([(⟨1, 30, (⟨30, 30⟩ : S38), true⟩ : S43), (⟨2, 30, (⟨20, 40⟩ : S38), false⟩ : S43)] : List (S43)))).bind fun t185 => (if t185 = true then ((cohousingref29_Same.f k bt152.1 (([(⟨1, 30, (⟨30, 30⟩ : S38), true⟩ : S43), (⟨2, 70, (⟨60, 100⟩ : S38), false⟩ : S43)] : List (S43)))).bind fun t189 => (if t189 = true then ((cohousingref29_Same.f k bt166.1 (([(⟨4, 40, (⟨30, 50⟩ : S38), false⟩ : S43), (⟨7, 50, (⟨30, 70⟩ : S38), false⟩ : S43)] : List (S43)))).bind fun t193 => (some t193)) else (some false))) else (some false))) else (some false)) else (some false)) else (some false)) else (some false)) else (some false)) else (some false)) else (some false)))))) = some r := by first | (rw [hy146]; with_reducible exact H) | (have H2_ := (Option.bind_some _ _).symm.trans H; rw [hy146]; with_reducible exact H2_) | (have H2_ := (Option.bind_some _ _).symm.trans H; with_reducible exact H2_) | with_reducible exact H | (rw [hy146]; exact H) | exact H
 have Ny146 := Aside0.mk hy146
 clear hy146
 obtain ⟨y149, hy149⟩ : ∃ y_ : List (S38), y_ = (([(⟨3, 3⟩ : S38), (⟨6, 10⟩ : S38)] : List (S38))) := ⟨_, rfl⟩
 replace H : ((charges_Share.f 100 10 y146 y149).bind fun bt152 => ((some (([(⟨1, 0, 2⟩ : S63), (⟨2, 1, 0⟩ : S63), (⟨3, 1, 0⟩ : S63)] : List (S63)) : List (S63))).bind fun y157 => ((charges_Network.f 100 y157 (([(⟨10, 10⟩ : S38), (⟨3, 5⟩ : S38), (⟨0, 100⟩ : S38)] : List (S38))) (([4, 7] : List Int))).bind fun bt166 => ((charges_Network.f 100 y157 (([(⟨9, 10⟩ : S38), (⟨3, 5⟩ : S38), (⟨0, 100⟩ : S38)] : List (S38))) (([4, 7] : List Int))).bind fun bt177 => (if t143 = 0 then (if bt152.2.2 = 0 then (if bt166.2.2 = 0 then (if bt177.2.2 = 3 then (if t142 = 40 then (if bt152.2.1 = 0 then (if bt166.2.1 = 10 then ((cohousingref29_Same.f k t141 (([(⟨1, 30, (⟨30, 30⟩ : S38), true⟩ : S43), (⟨2, 30, (⟨20, 40⟩ : S38), false⟩ : S43)] : List (S43)))).bind fun t185 => (if t185 = true then ((cohousingref29_Same.f k bt152.1 (([(⟨1, 30, (⟨30, 30⟩ : S38), true⟩ : S43), (⟨2, 70, (⟨60, 100⟩ : S38), false⟩ : S43)] : List (S43)))).bind fun t189 => (if t189 = true then ((cohousingref29_Same.f k bt166.1 (([(⟨4, 40, (⟨30, 50⟩ : S38), false⟩ : S43), (⟨7, 50, (⟨30, 70⟩ : S38), false⟩ : S43)] : List (S43)))).bind fun t193 => (some t193)) else (some false))) else (some false))) else (some false)) else (some false)) else (some false)) else (some false)) else (some false)) else (some false)) else (some false)))))) = some r := by first | (rw [hy149]; with_reducible exact H) | (have H2_ := (Option.bind_some _ _).symm.trans H; rw [hy149]; with_reducible exact H2_) | (have H2_ := (Option.bind_some _ _).symm.trans H; with_reducible exact H2_) | with_reducible exact H | (rw [hy149]; exact H) | exact H
 have Ny149 := Aside0.mk hy149
 clear hy149
 replace H := Option.bind_eq_some_iff.mp H
 obtain ⟨⟨t152, t153, t154⟩, A20, H⟩ := H
 replace H : ((some (([(⟨1, 0, 2⟩ : S63), (⟨2, 1, 0⟩ : S63), (⟨3, 1, 0⟩ : S63)] : List (S63)) : List (S63))).bind fun y157 => ((charges_Network.f 100 y157 (([(⟨10, 10⟩ : S38), (⟨3, 5⟩ : S38), (⟨0, 100⟩ : S38)] : List (S38))) (([4, 7] : List Int))).bind fun bt166 => ((charges_Network.f 100 y157 (([(⟨9, 10⟩ : S38), (⟨3, 5⟩ : S38), (⟨0, 100⟩ : S38)] : List (S38))) (([4, 7] : List Int))).bind fun bt177 => (if t143 = 0 then (if t154 = 0 then (if bt166.2.2 = 0 then (if bt177.2.2 = 3 then (if t142 = 40 then (if t153 = 0 then (if bt166.2.1 = 10 then ((cohousingref29_Same.f k t141 (([(⟨1, 30, (⟨30, 30⟩ : S38), true⟩ : S43), (⟨2, 30, (⟨20, 40⟩ : S38), false⟩ : S43)] : List (S43)))).bind fun t185 => (if t185 = true then ((cohousingref29_Same.f k t152 (([(⟨1, 30, (⟨30, 30⟩ : S38), true⟩ : S43), (⟨2, 70, (⟨60, 100⟩ : S38), false⟩ : S43)] : List (S43)))).bind fun t189 => (if t189 = true then ((cohousingref29_Same.f k bt166.1 (([(⟨4, 40, (⟨30, 50⟩ : S38), false⟩ : S43), (⟨7, 50, (⟨30, 70⟩ : S38), false⟩ : S43)] : List (S43)))).bind fun t193 => (some t193)) else (some false))) else (some false))) else (some false)) else (some false)) else (some false)) else (some false)) else (some false)) else (some false)) else (some false))))) = some r := H
 have A2 := Aside0.mk A20
 clear A20
 obtain ⟨y157, hy157⟩ : ∃ y_ : List (S63), y_ = (([(⟨1, 0, 2⟩ : S63), (⟨2, 1, 0⟩ : S63), (⟨3, 1, 0⟩ : S63)] : List (S63))) := ⟨_, rfl⟩
 replace H : ((charges_Network.f 100 y157 (([(⟨10, 10⟩ : S38), (⟨3, 5⟩ : S38), (⟨0, 100⟩ : S38)] : List (S38))) (([4, 7] : List Int))).bind fun bt166 => ((charges_Network.f 100 y157 (([(⟨9, 10⟩ : S38), (⟨3, 5⟩ : S38), (⟨0, 100⟩ : S38)] : List (S38))) (([4, 7] : List Int))).bind fun bt177 => (if t143 = 0 then (if t154 = 0 then (if bt166.2.2 = 0 then (if bt177.2.2 = 3 then (if t142 = 40 then (if t153 = 0 then (if bt166.2.1 = 10 then ((cohousingref29_Same.f k t141 (([(⟨1, 30, (⟨30, 30⟩ : S38), true⟩ : S43), (⟨2, 30, (⟨20, 40⟩ : S38), false⟩ : S43)] : List (S43)))).bind fun t185 => (if t185 = true then ((cohousingref29_Same.f k t152 (([(⟨1, 30, (⟨30, 30⟩ : S38), true⟩ : S43), (⟨2, 70, (⟨60, 100⟩ : S38), false⟩ : S43)] : List (S43)))).bind fun t189 => (if t189 = true then ((cohousingref29_Same.f k bt166.1 (([(⟨4, 40, (⟨30, 50⟩ : S38), false⟩ : S43), (⟨7, 50, (⟨30, 70⟩ : S38), false⟩ : S43)] : List (S43)))).bind fun t193 => (some t193)) else (some false))) else (some false))) else (some false)) else (some false)) else (some false)) else (some false)) else (some false)) else (some false)) else (some false)))) = some r := by first | (rw [hy157]; with_reducible exact H) | (have H2_ := (Option.bind_some _ _).symm.trans H; rw [hy157]; with_reducible exact H2_) | (have H2_ := (Option.bind_some _ _).symm.trans H; with_reducible exact H2_) | with_reducible exact H | (rw [hy157]; exact H) | exact H
 have Ny157 := Aside0.mk hy157
 clear hy157
 obtain ⟨y160, hy160⟩ : ∃ y_ : List (S38), y_ = (([(⟨10, 10⟩ : S38), (⟨3, 5⟩ : S38), (⟨0, 100⟩ : S38)] : List (S38))) := ⟨_, rfl⟩
 replace H : ((charges_Network.f 100 y157 y160 (([4, 7] : List Int))).bind fun bt166 => ((charges_Network.f 100 y157 (([(⟨9, 10⟩ : S38), (⟨3, 5⟩ : S38), (⟨0, 100⟩ : S38)] : List (S38))) (([4, 7] : List Int))).bind fun bt177 => (if t143 = 0 then (if t154 = 0 then (if bt166.2.2 = 0 then (if bt177.2.2 = 3 then (if t142 = 40 then (if t153 = 0 then (if bt166.2.1 = 10 then ((cohousingref29_Same.f k t141 (([(⟨1, 30, (⟨30, 30⟩ : S38), true⟩ : S43), (⟨2, 30, (⟨20, 40⟩ : S38), false⟩ : S43)] : List (S43)))).bind fun t185 => (if t185 = true then ((cohousingref29_Same.f k t152 (([(⟨1, 30, (⟨30, 30⟩ : S38), true⟩ : S43), (⟨2, 70, (⟨60, 100⟩ : S38), false⟩ : S43)] : List (S43)))).bind fun t189 => (if t189 = true then ((cohousingref29_Same.f k bt166.1 (([(⟨4, 40, (⟨30, 50⟩ : S38), false⟩ : S43), (⟨7, 50, (⟨30, 70⟩ : S38), false⟩ : S43)] : List (S43)))).bind fun t193 => (some t193)) else (some false))) else (some false))) else (some false)) else (some false)) else (some false)) else (some false)) else (some false)) else (some false)) else (some false)))) = some r := by first | (rw [hy160]; with_reducible exact H) | (have H2_ := (Option.bind_some _ _).symm.trans H; rw [hy160]; with_reducible exact H2_) | (have H2_ := (Option.bind_some _ _).symm.trans H; with_reducible exact H2_) | with_reducible exact H | (rw [hy160]; exact H) | exact H
 have Ny160 := Aside0.mk hy160
 clear hy160
 obtain ⟨y163, hy163⟩ : ∃ y_ : List Int, y_ = (([4, 7] : List Int)) := ⟨_, rfl⟩
 replace H : ((charges_Network.f 100 y157 y160 y163).bind fun bt166 => ((charges_Network.f 100 y157 (([(⟨9, 10⟩ : S38), (⟨3, 5⟩ : S38), (⟨0, 100⟩ : S38)] : List (S38))) (([4, 7] : List Int))).bind fun bt177 => (if t143 = 0 then (if t154 = 0 then (if bt166.2.2 = 0 then (if bt177.2.2 = 3 then (if t142 = 40 then (if t153 = 0 then (if bt166.2.1 = 10 then ((cohousingref29_Same.f k t141 (([(⟨1, 30, (⟨30, 30⟩ : S38), true⟩ : S43), (⟨2, 30, (⟨20, 40⟩ : S38), false⟩ : S43)] : List (S43)))).bind fun t185 => (if t185 = true then ((cohousingref29_Same.f k t152 (([(⟨1, 30, (⟨30, 30⟩ : S38), true⟩ : S43), (⟨2, 70, (⟨60, 100⟩ : S38), false⟩ : S43)] : List (S43)))).bind fun t189 => (if t189 = true then ((cohousingref29_Same.f k bt166.1 (([(⟨4, 40, (⟨30, 50⟩ : S38), false⟩ : S43), (⟨7, 50, (⟨30, 70⟩ : S38), false⟩ : S43)] : List (S43)))).bind fun t193 => (some t193)) else (some false))) else (some false))) else (some false)) else (some false)) else (some false)) else (some false)) else (some false)) else (some false)) else (some false)))) = some r := by first | (rw [hy163]; with_reducible exact H) | (have H2_ := (Option.bind_some _ _).symm.trans H; rw [hy163]; with_reducible exact H2_) | (have H2_ := (Option.bind_some _ _).symm.trans H; with_reducible exact H2_) | with_reducible exact H | (rw [hy163]; exact H) | exact H
 have Ny163 := Aside0.mk hy163
 clear hy163
 replace H := Option.bind_eq_some_iff.mp H
 obtain ⟨⟨t166, t167, t168⟩, A30, H⟩ := H
 replace H : ((charges_Network.f 100 y157 (([(⟨9, 10⟩ : S38), (⟨3, 5⟩ : S38), (⟨0, 100⟩ : S38)] : List (S38))) (([4, 7] : List Int))).bind fun bt177 => (if t143 = 0 then (if t154 = 0 then (if t168 = 0 then (if bt177.2.2 = 3 then (if t142 = 40 then (if t153 = 0 then (if t167 = 10 then ((cohousingref29_Same.f k t141 (([(⟨1, 30, (⟨30, 30⟩ : S38), true⟩ : S43), (⟨2, 30, (⟨20, 40⟩ : S38), false⟩ : S43)] : List (S43)))).bind fun t185 => (if t185 = true then ((cohousingref29_Same.f k t152 (([(⟨1, 30, (⟨30, 30⟩ : S38), true⟩ : S43), (⟨2, 70, (⟨60, 100⟩ : S38), false⟩ : S43)] : List (S43)))).bind fun t189 => (if t189 = true then ((cohousingref29_Same.f k t166 (([(⟨4, 40, (⟨30, 50⟩ : S38), false⟩ : S43), (⟨7, 50, (⟨30, 70⟩ : S38), false⟩ : S43)] : List (S43)))).bind fun t193 => (some t193)) else (some false))) else (some false))) else (some false)) else (some false)) else (some false)) else (some false)) else (some false)) else (some false)) else (some false))) = some r := H
 have A3 := Aside0.mk A30
 clear A30
 obtain ⟨y171, hy171⟩ : ∃ y_ : List (S38), y_ = (([(⟨9, 10⟩ : S38), (⟨3, 5⟩ : S38), (⟨0, 100⟩ : S38)] : List (S38))) := ⟨_, rfl⟩
 replace H : ((charges_Network.f 100 y157 y171 (([4, 7] : List Int))).bind fun bt177 => (if t143 = 0 then (if t154 = 0 then (if t168 = 0 then (if bt177.2.2 = 3 then (if t142 = 40 then (if t153 = 0 then (if t167 = 10 then ((cohousingref29_Same.f k t141 (([(⟨1, 30, (⟨30, 30⟩ : S38), true⟩ : S43), (⟨2, 30, (⟨20, 40⟩ : S38), false⟩ : S43)] : List (S43)))).bind fun t185 => (if t185 = true then ((cohousingref29_Same.f k t152 (([(⟨1, 30, (⟨30, 30⟩ : S38), true⟩ : S43), (⟨2, 70, (⟨60, 100⟩ : S38), false⟩ : S43)] : List (S43)))).bind fun t189 => (if t189 = true then ((cohousingref29_Same.f k t166 (([(⟨4, 40, (⟨30, 50⟩ : S38), false⟩ : S43), (⟨7, 50, (⟨30, 70⟩ : S38), false⟩ : S43)] : List (S43)))).bind fun t193 => (some t193)) else (some false))) else (some false))) else (some false)) else (some false)) else (some false)) else (some false)) else (some false)) else (some false)) else (some false))) = some r := by first | (rw [hy171]; with_reducible exact H) | (have H2_ := (Option.bind_some _ _).symm.trans H; rw [hy171]; with_reducible exact H2_) | (have H2_ := (Option.bind_some _ _).symm.trans H; with_reducible exact H2_) | with_reducible exact H | (rw [hy171]; exact H) | exact H
 have Ny171 := Aside0.mk hy171
 clear hy171
 obtain ⟨y174, hy174⟩ : ∃ y_ : List Int, y_ = (([4, 7] : List Int)) := ⟨_, rfl⟩
 replace H : ((charges_Network.f 100 y157 y171 y174).bind fun bt177 => (if t143 = 0 then (if t154 = 0 then (if t168 = 0 then (if bt177.2.2 = 3 then (if t142 = 40 then (if t153 = 0 then (if t167 = 10 then ((cohousingref29_Same.f k t141 (([(⟨1, 30, (⟨30, 30⟩ : S38), true⟩ : S43), (⟨2, 30, (⟨20, 40⟩ : S38), false⟩ : S43)] : List (S43)))).bind fun t185 => (if t185 = true then ((cohousingref29_Same.f k t152 (([(⟨1, 30, (⟨30, 30⟩ : S38), true⟩ : S43), (⟨2, 70, (⟨60, 100⟩ : S38), false⟩ : S43)] : List (S43)))).bind fun t189 => (if t189 = true then ((cohousingref29_Same.f k t166 (([(⟨4, 40, (⟨30, 50⟩ : S38), false⟩ : S43), (⟨7, 50, (⟨30, 70⟩ : S38), false⟩ : S43)] : List (S43)))).bind fun t193 => (some t193)) else (some false))) else (some false))) else (some false)) else (some false)) else (some false)) else (some false)) else (some false)) else (some false)) else (some false))) = some r := by first | (rw [hy174]; with_reducible exact H) | (have H2_ := (Option.bind_some _ _).symm.trans H; rw [hy174]; with_reducible exact H2_) | (have H2_ := (Option.bind_some _ _).symm.trans H; with_reducible exact H2_) | with_reducible exact H | (rw [hy174]; exact H) | exact H
 have Ny174 := Aside0.mk hy174
 clear hy174
 replace H := Option.bind_eq_some_iff.mp H
 obtain ⟨⟨t177, t178, t179⟩, A40, H⟩ := H
 replace H : (if t143 = 0 then (if t154 = 0 then (if t168 = 0 then (if t179 = 3 then (if t142 = 40 then (if t153 = 0 then (if t167 = 10 then ((cohousingref29_Same.f k t141 (([(⟨1, 30, (⟨30, 30⟩ : S38), true⟩ : S43), (⟨2, 30, (⟨20, 40⟩ : S38), false⟩ : S43)] : List (S43)))).bind fun t185 => (if t185 = true then ((cohousingref29_Same.f k t152 (([(⟨1, 30, (⟨30, 30⟩ : S38), true⟩ : S43), (⟨2, 70, (⟨60, 100⟩ : S38), false⟩ : S43)] : List (S43)))).bind fun t189 => (if t189 = true then ((cohousingref29_Same.f k t166 (([(⟨4, 40, (⟨30, 50⟩ : S38), false⟩ : S43), (⟨7, 50, (⟨30, 70⟩ : S38), false⟩ : S43)] : List (S43)))).bind fun t193 => (some t193)) else (some false))) else (some false))) else (some false)) else (some false)) else (some false)) else (some false)) else (some false)) else (some false)) else (some false)) = some r := H
 have A4 := Aside0.mk A40
 clear A40
 go_enter Try.func20, Try.ntmps20
 go_wp2_with (first | ((with_reducible refine gate_dst (N := 16) rfl ?_); (try (refine gate_guard (by rfl) ?_; dsimp only)); refine Kd.R_lit (Kd.int .i64) _ 3 ?hg (N := 16) ?hd (xs := ([1, 2] : List Int)) (inner := [.int .i64 1, .int .i64 2]) (ok := fun _ => True) (okp := fun _ => True) ?hr ?hp (fun _ hk => hk) trivial (Below.refl _ _) (Nat.le_refl _) (by simp) ?_; (case hd => rfl); (case hg => rfl); (case hr => first | (go_simp; done) | (go_simp; rfl)); (case hp => exact (Reps.one (show Kd.M (Kd.int .i64) _ _ _ 1 [.int .i64 1] from rfl) (Reps.one (show Kd.M (Kd.int .i64) _ _ _ 2 [.int .i64 2] from rfl) (Reps.none _ _)))); intro v136 w17 ho18 hb hg_ hnew_; clear hg_ hnew_; (first | rw [← Ny135.out] at ho18 | (simp only [Int.reduceToNat] at ho18; rw [← Ny135.out] at ho18)); have n0_ := Aside0.mk (Kd.R_lower ho18 (below_size (by repeat (first | (with_reducible first | exact HB.out | apply below_alloc | apply pw_below_drewN | apply below_drew1) | exact HB.out)))); have n1_ := Aside0.mk (below_step (by repeat (first | (with_reducible first | exact HB.out | apply below_alloc | apply pw_below_drewN | apply below_drew1) | exact HB.out)) hb); clear HB; have HO137 := n0_; have HB := n1_; clear n0_ n1_; clear hb ho18) | ((with_reducible refine gate_dst (N := 19) rfl ?_); (try (refine gate_guard (by rfl) ?_; dsimp only)); refine Kd.R_lit k38 _ 38 ?hg (N := 19) ?hd (xs := ([(⟨3, 3⟩ : S38), (⟨2, 4⟩ : S38)] : List (S38))) (inner := [.int .i64 3, .int .i64 3, .int .i64 2, .int .i64 4]) (ok := fun _ => True) (okp := fun _ => True) ?hr ?hp (fun _ hk => hk) trivial (Below.refl _ _) (Nat.le_refl _) (by simp) ?_; (case hd => rfl); (case hg => rfl); (case hr => first | (go_simp; done) | (go_simp; rfl)); (case hp => exact (Reps.c2 (show Kd.M k38 _ _ _ (⟨3, 3⟩ : S38) [.int .i64 3, .int .i64 3] from (k38_mkM _ _ _ (⟨3, 3⟩ : S38) )) (Reps.c2 (show Kd.M k38 _ _ _ (⟨2, 4⟩ : S38) [.int .i64 2, .int .i64 4] from (k38_mkM _ _ _ (⟨2, 4⟩ : S38) )) (Reps.none _ _)))); intro v139 w19 ho20 hb hg_ hnew_; clear hg_ hnew_; (first | rw [← Ny138.out] at ho20 | (simp only [Int.reduceToNat] at ho20; rw [← Ny138.out] at ho20)); have n0_ := Aside0.mk (Kd.R_below (by (with_reducible repeat (first | apply Kd.R_alloc | apply Kd.R_drewN | apply Kd.R_drew)); exact HO137.out) hb); have n1_ := Aside0.mk (Kd.R_lower ho20 (below_size (by repeat (first | (with_reducible first | exact HB.out | apply below_alloc | apply pw_below_drewN | apply below_drew1) | exact HB.out)))); have n2_ := Aside0.mk (below_step (by repeat (first | (with_reducible first | exact HB.out | apply below_alloc | apply pw_below_drewN | apply below_drew1) | exact HB.out)) hb); clear HO137; clear HB; have HO137 := n0_; have HO140 := n1_; have HB := n2_; clear n0_ n1_ n2_; clear hb ho20; obtain ⟨Ao21, co21, eo21⟩ := Kd.R_slice HO137.out; subst eo21; obtain ⟨Ao22, co22, eo22⟩ := Kd.R_slice HO140.out; subst eo22) | ((with_reducible refine gate_callee (f := 25) rfl ?_); refine goesL_ (some 20) rfl rfl Try.func25 (by kernel_rfl) rfl #[.int .i64 100, .int .i64 10, .slice Ao21 y135.length co21, .slice Ao22 y138.length co22] rfl (by (try simp only [List.map_toArray, List.map_cons, List.map_nil]); first | done | rfl | (simp only [List.length_drop, List.length_take]; rfl)) ?_; (with_reducible refine (charges_Share.calls 100 10 _ _ y135 _ _ y138 t141 t142 t143 _ ?side1 ?side2 ?side3 ?side4 A1.out).mono ?_); (case side1 => repeat (first | exact (Kd.R_reads' HO137.out).2.2 | (with_reducible refine Kd.C_alloc ?_ _) | (with_reducible refine Kd.C_drewN ?_ _) | (with_reducible refine Kd.C_drew ?_))); (case side2 => exact (Kd.R_reads' HO137.out).2.1); (case side3 => repeat (first | exact (Kd.R_reads' HO140.out).2.2 | (with_reducible refine Kd.C_alloc ?_ _) | (with_reducible refine Kd.C_drewN ?_ _) | (with_reducible refine Kd.C_drew ?_))); (case side4 => exact (Kd.R_reads' HO140.out).2.1); rintro e w23 ⟨v144, rfl, ho0, hb⟩; refine ⟨_, rfl, ?_⟩; have n0_ := Aside0.mk (Kd.R_below (by (with_reducible repeat (first | apply Kd.R_alloc | apply Kd.R_drewN | apply Kd.R_drew)); exact HO137.out) hb); have n1_ := Aside0.mk (Kd.R_below (by (with_reducible repeat (first | apply Kd.R_alloc | apply Kd.R_drewN | apply Kd.R_drew)); exact HO140.out) hb); have n2_ := Aside0.mk (Kd.R_lower ho0 (below_size (by repeat (first | (with_reducible first | exact HB.out | apply below_alloc | apply pw_below_drewN | apply below_drew1) | exact HB.out)))); have n3_ := Aside0.mk (below_step (by repeat (first | (with_reducible first | exact HB.out | apply below_alloc | apply pw_below_drewN | apply below_drew1) | exact HB.out)) hb); clear HO137; clear HO140; clear HB; have HO137 := n0_; have HO140 := n1_; have HO145 := n2_; have HB := n3_; clear n0_ n1_ n2_ n3_; (try clear hb); (try clear hb2); (try clear hk); (try clear hi); (try clear ho0)) | ((with_reducible refine gate_dst (N := 25) rfl ?_); (try (refine gate_guard (by rfl) ?_; dsimp only)); refine Kd.R_lit (Kd.int .i64) _ 3 ?hg (N := 25) ?hd (xs := ([1, 2] : List Int)) (inner := [.int .i64 1, .int .i64 2]) (ok := fun _ => True) (okp := fun _ => True) ?hr ?hp (fun _ hk => hk) trivial (Below.refl _ _) (Nat.le_refl _) (by simp) ?_; (case hd => rfl); (case hg => rfl); (case hr => first | (go_simp; done) | (go_simp; rfl)); (case hp => exact (Reps.one (show Kd.M (Kd.int .i64) _ _ _ 1 [.int .i64 1] from rfl) (Reps.one (show Kd.M (Kd.int .i64) _ _ _ 2 [.int .i64 2] from rfl) (Reps.none _ _)))); intro v147 w24 ho25 hb hg_ hnew_; clear hg_ hnew_; (first | rw [← Ny146.out] at ho25 | (simp only [Int.reduceToNat] at ho25; rw [← Ny146.out] at ho25)); have n0_ := Aside0.mk (Kd.R_elder' (by (with_reducible repeat (first | apply Kd.R_alloc | apply Kd.R_drewN | apply Kd.R_drew)); exact HO137.out) (Kd.R_base ho25) hb); have n1_ := Aside0.mk (Kd.R_below (by (with_reducible repeat (first | apply Kd.R_alloc | apply Kd.R_drewN | apply Kd.R_drew)); exact HO140.out) hb); have n2_ := Aside0.mk (Kd.R_below (by (with_reducible repeat (first | apply Kd.R_alloc | apply Kd.R_drewN | apply Kd.R_drew)); exact HO145.out) hb); have n3_ := Aside0.mk (Kd.R_lower (Kd.R_new' ho25 (Kd.R_lt (by (with_reducible repeat (first | apply Kd.R_alloc | apply Kd.R_drewN | apply Kd.R_drew)); exact HO137.out))) (below_size (by repeat (first | (with_reducible first | exact HB.out | apply below_alloc | apply pw_below_drewN | apply below_drew1) | exact HB.out)))); have n4_ := Aside0.mk (below_step (by repeat (first | (with_reducible first | exact HB.out | apply below_alloc | apply pw_below_drewN | apply below_drew1) | exact HB.out)) hb); clear HO137; clear HO140; clear HO145; clear HB; have HO137 := n0_; have HO140 := n1_; have HO145 := n2_; have HO148 := n3_; have HB := n4_; clear n0_ n1_ n2_ n3_ n4_; clear hb ho25) | ((with_reducible refine gate_dst (N := 28) rfl ?_); (try (refine gate_guard (by rfl) ?_; dsimp only)); refine Kd.R_lit k38 _ 38 ?hg (N := 28) ?hd (xs := ([(⟨3, 3⟩ : S38), (⟨6, 10⟩ : S38)] : List (S38))) (inner := [.int .i64 3, .int .i64 3, .int .i64 6, .int .i64 10]) (ok := fun _ => True) (okp := fun _ => True) ?hr ?hp (fun _ hk => hk) trivial (Below.refl _ _) (Nat.le_refl _) (by simp) ?_; (case hd => rfl); (case hg => rfl); (case hr => first | (go_simp; done) | (go_simp; rfl)); (case hp => exact (Reps.c2 (show Kd.M k38 _ _ _ (⟨3, 3⟩ : S38) [.int .i64 3, .int .i64 3] from (k38_mkM _ _ _ (⟨3, 3⟩ : S38) )) (Reps.c2 (show Kd.M k38 _ _ _ (⟨6, 10⟩ : S38) [.int .i64 6, .int .i64 10] from (k38_mkM _ _ _ (⟨6, 10⟩ : S38) )) (Reps.none _ _)))); intro v150 w26 ho27 hb hg_ hnew_; clear hg_ hnew_; (first | rw [← Ny149.out] at ho27 | (simp only [Int.reduceToNat] at ho27; rw [← Ny149.out] at ho27)); have n0_ := Aside0.mk (Kd.R_below (by (with_reducible repeat (first | apply Kd.R_alloc | apply Kd.R_drewN | apply Kd.R_drew)); exact HO137.out) hb); have n1_ := Aside0.mk (Kd.R_elder' (by (with_reducible repeat (first | apply Kd.R_alloc | apply Kd.R_drewN | apply Kd.R_drew)); exact HO140.out) (Kd.R_base ho27) hb); have n2_ := Aside0.mk (Kd.R_below (by (with_reducible repeat (first | apply Kd.R_alloc | apply Kd.R_drewN | apply Kd.R_drew)); exact HO145.out) hb); have n3_ := Aside0.mk (Kd.R_below (by (with_reducible repeat (first | apply Kd.R_alloc | apply Kd.R_drewN | apply Kd.R_drew)); exact HO148.out) hb); have n4_ := Aside0.mk (Kd.R_lower (Kd.R_new' ho27 (Kd.R_lt (by (with_reducible repeat (first | apply Kd.R_alloc | apply Kd.R_drewN | apply Kd.R_drew)); exact HO140.out))) (below_size (by repeat (first | (with_reducible first | exact HB.out | apply below_alloc | apply pw_below_drewN | apply below_drew1) | exact HB.out)))); have n5_ := Aside0.mk (below_step (by repeat (first | (with_reducible first | exact HB.out | apply below_alloc | apply pw_below_drewN | apply below_drew1) | exact HB.out)) hb); clear HO137; clear HO140; clear HO145; clear HO148; clear HB; have HO137 := n0_; have HO140 := n1_; have HO145 := n2_; have HO148 := n3_; have HO151 := n4_; have HB := n5_; clear n0_ n1_ n2_ n3_ n4_ n5_; clear hb ho27; obtain ⟨Ao28, co28, eo28⟩ := Kd.R_slice HO148.out; subst eo28; obtain ⟨Ao29, co29, eo29⟩ := Kd.R_slice HO151.out; subst eo29) | ((with_reducible refine gate_callee (f := 25) rfl ?_); refine goesL_ (some 29) rfl rfl Try.func25 (by kernel_rfl) rfl #[.int .i64 100, .int .i64 10, .slice Ao28 y146.length co28, .slice Ao29 y149.length co29] rfl (by (try simp only [List.map_toArray, List.map_cons, List.map_nil]); first | done | rfl | (simp only [List.length_drop, List.length_take]; rfl)) ?_; (with_reducible refine (charges_Share.calls 100 10 _ _ y146 _ _ y149 t152 t153 t154 _ ?side1 ?side2 ?side3 ?side4 A2.out).mono ?_); (case side1 => repeat (first | exact (Kd.R_reads' HO148.out).2.2 | (with_reducible refine Kd.C_alloc ?_ _) | (with_reducible refine Kd.C_drewN ?_ _) | (with_reducible refine Kd.C_drew ?_))); (case side2 => exact (Kd.R_reads' HO148.out).2.1); (case side3 => repeat (first | exact (Kd.R_reads' HO151.out).2.2 | (with_reducible refine Kd.C_alloc ?_ _) | (with_reducible refine Kd.C_drewN ?_ _) | (with_reducible refine Kd.C_drew ?_))); (case side4 => exact (Kd.R_reads' HO151.out).2.1); rintro e w30 ⟨v155, rfl, ho0, hb⟩; refine ⟨_, rfl, ?_⟩; have n0_ := Aside0.mk (Kd.R_below (by (with_reducible repeat (first | apply Kd.R_alloc | apply Kd.R_drewN | apply Kd.R_drew)); exact HO137.out) hb); have n1_ := Aside0.mk (Kd.R_below (by (with_reducible repeat (first | apply Kd.R_alloc | apply Kd.R_drewN | apply Kd.R_drew)); exact HO140.out) hb); have n2_ := Aside0.mk (Kd.R_elder' (by (with_reducible repeat (first | apply Kd.R_alloc | apply Kd.R_drewN | apply Kd.R_drew)); exact HO145.out) (Kd.R_base ho0) hb); have n3_ := Aside0.mk (Kd.R_below (by (with_reducible repeat (first | apply Kd.R_alloc | apply Kd.R_drewN | apply Kd.R_drew)); exact HO148.out) hb); have n4_ := Aside0.mk (Kd.R_below (by (with_reducible repeat (first | apply Kd.R_alloc | apply Kd.R_drewN | apply Kd.R_drew)); exact HO151.out) hb); have n5_ := Aside0.mk (Kd.R_lower (Kd.R_new' ho0 (Kd.R_lt (by (with_reducible repeat (first | apply Kd.R_alloc | apply Kd.R_drewN | apply Kd.R_drew)); exact HO145.out))) (below_size (by repeat (first | (with_reducible first | exact HB.out | apply below_alloc | apply pw_below_drewN | apply below_drew1) | exact HB.out)))); have n6_ := Aside0.mk (below_step (by repeat (first | (with_reducible first | exact HB.out | apply below_alloc | apply pw_below_drewN | apply below_drew1) | exact HB.out)) hb); clear HO137; clear HO140; clear HO145; clear HO148; clear HO151; clear HB; have HO137 := n0_; have HO140 := n1_; have HO145 := n2_; have HO148 := n3_; have HO151 := n4_; have HO156 := n5_; have HB := n6_; clear n0_ n1_ n2_ n3_ n4_ n5_ n6_; (try clear hb); (try clear hb2); (try clear hk); (try clear hi); (try clear ho0)) | ((with_reducible refine gate_dst (N := 36) rfl ?_); (try (refine gate_guard (by rfl) ?_; dsimp only)); refine Kd.R_lit k63 _ 63 ?hg (N := 36) ?hd (xs := ([(⟨1, 0, 2⟩ : S63), (⟨2, 1, 0⟩ : S63), (⟨3, 1, 0⟩ : S63)] : List (S63))) (inner := [.int .i64 1, .int .i64 0, .int .i64 2, .int .i64 2, .int .i64 1, .int .i64 0, .int .i64 3, .int .i64 1, .int .i64 0]) (ok := fun _ => True) (okp := fun _ => True) ?hr ?hp (fun _ hk => hk) trivial (Below.refl _ _) (Nat.le_refl _) (by simp) ?_; (case hd => rfl); (case hg => rfl); (case hr => first | (go_simp; done) | (go_simp; rfl)); (case hp => exact (Reps.c3 (show Kd.M k63 _ _ _ (⟨1, 0, 2⟩ : S63) [.int .i64 1, .int .i64 0, .int .i64 2] from (k63_mkM _ _ _ (⟨1, 0, 2⟩ : S63) )) (Reps.c3 (show Kd.M k63 _ _ _ (⟨2, 1, 0⟩ : S63) [.int .i64 2, .int .i64 1, .int .i64 0] from (k63_mkM _ _ _ (⟨2, 1, 0⟩ : S63) )) (Reps.c3 (show Kd.M k63 _ _ _ (⟨3, 1, 0⟩ : S63) [.int .i64 3, .int .i64 1, .int .i64 0] from (k63_mkM _ _ _ (⟨3, 1, 0⟩ : S63) )) (Reps.none _ _))))); intro v158 w31 ho32 hb hg_ hnew_; clear hg_ hnew_; (first | rw [← Ny157.out] at ho32 | (simp only [Int.reduceToNat] at ho32; rw [← Ny157.out] at ho32)); have n0_ := Aside0.mk (Kd.R_below (by (with_reducible repeat (first | apply Kd.R_alloc | apply Kd.R_drewN | apply Kd.R_drew)); exact HO137.out) hb); have n1_ := Aside0.mk (Kd.R_below (by (with_reducible repeat (first | apply Kd.R_alloc | apply Kd.R_drewN | apply Kd.R_drew)); exact HO140.out) hb); have n2_ := Aside0.mk (Kd.R_below (by (with_reducible repeat (first | apply Kd.R_alloc | apply Kd.R_drewN | apply Kd.R_drew)); exact HO145.out) hb); have n3_ := Aside0.mk (Kd.R_below (by (with_reducible repeat (first | apply Kd.R_alloc | apply Kd.R_drewN | apply Kd.R_drew)); exact HO148.out) hb); have n4_ := Aside0.mk (Kd.R_below (by (with_reducible repeat (first | apply Kd.R_alloc | apply Kd.R_drewN | apply Kd.R_drew)); exact HO151.out) hb); have n5_ := Aside0.mk (Kd.R_below (by (with_reducible repeat (first | apply Kd.R_alloc | apply Kd.R_drewN | apply Kd.R_drew)); exact HO156.out) hb); have n6_ := Aside0.mk (Kd.R_lower ho32 (below_size (by repeat (first | (with_reducible first | exact HB.out | apply below_alloc | apply pw_below_drewN | apply below_drew1) | exact HB.out)))); have n7_ := Aside0.mk (below_step (by repeat (first | (with_reducible first | exact HB.out | apply below_alloc | apply pw_below_drewN | apply below_drew1) | exact HB.out)) hb); clear HO137; clear HO140; clear HO145; clear HO148; clear HO151; clear HO156; clear HB; have HO137 := n0_; have HO140 := n1_; have HO145 := n2_; have HO148 := n3_; have HO151 := n4_; have HO156 := n5_; have HO159 := n6_; have HB := n7_; clear n0_ n1_ n2_ n3_ n4_ n5_ n6_ n7_; clear hb ho32) | ((with_reducible refine gate_dst (N := 42) rfl ?_); (try (refine gate_guard (by rfl) ?_; dsimp only)); refine Kd.R_lit k38 _ 38 ?hg (N := 42) ?hd (xs := ([(⟨10, 10⟩ : S38), (⟨3, 5⟩ : S38), (⟨0, 100⟩ : S38)] : List (S38))) (inner := [.int .i64 10, .int .i64 10, .int .i64 3, .int .i64 5, .int .i64 0, .int .i64 100]) (ok := fun _ => True) (okp := fun _ => True) ?hr ?hp (fun _ hk => hk) trivial (Below.refl _ _) (Nat.le_refl _) (by simp) ?_; (case hd => rfl); (case hg => rfl); (case hr => first | (go_simp; done) | (go_simp; rfl)); (case hp => exact (Reps.c2 (show Kd.M k38 _ _ _ (⟨10, 10⟩ : S38) [.int .i64 10, .int .i64 10] from (k38_mkM _ _ _ (⟨10, 10⟩ : S38) )) (Reps.c2 (show Kd.M k38 _ _ _ (⟨3, 5⟩ : S38) [.int .i64 3, .int .i64 5] from (k38_mkM _ _ _ (⟨3, 5⟩ : S38) )) (Reps.c2 (show Kd.M k38 _ _ _ (⟨0, 100⟩ : S38) [.int .i64 0, .int .i64 100] from (k38_mkM _ _ _ (⟨0, 100⟩ : S38) )) (Reps.none _ _))))); intro v161 w33 ho34 hb hg_ hnew_; clear hg_ hnew_; (first | rw [← Ny160.out] at ho34 | (simp only [Int.reduceToNat] at ho34; rw [← Ny160.out] at ho34)); have n0_ := Aside0.mk (Kd.R_below (by (with_reducible repeat (first | apply Kd.R_alloc | apply Kd.R_drewN | apply Kd.R_drew)); exact HO137.out) hb); have n1_ := Aside0.mk (Kd.R_elder' (by (with_reducible repeat (first | apply Kd.R_alloc | apply Kd.R_drewN | apply Kd.R_drew)); exact HO140.out) (Kd.R_base ho34) hb); have n2_ := Aside0.mk (Kd.R_below (by (with_reducible repeat (first | apply Kd.R_alloc | apply Kd.R_drewN | apply Kd.R_drew)); exact HO145.out) hb); have n3_ := Aside0.mk (Kd.R_below (by (with_reducible repeat (first | apply Kd.R_alloc | apply Kd.R_drewN | apply Kd.R_drew)); exact HO148.out) hb); have n4_ := Aside0.mk (Kd.R_elder' (by (with_reducible repeat (first | apply Kd.R_alloc | apply Kd.R_drewN | apply Kd.R_drew)); exact HO151.out) (Kd.R_base ho34) hb); have n5_ := Aside0.mk (Kd.R_below (by (with_reducible repeat (first | apply Kd.R_alloc | apply Kd.R_drewN | apply Kd.R_drew)); exact HO156.out) hb); have n6_ := Aside0.mk (Kd.R_below (by (with_reducible repeat (first | apply Kd.R_alloc | apply Kd.R_drewN | apply Kd.R_drew)); exact HO159.out) hb); have n7_ := Aside0.mk (Kd.R_lower (Kd.R_new' (Kd.R_new' ho34 (Kd.R_lt (by (with_reducible repeat (first | apply Kd.R_alloc | apply Kd.R_drewN | apply Kd.R_drew)); exact HO140.out))) (Kd.R_lt (by (with_reducible repeat (first | apply Kd.R_alloc | apply Kd.R_drewN | apply Kd.R_drew)); exact HO151.out))) (below_size (by repeat (first | (with_reducible first | exact HB.out | apply below_alloc | apply pw_below_drewN | apply below_drew1) | exact HB.out)))); have n8_ := Aside0.mk (below_step (by repeat (first | (with_reducible first | exact HB.out | apply below_alloc | apply pw_below_drewN | apply below_drew1) | exact HB.out)) hb); clear HO137; clear HO140; clear HO145; clear HO148; clear HO151; clear HO156; clear HO159; clear HB; have HO137 := n0_; have HO140 := n1_; have HO145 := n2_; have HO148 := n3_; have HO151 := n4_; have HO156 := n5_; have HO159 := n6_; have HO162 := n7_; have HB := n8_; clear n0_ n1_ n2_ n3_ n4_ n5_ n6_ n7_ n8_; clear hb ho34) | ((with_reducible refine gate_dst (N := 43) rfl ?_); (try (refine gate_guard (by rfl) ?_; dsimp only)); refine Kd.R_lit (Kd.int .i64) _ 3 ?hg (N := 43) ?hd (xs := ([4, 7] : List Int)) (inner := [.int .i64 4, .int .i64 7]) (ok := fun _ => True) (okp := fun _ => True) ?hr ?hp (fun _ hk => hk) trivial (Below.refl _ _) (Nat.le_refl _) (by simp) ?_; (case hd => rfl); (case hg => rfl); (case hr => first | (go_simp; done) | (go_simp; rfl)); (case hp => exact (Reps.one (show Kd.M (Kd.int .i64) _ _ _ 4 [.int .i64 4] from rfl) (Reps.one (show Kd.M (Kd.int .i64) _ _ _ 7 [.int .i64 7] from rfl) (Reps.none _ _)))); intro v164 w35 ho36 hb hg_ hnew_; clear hg_ hnew_; (first | rw [← Ny163.out] at ho36 | (simp only [Int.reduceToNat] at ho36; rw [← Ny163.out] at ho36)); have n0_ := Aside0.mk (Kd.R_elder' (by (with_reducible repeat (first | apply Kd.R_alloc | apply Kd.R_drewN | apply Kd.R_drew)); exact HO137.out) (Kd.R_base ho36) hb); have n1_ := Aside0.mk (Kd.R_below (by (with_reducible repeat (first | apply Kd.R_alloc | apply Kd.R_drewN | apply Kd.R_drew)); exact HO140.out) hb); have n2_ := Aside0.mk (Kd.R_below (by (with_reducible repeat (first | apply Kd.R_alloc | apply Kd.R_drewN | apply Kd.R_drew)); exact HO145.out) hb); have n3_ := Aside0.mk (Kd.R_elder' (by (with_reducible repeat (first | apply Kd.R_alloc | apply Kd.R_drewN | apply Kd.R_drew)); exact HO148.out) (Kd.R_base ho36) hb); have n4_ := Aside0.mk (Kd.R_below (by (with_reducible repeat (first | apply Kd.R_alloc | apply Kd.R_drewN | apply Kd.R_drew)); exact HO151.out) hb); have n5_ := Aside0.mk (Kd.R_below (by (with_reducible repeat (first | apply Kd.R_alloc | apply Kd.R_drewN | apply Kd.R_drew)); exact HO156.out) hb); have n6_ := Aside0.mk (Kd.R_below (by (with_reducible repeat (first | apply Kd.R_alloc | apply Kd.R_drewN | apply Kd.R_drew)); exact HO159.out) hb); have n7_ := Aside0.mk (Kd.R_below (by (with_reducible repeat (first | apply Kd.R_alloc | apply Kd.R_drewN | apply Kd.R_drew)); exact HO162.out) hb); have n8_ := Aside0.mk (Kd.R_lower (Kd.R_new' (Kd.R_new' ho36 (Kd.R_lt (by (with_reducible repeat (first | apply Kd.R_alloc | apply Kd.R_drewN | apply Kd.R_drew)); exact HO137.out))) (Kd.R_lt (by (with_reducible repeat (first | apply Kd.R_alloc | apply Kd.R_drewN | apply Kd.R_drew)); exact HO148.out))) (below_size (by repeat (first | (with_reducible first | exact HB.out | apply below_alloc | apply pw_below_drewN | apply below_drew1) | exact HB.out)))); have n9_ := Aside0.mk (below_step (by repeat (first | (with_reducible first | exact HB.out | apply below_alloc | apply pw_below_drewN | apply below_drew1) | exact HB.out)) hb); clear HO137; clear HO140; clear HO145; clear HO148; clear HO151; clear HO156; clear HO159; clear HO162; clear HB; have HO137 := n0_; have HO140 := n1_; have HO145 := n2_; have HO148 := n3_; have HO151 := n4_; have HO156 := n5_; have HO159 := n6_; have HO162 := n7_; have HO165 := n8_; have HB := n9_; clear n0_ n1_ n2_ n3_ n4_ n5_ n6_ n7_ n8_ n9_; clear hb ho36; obtain ⟨Ao37, co37, eo37⟩ := Kd.R_slice HO159.out; subst eo37; obtain ⟨Ao38, co38, eo38⟩ := Kd.R_slice HO162.out; subst eo38; obtain ⟨Ao39, co39, eo39⟩ := Kd.R_slice HO165.out; subst eo39) | ((with_reducible refine gate_callee (f := 14) rfl ?_); refine goesL_ (some 44) rfl rfl Try.func14 (by kernel_rfl) rfl #[.int .i64 100, .slice Ao37 y157.length co37, .slice Ao38 y160.length co38, .slice Ao39 y163.length co39] rfl (by (try simp only [List.map_toArray, List.map_cons, List.map_nil]); first | done | rfl | (simp only [List.length_drop, List.length_take]; rfl)) ?_; (with_reducible refine (charges_Network.calls 100 _ _ y157 _ _ y160 _ _ y163 t166 t167 t168 _ ?side1 ?side2 ?side3 ?side4 ?side5 ?side6 A3.out).mono ?_); (case side1 => repeat (first | exact (Kd.R_reads' HO159.out).2.2 | (with_reducible refine Kd.C_alloc ?_ _) | (with_reducible refine Kd.C_drewN ?_ _) | (with_reducible refine Kd.C_drew ?_))); (case side2 => exact (Kd.R_reads' HO159.out).2.1); (case side3 => repeat (first | exact (Kd.R_reads' HO162.out).2.2 | (with_reducible refine Kd.C_alloc ?_ _) | (with_reducible refine Kd.C_drewN ?_ _) | (with_reducible refine Kd.C_drew ?_))); (case side4 => exact (Kd.R_reads' HO162.out).2.1); (case side5 => repeat (first | exact (Kd.R_reads' HO165.out).2.2 | (with_reducible refine Kd.C_alloc ?_ _) | (with_reducible refine Kd.C_drewN ?_ _) | (with_reducible refine Kd.C_drew ?_))); (case side6 => exact (Kd.R_reads' HO165.out).2.1); rintro e w40 ⟨v169, rfl, ho0, hb⟩; refine ⟨_, rfl, ?_⟩; have n0_ := Aside0.mk (Kd.R_below (by (with_reducible repeat (first | apply Kd.R_alloc | apply Kd.R_drewN | apply Kd.R_drew)); exact HO137.out) hb); have n1_ := Aside0.mk (Kd.R_below (by (with_reducible repeat (first | apply Kd.R_alloc | apply Kd.R_drewN | apply Kd.R_drew)); exact HO140.out) hb); have n2_ := Aside0.mk (Kd.R_elder' (by (with_reducible repeat (first | apply Kd.R_alloc | apply Kd.R_drewN | apply Kd.R_drew)); exact HO145.out) (Kd.R_base ho0) hb); have n3_ := Aside0.mk (Kd.R_below (by (with_reducible repeat (first | apply Kd.R_alloc | apply Kd.R_drewN | apply Kd.R_drew)); exact HO148.out) hb); have n4_ := Aside0.mk (Kd.R_below (by (with_reducible repeat (first | apply Kd.R_alloc | apply Kd.R_drewN | apply Kd.R_drew)); exact HO151.out) hb); have n5_ := Aside0.mk (Kd.R_elder' (by (with_reducible repeat (first | apply Kd.R_alloc | apply Kd.R_drewN | apply Kd.R_drew)); exact HO156.out) (Kd.R_base ho0) hb); have n6_ := Aside0.mk (Kd.R_below (by (with_reducible repeat (first | apply Kd.R_alloc | apply Kd.R_drewN | apply Kd.R_drew)); exact HO159.out) hb); have n7_ := Aside0.mk (Kd.R_below (by (with_reducible repeat (first | apply Kd.R_alloc | apply Kd.R_drewN | apply Kd.R_drew)); exact HO162.out) hb); have n8_ := Aside0.mk (Kd.R_below (by (with_reducible repeat (first | apply Kd.R_alloc | apply Kd.R_drewN | apply Kd.R_drew)); exact HO165.out) hb); have n9_ := Aside0.mk (Kd.R_lower (Kd.R_new' (Kd.R_new' ho0 (Kd.R_lt (by (with_reducible repeat (first | apply Kd.R_alloc | apply Kd.R_drewN | apply Kd.R_drew)); exact HO145.out))) (Kd.R_lt (by (with_reducible repeat (first | apply Kd.R_alloc | apply Kd.R_drewN | apply Kd.R_drew)); exact HO156.out))) (below_size (by repeat (first | (with_reducible first | exact HB.out | apply below_alloc | apply pw_below_drewN | apply below_drew1) | exact HB.out)))); have n10_ := Aside0.mk (below_step (by repeat (first | (with_reducible first | exact HB.out | apply below_alloc | apply pw_below_drewN | apply below_drew1) | exact HB.out)) hb); clear HO137; clear HO140; clear HO145; clear HO148; clear HO151; clear HO156; clear HO159; clear HO162; clear HO165; clear HB; have HO137 := n0_; have HO140 := n1_; have HO145 := n2_; have HO148 := n3_; have HO151 := n4_; have HO156 := n5_; have HO159 := n6_; have HO162 := n7_; have HO165 := n8_; have HO170 := n9_; have HB := n10_; clear n0_ n1_ n2_ n3_ n4_ n5_ n6_ n7_ n8_ n9_ n10_; (try clear hb); (try clear hb2); (try clear hk); (try clear hi); (try clear ho0)) | ((with_reducible refine gate_dst (N := 53) rfl ?_); (try (refine gate_guard (by rfl) ?_; dsimp only)); refine Kd.R_lit k38 _ 38 ?hg (N := 53) ?hd (xs := ([(⟨9, 10⟩ : S38), (⟨3, 5⟩ : S38), (⟨0, 100⟩ : S38)] : List (S38))) (inner := [.int .i64 9, .int .i64 10, .int .i64 3, .int .i64 5, .int .i64 0, .int .i64 100]) (ok := fun _ => True) (okp := fun _ => True) ?hr ?hp (fun _ hk => hk) trivial (Below.refl _ _) (Nat.le_refl _) (by simp) ?_; (case hd => rfl); (case hg => rfl); (case hr => first | (go_simp; done) | (go_simp; rfl)); (case hp => exact (Reps.c2 (show Kd.M k38 _ _ _ (⟨9, 10⟩ : S38) [.int .i64 9, .int .i64 10] from (k38_mkM _ _ _ (⟨9, 10⟩ : S38) )) (Reps.c2 (show Kd.M k38 _ _ _ (⟨3, 5⟩ : S38) [.int .i64 3, .int .i64 5] from (k38_mkM _ _ _ (⟨3, 5⟩ : S38) )) (Reps.c2 (show Kd.M k38 _ _ _ (⟨0, 100⟩ : S38) [.int .i64 0, .int .i64 100] from (k38_mkM _ _ _ (⟨0, 100⟩ : S38) )) (Reps.none _ _))))); intro v172 w41 ho42 hb hg_ hnew_; clear hg_ hnew_; (first | rw [← Ny171.out] at ho42 | (simp only [Int.reduceToNat] at ho42; rw [← Ny171.out] at ho42)); have n0_ := Aside0.mk (Kd.R_below (by (with_reducible repeat (first | apply Kd.R_alloc | apply Kd.R_drewN | apply Kd.R_drew)); exact HO137.out) hb); have n1_ := Aside0.mk (Kd.R_elder' (by (with_reducible repeat (first | apply Kd.R_alloc | apply Kd.R_drewN | apply Kd.R_drew)); exact HO140.out) (Kd.R_base ho42) hb); have n2_ := Aside0.mk (Kd.R_below (by (with_reducible repeat (first | apply Kd.R_alloc | apply Kd.R_drewN | apply Kd.R_drew)); exact HO145.out) hb); have n3_ := Aside0.mk (Kd.R_below (by (with_reducible repeat (first | apply Kd.R_alloc | apply Kd.R_drewN | apply Kd.R_drew)); exact HO148.out) hb); have n4_ := Aside0.mk (Kd.R_elder' (by (with_reducible repeat (first | apply Kd.R_alloc | apply Kd.R_drewN | apply Kd.R_drew)); exact HO151.out) (Kd.R_base ho42) hb); have n5_ := Aside0.mk (Kd.R_below (by (with_reducible repeat (first | apply Kd.R_alloc | apply Kd.R_drewN | apply Kd.R_drew)); exact HO156.out) hb); have n6_ := Aside0.mk (Kd.R_below (by (with_reducible repeat (first | apply Kd.R_alloc | apply Kd.R_drewN | apply Kd.R_drew)); exact HO159.out) hb); have n7_ := Aside0.mk (Kd.R_elder' (by (with_reducible repeat (first | apply Kd.R_alloc | apply Kd.R_drewN | apply Kd.R_drew)); exact HO162.out) (Kd.R_base ho42) hb); have n8_ := Aside0.mk (Kd.R_below (by (with_reducible repeat (first | apply Kd.R_alloc | apply Kd.R_drewN | apply Kd.R_drew)); exact HO165.out) hb); have n9_ := Aside0.mk (Kd.R_below (by (with_reducible repeat (first | apply Kd.R_alloc | apply Kd.R_drewN | apply Kd.R_drew)); exact HO170.out) hb); have n10_ := Aside0.mk (Kd.R_lower (Kd.R_new' (Kd.R_new' (Kd.R_new' ho42 (Kd.R_lt (by (with_reducible repeat (first | apply Kd.R_alloc | apply Kd.R_drewN | apply Kd.R_drew)); exact HO140.out))) (Kd.R_lt (by (with_reducible repeat (first | apply Kd.R_alloc | apply Kd.R_drewN | apply Kd.R_drew)); exact HO151.out))) (Kd.R_lt (by (with_reducible repeat (first | apply Kd.R_alloc | apply Kd.R_drewN | apply Kd.R_drew)); exact HO162.out))) (below_size (by repeat (first | (with_reducible first | exact HB.out | apply below_alloc | apply pw_below_drewN | apply below_drew1) | exact HB.out)))); have n11_ := Aside0.mk (below_step (by repeat (first | (with_reducible first | exact HB.out | apply below_alloc | apply pw_below_drewN | apply below_drew1) | exact HB.out)) hb); clear HO137; clear HO140; clear HO145; clear HO148; clear HO151; clear HO156; clear HO159; clear HO162; clear HO165; clear HO170; clear HB; have HO137 := n0_; have HO140 := n1_; have HO145 := n2_; have HO148 := n3_; have HO151 := n4_; have HO156 := n5_; have HO159 := n6_; have HO162 := n7_; have HO165 := n8_; have HO170 := n9_; have HO173 := n10_; have HB := n11_; clear n0_ n1_ n2_ n3_ n4_ n5_ n6_ n7_ n8_ n9_ n10_ n11_; clear hb ho42) | ((with_reducible refine gate_dst (N := 54) rfl ?_); (try (refine gate_guard (by rfl) ?_; dsimp only)); refine Kd.R_lit (Kd.int .i64) _ 3 ?hg (N := 54) ?hd (xs := ([4, 7] : List Int)) (inner := [.int .i64 4, .int .i64 7]) (ok := fun _ => True) (okp := fun _ => True) ?hr ?hp (fun _ hk => hk) trivial (Below.refl _ _) (Nat.le_refl _) (by simp) ?_; (case hd => rfl); (case hg => rfl); (case hr => first | (go_simp; done) | (go_simp; rfl)); (case hp => exact (Reps.one (show Kd.M (Kd.int .i64) _ _ _ 4 [.int .i64 4] from rfl) (Reps.one (show Kd.M (Kd.int .i64) _ _ _ 7 [.int .i64 7] from rfl) (Reps.none _ _)))); intro v175 w43 ho44 hb hg_ hnew_; clear hg_ hnew_; (first | rw [← Ny174.out] at ho44 | (simp only [Int.reduceToNat] at ho44; rw [← Ny174.out] at ho44)); have n0_ := Aside0.mk (Kd.R_elder' (by (with_reducible repeat (first | apply Kd.R_alloc | apply Kd.R_drewN | apply Kd.R_drew)); exact HO137.out) (Kd.R_base ho44) hb); have n1_ := Aside0.mk (Kd.R_below (by (with_reducible repeat (first | apply Kd.R_alloc | apply Kd.R_drewN | apply Kd.R_drew)); exact HO140.out) hb); have n2_ := Aside0.mk (Kd.R_below (by (with_reducible repeat (first | apply Kd.R_alloc | apply Kd.R_drewN | apply Kd.R_drew)); exact HO145.out) hb); have n3_ := Aside0.mk (Kd.R_elder' (by (with_reducible repeat (first | apply Kd.R_alloc | apply Kd.R_drewN | apply Kd.R_drew)); exact HO148.out) (Kd.R_base ho44) hb); have n4_ := Aside0.mk (Kd.R_below (by (with_reducible repeat (first | apply Kd.R_alloc | apply Kd.R_drewN | apply Kd.R_drew)); exact HO151.out) hb); have n5_ := Aside0.mk (Kd.R_below (by (with_reducible repeat (first | apply Kd.R_alloc | apply Kd.R_drewN | apply Kd.R_drew)); exact HO156.out) hb); have n6_ := Aside0.mk (Kd.R_below (by (with_reducible repeat (first | apply Kd.R_alloc | apply Kd.R_drewN | apply Kd.R_drew)); exact HO159.out) hb); have n7_ := Aside0.mk (Kd.R_below (by (with_reducible repeat (first | apply Kd.R_alloc | apply Kd.R_drewN | apply Kd.R_drew)); exact HO162.out) hb); have n8_ := Aside0.mk (Kd.R_elder' (by (with_reducible repeat (first | apply Kd.R_alloc | apply Kd.R_drewN | apply Kd.R_drew)); exact HO165.out) (Kd.R_base ho44) hb); have n9_ := Aside0.mk (Kd.R_below (by (with_reducible repeat (first | apply Kd.R_alloc | apply Kd.R_drewN | apply Kd.R_drew)); exact HO170.out) hb); have n10_ := Aside0.mk (Kd.R_below (by (with_reducible repeat (first | apply Kd.R_alloc | apply Kd.R_drewN | apply Kd.R_drew)); exact HO173.out) hb); have n11_ := Aside0.mk (Kd.R_lower (Kd.R_new' (Kd.R_new' (Kd.R_new' ho44 (Kd.R_lt (by (with_reducible repeat (first | apply Kd.R_alloc | apply Kd.R_drewN | apply Kd.R_drew)); exact HO137.out))) (Kd.R_lt (by (with_reducible repeat (first | apply Kd.R_alloc | apply Kd.R_drewN | apply Kd.R_drew)); exact HO148.out))) (Kd.R_lt (by (with_reducible repeat (first | apply Kd.R_alloc | apply Kd.R_drewN | apply Kd.R_drew)); exact HO165.out))) (below_size (by repeat (first | (with_reducible first | exact HB.out | apply below_alloc | apply pw_below_drewN | apply below_drew1) | exact HB.out)))); have n12_ := Aside0.mk (below_step (by repeat (first | (with_reducible first | exact HB.out | apply below_alloc | apply pw_below_drewN | apply below_drew1) | exact HB.out)) hb); clear HO137; clear HO140; clear HO145; clear HO148; clear HO151; clear HO156; clear HO159; clear HO162; clear HO165; clear HO170; clear HO173; clear HB; have HO137 := n0_; have HO140 := n1_; have HO145 := n2_; have HO148 := n3_; have HO151 := n4_; have HO156 := n5_; have HO159 := n6_; have HO162 := n7_; have HO165 := n8_; have HO170 := n9_; have HO173 := n10_; have HO176 := n11_; have HB := n12_; clear n0_ n1_ n2_ n3_ n4_ n5_ n6_ n7_ n8_ n9_ n10_ n11_ n12_; clear hb ho44; obtain ⟨Ao45, co45, eo45⟩ := Kd.R_slice HO173.out; subst eo45; obtain ⟨Ao46, co46, eo46⟩ := Kd.R_slice HO176.out; subst eo46) | ((with_reducible refine gate_callee (f := 14) rfl ?_); refine goesL_ (some 55) rfl rfl Try.func14 (by kernel_rfl) rfl #[.int .i64 100, .slice Ao37 y157.length co37, .slice Ao45 y171.length co45, .slice Ao46 y174.length co46] rfl (by (try simp only [List.map_toArray, List.map_cons, List.map_nil]); first | done | rfl | (simp only [List.length_drop, List.length_take]; rfl)) ?_; (with_reducible refine (charges_Network.calls 100 _ _ y157 _ _ y171 _ _ y174 t177 t178 t179 _ ?side1 ?side2 ?side3 ?side4 ?side5 ?side6 A4.out).mono ?_); (case side1 => repeat (first | exact (Kd.R_reads' HO159.out).2.2 | (with_reducible refine Kd.C_alloc ?_ _) | (with_reducible refine Kd.C_drewN ?_ _) | (with_reducible refine Kd.C_drew ?_))); (case side2 => exact (Kd.R_reads' HO159.out).2.1); (case side3 => repeat (first | exact (Kd.R_reads' HO173.out).2.2 | (with_reducible refine Kd.C_alloc ?_ _) | (with_reducible refine Kd.C_drewN ?_ _) | (with_reducible refine Kd.C_drew ?_))); (case side4 => exact (Kd.R_reads' HO173.out).2.1); (case side5 => repeat (first | exact (Kd.R_reads' HO176.out).2.2 | (with_reducible refine Kd.C_alloc ?_ _) | (with_reducible refine Kd.C_drewN ?_ _) | (with_reducible refine Kd.C_drew ?_))); (case side6 => exact (Kd.R_reads' HO176.out).2.1); rintro e w47 ⟨v180, rfl, ho0, hb⟩; refine ⟨_, rfl, ?_⟩; have n0_ := Aside0.mk (Kd.R_below (by (with_reducible repeat (first | apply Kd.R_alloc | apply Kd.R_drewN | apply Kd.R_drew)); exact HO137.out) hb); have n1_ := Aside0.mk (Kd.R_below (by (with_reducible repeat (first | apply Kd.R_alloc | apply Kd.R_drewN | apply Kd.R_drew)); exact HO140.out) hb); have n2_ := Aside0.mk (Kd.R_elder' (by (with_reducible repeat (first | apply Kd.R_alloc | apply Kd.R_drewN | apply Kd.R_drew)); exact HO145.out) (Kd.R_base ho0) hb); have n3_ := Aside0.mk (Kd.R_below (by (with_reducible repeat (first | apply Kd.R_alloc | apply Kd.R_drewN | apply Kd.R_drew)); exact HO148.out) hb); have n4_ := Aside0.mk (Kd.R_below (by (with_reducible repeat (first | apply Kd.R_alloc | apply Kd.R_drewN | apply Kd.R_drew)); exact HO151.out) hb); have n5_ := Aside0.mk (Kd.R_elder' (by (with_reducible repeat (first | apply Kd.R_alloc | apply Kd.R_drewN | apply Kd.R_drew)); exact HO156.out) (Kd.R_base ho0) hb); have n6_ := Aside0.mk (Kd.R_below (by (with_reducible repeat (first | apply Kd.R_alloc | apply Kd.R_drewN | apply Kd.R_drew)); exact HO159.out) hb); have n7_ := Aside0.mk (Kd.R_below (by (with_reducible repeat (first | apply Kd.R_alloc | apply Kd.R_drewN | apply Kd.R_drew)); exact HO162.out) hb); have n8_ := Aside0.mk (Kd.R_below (by (with_reducible repeat (first | apply Kd.R_alloc | apply Kd.R_drewN | apply Kd.R_drew)); exact HO165.out) hb); have n9_ := Aside0.mk (Kd.R_elder' (by (with_reducible repeat (first | apply Kd.R_alloc | apply Kd.R_drewN | apply Kd.R_drew)); exact HO170.out) (Kd.R_base ho0) hb); have n10_ := Aside0.mk (Kd.R_below (by (with_reducible repeat (first | apply Kd.R_alloc | apply Kd.R_drewN | apply Kd.R_drew)); exact HO173.out) hb); have n11_ := Aside0.mk (Kd.R_below (by (with_reducible repeat (first | apply Kd.R_alloc | apply Kd.R_drewN | apply Kd.R_drew)); exact HO176.out) hb); have n12_ := Aside0.mk (Kd.R_lower (Kd.R_new' (Kd.R_new' (Kd.R_new' ho0 (Kd.R_lt (by (with_reducible repeat (first | apply Kd.R_alloc | apply Kd.R_drewN | apply Kd.R_drew)); exact HO145.out))) (Kd.R_lt (by (with_reducible repeat (first | apply Kd.R_alloc | apply Kd.R_drewN | apply Kd.R_drew)); exact HO156.out))) (Kd.R_lt (by (with_reducible repeat (first | apply Kd.R_alloc | apply Kd.R_drewN | apply Kd.R_drew)); exact HO170.out))) (below_size (by repeat (first | (with_reducible first | exact HB.out | apply below_alloc | apply pw_below_drewN | apply below_drew1) | exact HB.out)))); have n13_ := Aside0.mk (below_step (by repeat (first | (with_reducible first | exact HB.out | apply below_alloc | apply pw_below_drewN | apply below_drew1) | exact HB.out)) hb); clear HO137; clear HO140; clear HO145; clear HO148; clear HO151; clear HO156; clear HO159; clear HO162; clear HO165; clear HO170; clear HO173; clear HO176; clear HB; have HO137 := n0_; have HO140 := n1_; have HO145 := n2_; have HO148 := n3_; have HO151 := n4_; have HO156 := n5_; have HO159 := n6_; have HO162 := n7_; have HO165 := n8_; have HO170 := n9_; have HO173 := n10_; have HO176 := n11_; have HO181 := n12_; have HB := n13_; clear n0_ n1_ n2_ n3_ n4_ n5_ n6_ n7_ n8_ n9_ n10_ n11_ n12_ n13_; (try clear hb); (try clear hb2); (try clear hk); (try clear hi); (try clear ho0); refine held_ ?_))
 by_cases c5 : t143 = 0
 ·rw [if_pos c5] at H
  have c5b0 : (t143 == 0) = true := beq_iff_eq.mpr c5
  have c5b1 : (t143 != 0) = false := bne_eq_false_iff_eq.mpr c5
  clear c5
  by_cases c6 : t154 = 0
  ·rw [if_pos c6] at H
   have c6b0 : (t154 == 0) = true := beq_iff_eq.mpr c6
   have c6b1 : (t154 != 0) = false := bne_eq_false_iff_eq.mpr c6
   clear c6
   by_cases c7 : t168 = 0
   ·rw [if_pos c7] at H
    have c7b0 : (t168 == 0) = true := beq_iff_eq.mpr c7
    have c7b1 : (t168 != 0) = false := bne_eq_false_iff_eq.mpr c7
    clear c7
    by_cases c8 : t179 = 3
    ·rw [if_pos c8] at H
     have c8b0 : (t179 == 3) = true := beq_iff_eq.mpr c8
     have c8b1 : (t179 != 3) = false := bne_eq_false_iff_eq.mpr c8
     clear c8
     by_cases c9 : t142 = 40
     ·rw [if_pos c9] at H
      have c9b0 : (t142 == 40) = true := beq_iff_eq.mpr c9
      have c9b1 : (t142 != 40) = false := bne_eq_false_iff_eq.mpr c9
      clear c9
      by_cases c10 : t153 = 0
      ·rw [if_pos c10] at H
       have c10b0 : (t153 == 0) = true := beq_iff_eq.mpr c10
       have c10b1 : (t153 != 0) = false := bne_eq_false_iff_eq.mpr c10
       clear c10
       by_cases c11 : t167 = 10
       ·rw [if_pos c11] at H
        have c11b0 : (t167 == 10) = true := beq_iff_eq.mpr c11
        have c11b1 : (t167 != 10) = false := bne_eq_false_iff_eq.mpr c11
        clear c11
        obtain ⟨y182, hy182⟩ : ∃ y_ : List (S43), y_ = (([(⟨1, 30, (⟨30, 30⟩ : S38), true⟩ : S43), (⟨2, 30, (⟨20, 40⟩ : S38), false⟩ : S43)] : List (S43))) := ⟨_, rfl⟩
        replace H : ((cohousingref29_Same.f k t141 y182).bind fun t185 => (if t185 = true then ((cohousingref29_Same.f k t152 (([(⟨1, 30, (⟨30, 30⟩ : S38), true⟩ : S43), (⟨2, 70, (⟨60, 100⟩ : S38), false⟩ : S43)] : List (S43)))).bind fun t189 => (if t189 = true then ((cohousingref29_Same.f k t166 (([(⟨4, 40, (⟨30, 50⟩ : S38), false⟩ : S43), (⟨7, 50, (⟨30, 70⟩ : S38), false⟩ : S43)] : List (S43)))).bind fun t193 => (some t193)) else (some false))) else (some false))) = some r := by first | (rw [hy182]; with_reducible exact H) | (have H2_ := (Option.bind_some _ _).symm.trans H; rw [hy182]; with_reducible exact H2_) | (have H2_ := (Option.bind_some _ _).symm.trans H; with_reducible exact H2_) | with_reducible exact H | (rw [hy182]; exact H) | exact H
        have Ny182 := Aside0.mk hy182
        clear hy182
        replace H := Option.bind_eq_some_iff.mp H
        obtain ⟨t185, A120, H⟩ := H
        replace H : (if t185 = true then ((cohousingref29_Same.f k t152 (([(⟨1, 30, (⟨30, 30⟩ : S38), true⟩ : S43), (⟨2, 70, (⟨60, 100⟩ : S38), false⟩ : S43)] : List (S43)))).bind fun t189 => (if t189 = true then ((cohousingref29_Same.f k t166 (([(⟨4, 40, (⟨30, 50⟩ : S38), false⟩ : S43), (⟨7, 50, (⟨30, 70⟩ : S38), false⟩ : S43)] : List (S43)))).bind fun t193 => (some t193)) else (some false))) else (some false)) = some r := H
        have A12 := Aside0.mk A120
        clear A120
        by_cases c13 : t185 = true
        ·subst c13
         have H1 : ((cohousingref29_Same.f k t152 (([(⟨1, 30, (⟨30, 30⟩ : S38), true⟩ : S43), (⟨2, 70, (⟨60, 100⟩ : S38), false⟩ : S43)] : List (S43)))).bind fun t189 => (if t189 = true then ((cohousingref29_Same.f k t166 (([(⟨4, 40, (⟨30, 50⟩ : S38), false⟩ : S43), (⟨7, 50, (⟨30, 70⟩ : S38), false⟩ : S43)] : List (S43)))).bind fun t193 => (some t193)) else (some false))) = some r := by rw [if_pos rfl] at H; exact H
         clear H
         have H := H1
         clear H1
         obtain ⟨y186, hy186⟩ : ∃ y_ : List (S43), y_ = (([(⟨1, 30, (⟨30, 30⟩ : S38), true⟩ : S43), (⟨2, 70, (⟨60, 100⟩ : S38), false⟩ : S43)] : List (S43))) := ⟨_, rfl⟩
         replace H : ((cohousingref29_Same.f k t152 y186).bind fun t189 => (if t189 = true then ((cohousingref29_Same.f k t166 (([(⟨4, 40, (⟨30, 50⟩ : S38), false⟩ : S43), (⟨7, 50, (⟨30, 70⟩ : S38), false⟩ : S43)] : List (S43)))).bind fun t193 => (some t193)) else (some false))) = some r := by first | (rw [hy186]; with_reducible exact H) | (have H2_ := (Option.bind_some _ _).symm.trans H; rw [hy186]; with_reducible exact H2_) | (have H2_ := (Option.bind_some _ _).symm.trans H; with_reducible exact H2_) | with_reducible exact H | (rw [hy186]; exact H) | exact H
         have Ny186 := Aside0.mk hy186
         clear hy186
         replace H := Option.bind_eq_some_iff.mp H
         obtain ⟨t189, A140, H⟩ := H
         replace H : (if t189 = true then ((cohousingref29_Same.f k t166 (([(⟨4, 40, (⟨30, 50⟩ : S38), false⟩ : S43), (⟨7, 50, (⟨30, 70⟩ : S38), false⟩ : S43)] : List (S43)))).bind fun t193 => (some t193)) else (some false)) = some r := H
         have A14 := Aside0.mk A140
         clear A140
         by_cases c15 : t189 = true
         ·subst c15
          have H1 : ((cohousingref29_Same.f k t166 (([(⟨4, 40, (⟨30, 50⟩ : S38), false⟩ : S43), (⟨7, 50, (⟨30, 70⟩ : S38), false⟩ : S43)] : List (S43)))).bind fun t193 => (some t193)) = some r := by rw [if_pos rfl] at H; exact H
          clear H
          have H := H1
          clear H1
          obtain ⟨y190, hy190⟩ : ∃ y_ : List (S43), y_ = (([(⟨4, 40, (⟨30, 50⟩ : S38), false⟩ : S43), (⟨7, 50, (⟨30, 70⟩ : S38), false⟩ : S43)] : List (S43))) := ⟨_, rfl⟩
          replace H : ((cohousingref29_Same.f k t166 y190).bind fun t193 => (some t193)) = some r := by first | (rw [hy190]; with_reducible exact H) | (have H2_ := (Option.bind_some _ _).symm.trans H; rw [hy190]; with_reducible exact H2_) | (have H2_ := (Option.bind_some _ _).symm.trans H; with_reducible exact H2_) | with_reducible exact H | (rw [hy190]; exact H) | exact H
          have Ny190 := Aside0.mk hy190
          clear hy190
          replace H := Option.bind_eq_some_iff.mp H
          obtain ⟨t193, A160, H⟩ := H
          replace H : (some t193) = some r := H
          have A16 := Aside0.mk A160
          clear A160
          obtain rfl := Option.some.inj H
          refine unheld_ ?_
          go_wp2_with (first | ((with_reducible refine gate_dst (N := 92) rfl ?_); (try (refine gate_guard (by rfl) ?_; dsimp only)); refine Kd.R_lit k43 _ 43 ?hg (N := 92) ?hd (xs := ([(⟨1, 30, (⟨30, 30⟩ : S38), true⟩ : S43), (⟨2, 30, (⟨20, 40⟩ : S38), false⟩ : S43)] : List (S43))) (inner := [.int .i64 1, .int .i64 30, .int .i64 30, .int .i64 30, .bool true, .int .i64 2, .int .i64 30, .int .i64 20, .int .i64 40, .bool false]) (ok := fun _ => True) (okp := fun _ => True) ?hr ?hp (fun _ hk => hk) trivial (Below.refl _ _) (Nat.le_refl _) (by simp) ?_; (case hd => rfl); (case hg => rfl); (case hr => first | (go_simp; done) | (go_simp; rfl)); (case hp => exact (Reps.c5 (show Kd.M k43 _ _ _ (⟨1, 30, (⟨30, 30⟩ : S38), true⟩ : S43) [.int .i64 1, .int .i64 30, .int .i64 30, .int .i64 30, .bool true] from (k43_mkM _ _ _ (⟨1, 30, (⟨30, 30⟩ : S38), true⟩ : S43) )) (Reps.c5 (show Kd.M k43 _ _ _ (⟨2, 30, (⟨20, 40⟩ : S38), false⟩ : S43) [.int .i64 2, .int .i64 30, .int .i64 20, .int .i64 40, .bool false] from (k43_mkM _ _ _ (⟨2, 30, (⟨20, 40⟩ : S38), false⟩ : S43) )) (Reps.none _ _)))); intro v183 w48 ho49 hb hg_ hnew_; clear hg_ hnew_; (first | rw [← Ny182.out] at ho49 | (simp only [Int.reduceToNat] at ho49; rw [← Ny182.out] at ho49)); have n0_ := Aside0.mk (Kd.R_below (by (with_reducible repeat (first | apply Kd.R_alloc | apply Kd.R_drewN | apply Kd.R_drew)); exact HO137.out) hb); have n1_ := Aside0.mk (Kd.R_below (by (with_reducible repeat (first | apply Kd.R_alloc | apply Kd.R_drewN | apply Kd.R_drew)); exact HO140.out) hb); have n2_ := Aside0.mk (Kd.R_elder' (by (with_reducible repeat (first | apply Kd.R_alloc | apply Kd.R_drewN | apply Kd.R_drew)); exact HO145.out) (Kd.R_base ho49) hb); have n3_ := Aside0.mk (Kd.R_below (by (with_reducible repeat (first | apply Kd.R_alloc | apply Kd.R_drewN | apply Kd.R_drew)); exact HO148.out) hb); have n4_ := Aside0.mk (Kd.R_below (by (with_reducible repeat (first | apply Kd.R_alloc | apply Kd.R_drewN | apply Kd.R_drew)); exact HO151.out) hb); have n5_ := Aside0.mk (Kd.R_elder' (by (with_reducible repeat (first | apply Kd.R_alloc | apply Kd.R_drewN | apply Kd.R_drew)); exact HO156.out) (Kd.R_base ho49) hb); have n6_ := Aside0.mk (Kd.R_below (by (with_reducible repeat (first | apply Kd.R_alloc | apply Kd.R_drewN | apply Kd.R_drew)); exact HO159.out) hb); have n7_ := Aside0.mk (Kd.R_below (by (with_reducible repeat (first | apply Kd.R_alloc | apply Kd.R_drewN | apply Kd.R_drew)); exact HO162.out) hb); have n8_ := Aside0.mk (Kd.R_below (by (with_reducible repeat (first | apply Kd.R_alloc | apply Kd.R_drewN | apply Kd.R_drew)); exact HO165.out) hb); have n9_ := Aside0.mk (Kd.R_elder' (by (with_reducible repeat (first | apply Kd.R_alloc | apply Kd.R_drewN | apply Kd.R_drew)); exact HO170.out) (Kd.R_base ho49) hb); have n10_ := Aside0.mk (Kd.R_below (by (with_reducible repeat (first | apply Kd.R_alloc | apply Kd.R_drewN | apply Kd.R_drew)); exact HO173.out) hb); have n11_ := Aside0.mk (Kd.R_below (by (with_reducible repeat (first | apply Kd.R_alloc | apply Kd.R_drewN | apply Kd.R_drew)); exact HO176.out) hb); have n12_ := Aside0.mk (Kd.R_elder' (by (with_reducible repeat (first | apply Kd.R_alloc | apply Kd.R_drewN | apply Kd.R_drew)); exact HO181.out) (Kd.R_base ho49) hb); have n13_ := Aside0.mk (Kd.R_lower (Kd.R_new' (Kd.R_new' (Kd.R_new' (Kd.R_new' ho49 (Kd.R_lt (by (with_reducible repeat (first | apply Kd.R_alloc | apply Kd.R_drewN | apply Kd.R_drew)); exact HO145.out))) (Kd.R_lt (by (with_reducible repeat (first | apply Kd.R_alloc | apply Kd.R_drewN | apply Kd.R_drew)); exact HO156.out))) (Kd.R_lt (by (with_reducible repeat (first | apply Kd.R_alloc | apply Kd.R_drewN | apply Kd.R_drew)); exact HO170.out))) (Kd.R_lt (by (with_reducible repeat (first | apply Kd.R_alloc | apply Kd.R_drewN | apply Kd.R_drew)); exact HO181.out))) (below_size (by repeat (first | (with_reducible first | exact HB.out | apply below_alloc | apply pw_below_drewN | apply below_drew1) | exact HB.out)))); have n14_ := Aside0.mk (below_step (by repeat (first | (with_reducible first | exact HB.out | apply below_alloc | apply pw_below_drewN | apply below_drew1) | exact HB.out)) hb); clear HO137; clear HO140; clear HO145; clear HO148; clear HO151; clear HO156; clear HO159; clear HO162; clear HO165; clear HO170; clear HO173; clear HO176; clear HO181; clear HB; have HO137 := n0_; have HO140 := n1_; have HO145 := n2_; have HO148 := n3_; have HO151 := n4_; have HO156 := n5_; have HO159 := n6_; have HO162 := n7_; have HO165 := n8_; have HO170 := n9_; have HO173 := n10_; have HO176 := n11_; have HO181 := n12_; have HO184 := n13_; have HB := n14_; clear n0_ n1_ n2_ n3_ n4_ n5_ n6_ n7_ n8_ n9_ n10_ n11_ n12_ n13_ n14_; clear hb ho49; obtain ⟨Ao50, co50, eo50⟩ := Kd.R_slice HO145.out; subst eo50; obtain ⟨Ao51, co51, eo51⟩ := Kd.R_slice HO184.out; subst eo51) | (go_at_call 27; (with_reducible refine (cohousingref29_Same.calls k _ _ t141 _ _ y182 true _ ?side1 ?side2 ?side3 ?side4 A12.out).mono ?_); (case side1 => repeat (first | exact (Kd.R_reads' HO145.out).2.2 | (with_reducible refine Kd.C_alloc ?_ _) | (with_reducible refine Kd.C_drewN ?_ _) | (with_reducible refine Kd.C_drew ?_))); (case side2 => exact (Kd.R_reads' HO145.out).2.1); (case side3 => repeat (first | exact (Kd.R_reads' HO184.out).2.2 | (with_reducible refine Kd.C_alloc ?_ _) | (with_reducible refine Kd.C_drewN ?_ _) | (with_reducible refine Kd.C_drew ?_))); (case side4 => exact (Kd.R_reads' HO184.out).2.1); rintro e w' ⟨rfl, ⟨nd, rfl⟩⟩) | ((with_reducible refine gate_dst (N := 102) rfl ?_); (try (refine gate_guard (by rfl) ?_; dsimp only)); refine Kd.R_lit k43 _ 43 ?hg (N := 102) ?hd (xs := ([(⟨1, 30, (⟨30, 30⟩ : S38), true⟩ : S43), (⟨2, 70, (⟨60, 100⟩ : S38), false⟩ : S43)] : List (S43))) (inner := [.int .i64 1, .int .i64 30, .int .i64 30, .int .i64 30, .bool true, .int .i64 2, .int .i64 70, .int .i64 60, .int .i64 100, .bool false]) (ok := fun _ => True) (okp := fun _ => True) ?hr ?hp (fun _ hk => hk) trivial (Below.refl _ _) (Nat.le_refl _) (by simp) ?_; (case hd => rfl); (case hg => rfl); (case hr => first | (go_simp; done) | (go_simp; rfl)); (case hp => exact (Reps.c5 (show Kd.M k43 _ _ _ (⟨1, 30, (⟨30, 30⟩ : S38), true⟩ : S43) [.int .i64 1, .int .i64 30, .int .i64 30, .int .i64 30, .bool true] from (k43_mkM _ _ _ (⟨1, 30, (⟨30, 30⟩ : S38), true⟩ : S43) )) (Reps.c5 (show Kd.M k43 _ _ _ (⟨2, 70, (⟨60, 100⟩ : S38), false⟩ : S43) [.int .i64 2, .int .i64 70, .int .i64 60, .int .i64 100, .bool false] from (k43_mkM _ _ _ (⟨2, 70, (⟨60, 100⟩ : S38), false⟩ : S43) )) (Reps.none _ _)))); intro v187 w52 ho53 hb hg_ hnew_; clear hg_ hnew_; (first | rw [← Ny186.out] at ho53 | (simp only [Int.reduceToNat] at ho53; rw [← Ny186.out] at ho53)); have n0_ := Aside0.mk (Kd.R_below (by (with_reducible repeat (first | apply Kd.R_alloc | apply Kd.R_drewN | apply Kd.R_drew)); exact HO137.out) hb); have n1_ := Aside0.mk (Kd.R_below (by (with_reducible repeat (first | apply Kd.R_alloc | apply Kd.R_drewN | apply Kd.R_drew)); exact HO140.out) hb); have n2_ := Aside0.mk (Kd.R_elder' (by (with_reducible repeat (first | apply Kd.R_alloc | apply Kd.R_drewN | apply Kd.R_drew)); exact HO145.out) (Kd.R_base ho53) hb); have n3_ := Aside0.mk (Kd.R_below (by (with_reducible repeat (first | apply Kd.R_alloc | apply Kd.R_drewN | apply Kd.R_drew)); exact HO148.out) hb); have n4_ := Aside0.mk (Kd.R_below (by (with_reducible repeat (first | apply Kd.R_alloc | apply Kd.R_drewN | apply Kd.R_drew)); exact HO151.out) hb); have n5_ := Aside0.mk (Kd.R_elder' (by (with_reducible repeat (first | apply Kd.R_alloc | apply Kd.R_drewN | apply Kd.R_drew)); exact HO156.out) (Kd.R_base ho53) hb); have n6_ := Aside0.mk (Kd.R_below (by (with_reducible repeat (first | apply Kd.R_alloc | apply Kd.R_drewN | apply Kd.R_drew)); exact HO159.out) hb); have n7_ := Aside0.mk (Kd.R_below (by (with_reducible repeat (first | apply Kd.R_alloc | apply Kd.R_drewN | apply Kd.R_drew)); exact HO162.out) hb); have n8_ := Aside0.mk (Kd.R_below (by (with_reducible repeat (first | apply Kd.R_alloc | apply Kd.R_drewN | apply Kd.R_drew)); exact HO165.out) hb); have n9_ := Aside0.mk (Kd.R_elder' (by (with_reducible repeat (first | apply Kd.R_alloc | apply Kd.R_drewN | apply Kd.R_drew)); exact HO170.out) (Kd.R_base ho53) hb); have n10_ := Aside0.mk (Kd.R_below (by (with_reducible repeat (first | apply Kd.R_alloc | apply Kd.R_drewN | apply Kd.R_drew)); exact HO173.out) hb); have n11_ := Aside0.mk (Kd.R_below (by (with_reducible repeat (first | apply Kd.R_alloc | apply Kd.R_drewN | apply Kd.R_drew)); exact HO176.out) hb); have n12_ := Aside0.mk (Kd.R_elder' (by (with_reducible repeat (first | apply Kd.R_alloc | apply Kd.R_drewN | apply Kd.R_drew)); exact HO181.out) (Kd.R_base ho53) hb); have n13_ := Aside0.mk (Kd.R_elder' (by (with_reducible repeat (first | apply Kd.R_alloc | apply Kd.R_drewN | apply Kd.R_drew)); exact HO184.out) (Kd.R_base ho53) hb); have n14_ := Aside0.mk (Kd.R_lower (Kd.R_new' (Kd.R_new' (Kd.R_new' (Kd.R_new' (Kd.R_new' ho53 (Kd.R_lt (by (with_reducible repeat (first | apply Kd.R_alloc | apply Kd.R_drewN | apply Kd.R_drew)); exact HO145.out))) (Kd.R_lt (by (with_reducible repeat (first | apply Kd.R_alloc | apply Kd.R_drewN | apply Kd.R_drew)); exact HO156.out))) (Kd.R_lt (by (with_reducible repeat (first | apply Kd.R_alloc | apply Kd.R_drewN | apply Kd.R_drew)); exact HO170.out))) (Kd.R_lt (by (with_reducible repeat (first | apply Kd.R_alloc | apply Kd.R_drewN | apply Kd.R_drew)); exact HO181.out))) (Kd.R_lt (by (with_reducible repeat (first | apply Kd.R_alloc | apply Kd.R_drewN | apply Kd.R_drew)); exact HO184.out))) (below_size (by repeat (first | (with_reducible first | exact HB.out | apply below_alloc | apply pw_below_drewN | apply below_drew1) | exact HB.out)))); have n15_ := Aside0.mk (below_step (by repeat (first | (with_reducible first | exact HB.out | apply below_alloc | apply pw_below_drewN | apply below_drew1) | exact HB.out)) hb); clear HO137; clear HO140; clear HO145; clear HO148; clear HO151; clear HO156; clear HO159; clear HO162; clear HO165; clear HO170; clear HO173; clear HO176; clear HO181; clear HO184; clear HB; have HO137 := n0_; have HO140 := n1_; have HO145 := n2_; have HO148 := n3_; have HO151 := n4_; have HO156 := n5_; have HO159 := n6_; have HO162 := n7_; have HO165 := n8_; have HO170 := n9_; have HO173 := n10_; have HO176 := n11_; have HO181 := n12_; have HO184 := n13_; have HO188 := n14_; have HB := n15_; clear n0_ n1_ n2_ n3_ n4_ n5_ n6_ n7_ n8_ n9_ n10_ n11_ n12_ n13_ n14_ n15_; clear hb ho53; obtain ⟨Ao54, co54, eo54⟩ := Kd.R_slice HO156.out; subst eo54; obtain ⟨Ao55, co55, eo55⟩ := Kd.R_slice HO188.out; subst eo55) | (go_at_call 27; (with_reducible refine (cohousingref29_Same.calls k _ _ t152 _ _ y186 true _ ?side1 ?side2 ?side3 ?side4 A14.out).mono ?_); (case side1 => repeat (first | exact (Kd.R_reads' HO156.out).2.2 | (with_reducible refine Kd.C_alloc ?_ _) | (with_reducible refine Kd.C_drewN ?_ _) | (with_reducible refine Kd.C_drew ?_))); (case side2 => exact (Kd.R_reads' HO156.out).2.1); (case side3 => repeat (first | exact (Kd.R_reads' HO188.out).2.2 | (with_reducible refine Kd.C_alloc ?_ _) | (with_reducible refine Kd.C_drewN ?_ _) | (with_reducible refine Kd.C_drew ?_))); (case side4 => exact (Kd.R_reads' HO188.out).2.1); rintro e w' ⟨rfl, ⟨nd, rfl⟩⟩) | ((with_reducible refine gate_dst (N := 112) rfl ?_); (try (refine gate_guard (by rfl) ?_; dsimp only)); refine Kd.R_lit k43 _ 43 ?hg (N := 112) ?hd (xs := ([(⟨4, 40, (⟨30, 50⟩ : S38), false⟩ : S43), (⟨7, 50, (⟨30, 70⟩ : S38), false⟩ : S43)] : List (S43))) (inner := [.int .i64 4, .int .i64 40, .int .i64 30, .int .i64 50, .bool false, .int .i64 7, .int .i64 50, .int .i64 30, .int .i64 70, .bool false]) (ok := fun _ => True) (okp := fun _ => True) ?hr ?hp (fun _ hk => hk) trivial (Below.refl _ _) (Nat.le_refl _) (by simp) ?_; (case hd => rfl); (case hg => rfl); (case hr => first | (go_simp; done) | (go_simp; rfl)); (case hp => exact (Reps.c5 (show Kd.M k43 _ _ _ (⟨4, 40, (⟨30, 50⟩ : S38), false⟩ : S43) [.int .i64 4, .int .i64 40, .int .i64 30, .int .i64 50, .bool false] from (k43_mkM _ _ _ (⟨4, 40, (⟨30, 50⟩ : S38), false⟩ : S43) )) (Reps.c5 (show Kd.M k43 _ _ _ (⟨7, 50, (⟨30, 70⟩ : S38), false⟩ : S43) [.int .i64 7, .int .i64 50, .int .i64 30, .int .i64 70, .bool false] from (k43_mkM _ _ _ (⟨7, 50, (⟨30, 70⟩ : S38), false⟩ : S43) )) (Reps.none _ _)))); intro v191 w56 ho57 hb hg_ hnew_; clear hg_ hnew_; (first | rw [← Ny190.out] at ho57 | (simp only [Int.reduceToNat] at ho57; rw [← Ny190.out] at ho57)); have n0_ := Aside0.mk (Kd.R_below (by (with_reducible repeat (first | apply Kd.R_alloc | apply Kd.R_drewN | apply Kd.R_drew)); exact HO137.out) hb); have n1_ := Aside0.mk (Kd.R_below (by (with_reducible repeat (first | apply Kd.R_alloc | apply Kd.R_drewN | apply Kd.R_drew)); exact HO140.out) hb); have n2_ := Aside0.mk (Kd.R_elder' (by (with_reducible repeat (first | apply Kd.R_alloc | apply Kd.R_drewN | apply Kd.R_drew)); exact HO145.out) (Kd.R_base ho57) hb); have n3_ := Aside0.mk (Kd.R_below (by (with_reducible repeat (first | apply Kd.R_alloc | apply Kd.R_drewN | apply Kd.R_drew)); exact HO148.out) hb); have n4_ := Aside0.mk (Kd.R_below (by (with_reducible repeat (first | apply Kd.R_alloc | apply Kd.R_drewN | apply Kd.R_drew)); exact HO151.out) hb); have n5_ := Aside0.mk (Kd.R_elder' (by (with_reducible repeat (first | apply Kd.R_alloc | apply Kd.R_drewN | apply Kd.R_drew)); exact HO156.out) (Kd.R_base ho57) hb); have n6_ := Aside0.mk (Kd.R_below (by (with_reducible repeat (first | apply Kd.R_alloc | apply Kd.R_drewN | apply Kd.R_drew)); exact HO159.out) hb); have n7_ := Aside0.mk (Kd.R_below (by (with_reducible repeat (first | apply Kd.R_alloc | apply Kd.R_drewN | apply Kd.R_drew)); exact HO162.out) hb); have n8_ := Aside0.mk (Kd.R_below (by (with_reducible repeat (first | apply Kd.R_alloc | apply Kd.R_drewN | apply Kd.R_drew)); exact HO165.out) hb); have n9_ := Aside0.mk (Kd.R_elder' (by (with_reducible repeat (first | apply Kd.R_alloc | apply Kd.R_drewN | apply Kd.R_drew)); exact HO170.out) (Kd.R_base ho57) hb); have n10_ := Aside0.mk (Kd.R_below (by (with_reducible repeat (first | apply Kd.R_alloc | apply Kd.R_drewN | apply Kd.R_drew)); exact HO173.out) hb); have n11_ := Aside0.mk (Kd.R_below (by (with_reducible repeat (first | apply Kd.R_alloc | apply Kd.R_drewN | apply Kd.R_drew)); exact HO176.out) hb); have n12_ := Aside0.mk (Kd.R_elder' (by (with_reducible repeat (first | apply Kd.R_alloc | apply Kd.R_drewN | apply Kd.R_drew)); exact HO181.out) (Kd.R_base ho57) hb); have n13_ := Aside0.mk (Kd.R_elder' (by (with_reducible repeat (first | apply Kd.R_alloc | apply Kd.R_drewN | apply Kd.R_drew)); exact HO184.out) (Kd.R_base ho57) hb); have n14_ := Aside0.mk (Kd.R_elder' (by (with_reducible repeat (first | apply Kd.R_alloc | apply Kd.R_drewN | apply Kd.R_drew)); exact HO188.out) (Kd.R_base ho57) hb); have n15_ := Aside0.mk (Kd.R_lower (Kd.R_new' (Kd.R_new' (Kd.R_new' (Kd.R_new' (Kd.R_new' (Kd.R_new' ho57 (Kd.R_lt (by (with_reducible repeat (first | apply Kd.R_alloc | apply Kd.R_drewN | apply Kd.R_drew)); exact HO145.out))) (Kd.R_lt (by (with_reducible repeat (first | apply Kd.R_alloc | apply Kd.R_drewN | apply Kd.R_drew)); exact HO156.out))) (Kd.R_lt (by (with_reducible repeat (first | apply Kd.R_alloc | apply Kd.R_drewN | apply Kd.R_drew)); exact HO170.out))) (Kd.R_lt (by (with_reducible repeat (first | apply Kd.R_alloc | apply Kd.R_drewN | apply Kd.R_drew)); exact HO181.out))) (Kd.R_lt (by (with_reducible repeat (first | apply Kd.R_alloc | apply Kd.R_drewN | apply Kd.R_drew)); exact HO184.out))) (Kd.R_lt (by (with_reducible repeat (first | apply Kd.R_alloc | apply Kd.R_drewN | apply Kd.R_drew)); exact HO188.out))) (below_size (by repeat (first | (with_reducible first | exact HB.out | apply below_alloc | apply pw_below_drewN | apply below_drew1) | exact HB.out)))); have n16_ := Aside0.mk (below_step (by repeat (first | (with_reducible first | exact HB.out | apply below_alloc | apply pw_below_drewN | apply below_drew1) | exact HB.out)) hb); clear HO137; clear HO140; clear HO145; clear HO148; clear HO151; clear HO156; clear HO159; clear HO162; clear HO165; clear HO170; clear HO173; clear HO176; clear HO181; clear HO184; clear HO188; clear HB; have HO137 := n0_; have HO140 := n1_; have HO145 := n2_; have HO148 := n3_; have HO151 := n4_; have HO156 := n5_; have HO159 := n6_; have HO162 := n7_; have HO165 := n8_; have HO170 := n9_; have HO173 := n10_; have HO176 := n11_; have HO181 := n12_; have HO184 := n13_; have HO188 := n14_; have HO192 := n15_; have HB := n16_; clear n0_ n1_ n2_ n3_ n4_ n5_ n6_ n7_ n8_ n9_ n10_ n11_ n12_ n13_ n14_ n15_ n16_; clear hb ho57; obtain ⟨Ao58, co58, eo58⟩ := Kd.R_slice HO170.out; subst eo58; obtain ⟨Ao59, co59, eo59⟩ := Kd.R_slice HO192.out; subst eo59) | (go_at_call 27; (with_reducible refine (cohousingref29_Same.calls k _ _ t166 _ _ y190 t193 _ ?side1 ?side2 ?side3 ?side4 A16.out).mono ?_); (case side1 => repeat (first | exact (Kd.R_reads' HO170.out).2.2 | (with_reducible refine Kd.C_alloc ?_ _) | (with_reducible refine Kd.C_drewN ?_ _) | (with_reducible refine Kd.C_drew ?_))); (case side2 => exact (Kd.R_reads' HO170.out).2.1); (case side3 => repeat (first | exact (Kd.R_reads' HO192.out).2.2 | (with_reducible refine Kd.C_alloc ?_ _) | (with_reducible refine Kd.C_drewN ?_ _) | (with_reducible refine Kd.C_drew ?_))); (case side4 => exact (Kd.R_reads' HO192.out).2.1); rintro e w' ⟨rfl, ⟨nd, rfl⟩⟩))
          go_ret
          exact ⟨by first | rfl | (simp [errW_none, errW_some] <;> rfl) | (simp [*, errW_none, errW_some] <;> rfl), by repeat (first | (with_reducible first | exact HB.out | apply below_alloc | apply pw_below_drewN | apply below_drew1) | exact HB.out)⟩
         ·replace c15 := Bool.eq_false_iff.mpr c15
          subst c15
          have H1 : (some false) = some r := by rw [if_neg (show ¬ (false = true) by decide)] at H; exact H
          clear H
          have H := H1
          clear H1
          obtain rfl := Option.some.inj H
          refine unheld_ ?_
          go_wp2_with (first | ((with_reducible refine gate_dst (N := 92) rfl ?_); (try (refine gate_guard (by rfl) ?_; dsimp only)); refine Kd.R_lit k43 _ 43 ?hg (N := 92) ?hd (xs := ([(⟨1, 30, (⟨30, 30⟩ : S38), true⟩ : S43), (⟨2, 30, (⟨20, 40⟩ : S38), false⟩ : S43)] : List (S43))) (inner := [.int .i64 1, .int .i64 30, .int .i64 30, .int .i64 30, .bool true, .int .i64 2, .int .i64 30, .int .i64 20, .int .i64 40, .bool false]) (ok := fun _ => True) (okp := fun _ => True) ?hr ?hp (fun _ hk => hk) trivial (Below.refl _ _) (Nat.le_refl _) (by simp) ?_; (case hd => rfl); (case hg => rfl); (case hr => first | (go_simp; done) | (go_simp; rfl)); (case hp => exact (Reps.c5 (show Kd.M k43 _ _ _ (⟨1, 30, (⟨30, 30⟩ : S38), true⟩ : S43) [.int .i64 1, .int .i64 30, .int .i64 30, .int .i64 30, .bool true] from (k43_mkM _ _ _ (⟨1, 30, (⟨30, 30⟩ : S38), true⟩ : S43) )) (Reps.c5 (show Kd.M k43 _ _ _ (⟨2, 30, (⟨20, 40⟩ : S38), false⟩ : S43) [.int .i64 2, .int .i64 30, .int .i64 20, .int .i64 40, .bool false] from (k43_mkM _ _ _ (⟨2, 30, (⟨20, 40⟩ : S38), false⟩ : S43) )) (Reps.none _ _)))); intro v183 w48 ho49 hb hg_ hnew_; clear hg_ hnew_; (first | rw [← Ny182.out] at ho49 | (simp only [Int.reduceToNat] at ho49; rw [← Ny182.out] at ho49)); have n0_ := Aside0.mk (Kd.R_below (by (with_reducible repeat (first | apply Kd.R_alloc | apply Kd.R_drewN | apply Kd.R_drew)); exact HO137.out) hb); have n1_ := Aside0.mk (Kd.R_below (by (with_reducible repeat (first | apply Kd.R_alloc | apply Kd.R_drewN | apply Kd.R_drew)); exact HO140.out) hb); have n2_ := Aside0.mk (Kd.R_elder' (by (with_reducible repeat (first | apply Kd.R_alloc | apply Kd.R_drewN | apply Kd.R_drew)); exact HO145.out) (Kd.R_base ho49) hb); have n3_ := Aside0.mk (Kd.R_below (by (with_reducible repeat (first | apply Kd.R_alloc | apply Kd.R_drewN | apply Kd.R_drew)); exact HO148.out) hb); have n4_ := Aside0.mk (Kd.R_below (by (with_reducible repeat (first | apply Kd.R_alloc | apply Kd.R_drewN | apply Kd.R_drew)); exact HO151.out) hb); have n5_ := Aside0.mk (Kd.R_elder' (by (with_reducible repeat (first | apply Kd.R_alloc | apply Kd.R_drewN | apply Kd.R_drew)); exact HO156.out) (Kd.R_base ho49) hb); have n6_ := Aside0.mk (Kd.R_below (by (with_reducible repeat (first | apply Kd.R_alloc | apply Kd.R_drewN | apply Kd.R_drew)); exact HO159.out) hb); have n7_ := Aside0.mk (Kd.R_below (by (with_reducible repeat (first | apply Kd.R_alloc | apply Kd.R_drewN | apply Kd.R_drew)); exact HO162.out) hb); have n8_ := Aside0.mk (Kd.R_below (by (with_reducible repeat (first | apply Kd.R_alloc | apply Kd.R_drewN | apply Kd.R_drew)); exact HO165.out) hb); have n9_ := Aside0.mk (Kd.R_elder' (by (with_reducible repeat (first | apply Kd.R_alloc | apply Kd.R_drewN | apply Kd.R_drew)); exact HO170.out) (Kd.R_base ho49) hb); have n10_ := Aside0.mk (Kd.R_below (by (with_reducible repeat (first | apply Kd.R_alloc | apply Kd.R_drewN | apply Kd.R_drew)); exact HO173.out) hb); have n11_ := Aside0.mk (Kd.R_below (by (with_reducible repeat (first | apply Kd.R_alloc | apply Kd.R_drewN | apply Kd.R_drew)); exact HO176.out) hb); have n12_ := Aside0.mk (Kd.R_elder' (by (with_reducible repeat (first | apply Kd.R_alloc | apply Kd.R_drewN | apply Kd.R_drew)); exact HO181.out) (Kd.R_base ho49) hb); have n13_ := Aside0.mk (Kd.R_lower (Kd.R_new' (Kd.R_new' (Kd.R_new' (Kd.R_new' ho49 (Kd.R_lt (by (with_reducible repeat (first | apply Kd.R_alloc | apply Kd.R_drewN | apply Kd.R_drew)); exact HO145.out))) (Kd.R_lt (by (with_reducible repeat (first | apply Kd.R_alloc | apply Kd.R_drewN | apply Kd.R_drew)); exact HO156.out))) (Kd.R_lt (by (with_reducible repeat (first | apply Kd.R_alloc | apply Kd.R_drewN | apply Kd.R_drew)); exact HO170.out))) (Kd.R_lt (by (with_reducible repeat (first | apply Kd.R_alloc | apply Kd.R_drewN | apply Kd.R_drew)); exact HO181.out))) (below_size (by repeat (first | (with_reducible first | exact HB.out | apply below_alloc | apply pw_below_drewN | apply below_drew1) | exact HB.out)))); have n14_ := Aside0.mk (below_step (by repeat (first | (with_reducible first | exact HB.out | apply below_alloc | apply pw_below_drewN | apply below_drew1) | exact HB.out)) hb); clear HO137; clear HO140; clear HO145; clear HO148; clear HO151; clear HO156; clear HO159; clear HO162; clear HO165; clear HO170; clear HO173; clear HO176; clear HO181; clear HB; have HO137 := n0_; have HO140 := n1_; have HO145 := n2_; have HO148 := n3_; have HO151 := n4_; have HO156 := n5_; have HO159 := n6_; have HO162 := n7_; have HO165 := n8_; have HO170 := n9_; have HO173 := n10_; have HO176 := n11_; have HO181 := n12_; have HO184 := n13_; have HB := n14_; clear n0_ n1_ n2_ n3_ n4_ n5_ n6_ n7_ n8_ n9_ n10_ n11_ n12_ n13_ n14_; clear hb ho49; obtain ⟨Ao50, co50, eo50⟩ := Kd.R_slice HO145.out; subst eo50; obtain ⟨Ao51, co51, eo51⟩ := Kd.R_slice HO184.out; subst eo51) | (go_at_call 27; (with_reducible refine (cohousingref29_Same.calls k _ _ t141 _ _ y182 true _ ?side1 ?side2 ?side3 ?side4 A12.out).mono ?_); (case side1 => repeat (first | exact (Kd.R_reads' HO145.out).2.2 | (with_reducible refine Kd.C_alloc ?_ _) | (with_reducible refine Kd.C_drewN ?_ _) | (with_reducible refine Kd.C_drew ?_))); (case side2 => exact (Kd.R_reads' HO145.out).2.1); (case side3 => repeat (first | exact (Kd.R_reads' HO184.out).2.2 | (with_reducible refine Kd.C_alloc ?_ _) | (with_reducible refine Kd.C_drewN ?_ _) | (with_reducible refine Kd.C_drew ?_))); (case side4 => exact (Kd.R_reads' HO184.out).2.1); rintro e w' ⟨rfl, ⟨nd, rfl⟩⟩) | ((with_reducible refine gate_dst (N := 102) rfl ?_); (try (refine gate_guard (by rfl) ?_; dsimp only)); refine Kd.R_lit k43 _ 43 ?hg (N := 102) ?hd (xs := ([(⟨1, 30, (⟨30, 30⟩ : S38), true⟩ : S43), (⟨2, 70, (⟨60, 100⟩ : S38), false⟩ : S43)] : List (S43))) (inner := [.int .i64 1, .int .i64 30, .int .i64 30, .int .i64 30, .bool true, .int .i64 2, .int .i64 70, .int .i64 60, .int .i64 100, .bool false]) (ok := fun _ => True) (okp := fun _ => True) ?hr ?hp (fun _ hk => hk) trivial (Below.refl _ _) (Nat.le_refl _) (by simp) ?_; (case hd => rfl); (case hg => rfl); (case hr => first | (go_simp; done) | (go_simp; rfl)); (case hp => exact (Reps.c5 (show Kd.M k43 _ _ _ (⟨1, 30, (⟨30, 30⟩ : S38), true⟩ : S43) [.int .i64 1, .int .i64 30, .int .i64 30, .int .i64 30, .bool true] from (k43_mkM _ _ _ (⟨1, 30, (⟨30, 30⟩ : S38), true⟩ : S43) )) (Reps.c5 (show Kd.M k43 _ _ _ (⟨2, 70, (⟨60, 100⟩ : S38), false⟩ : S43) [.int .i64 2, .int .i64 70, .int .i64 60, .int .i64 100, .bool false] from (k43_mkM _ _ _ (⟨2, 70, (⟨60, 100⟩ : S38), false⟩ : S43) )) (Reps.none _ _)))); intro v187 w52 ho53 hb hg_ hnew_; clear hg_ hnew_; (first | rw [← Ny186.out] at ho53 | (simp only [Int.reduceToNat] at ho53; rw [← Ny186.out] at ho53)); have n0_ := Aside0.mk (Kd.R_below (by (with_reducible repeat (first | apply Kd.R_alloc | apply Kd.R_drewN | apply Kd.R_drew)); exact HO137.out) hb); have n1_ := Aside0.mk (Kd.R_below (by (with_reducible repeat (first | apply Kd.R_alloc | apply Kd.R_drewN | apply Kd.R_drew)); exact HO140.out) hb); have n2_ := Aside0.mk (Kd.R_elder' (by (with_reducible repeat (first | apply Kd.R_alloc | apply Kd.R_drewN | apply Kd.R_drew)); exact HO145.out) (Kd.R_base ho53) hb); have n3_ := Aside0.mk (Kd.R_below (by (with_reducible repeat (first | apply Kd.R_alloc | apply Kd.R_drewN | apply Kd.R_drew)); exact HO148.out) hb); have n4_ := Aside0.mk (Kd.R_below (by (with_reducible repeat (first | apply Kd.R_alloc | apply Kd.R_drewN | apply Kd.R_drew)); exact HO151.out) hb); have n5_ := Aside0.mk (Kd.R_elder' (by (with_reducible repeat (first | apply Kd.R_alloc | apply Kd.R_drewN | apply Kd.R_drew)); exact HO156.out) (Kd.R_base ho53) hb); have n6_ := Aside0.mk (Kd.R_below (by (with_reducible repeat (first | apply Kd.R_alloc | apply Kd.R_drewN | apply Kd.R_drew)); exact HO159.out) hb); have n7_ := Aside0.mk (Kd.R_below (by (with_reducible repeat (first | apply Kd.R_alloc | apply Kd.R_drewN | apply Kd.R_drew)); exact HO162.out) hb); have n8_ := Aside0.mk (Kd.R_below (by (with_reducible repeat (first | apply Kd.R_alloc | apply Kd.R_drewN | apply Kd.R_drew)); exact HO165.out) hb); have n9_ := Aside0.mk (Kd.R_elder' (by (with_reducible repeat (first | apply Kd.R_alloc | apply Kd.R_drewN | apply Kd.R_drew)); exact HO170.out) (Kd.R_base ho53) hb); have n10_ := Aside0.mk (Kd.R_below (by (with_reducible repeat (first | apply Kd.R_alloc | apply Kd.R_drewN | apply Kd.R_drew)); exact HO173.out) hb); have n11_ := Aside0.mk (Kd.R_below (by (with_reducible repeat (first | apply Kd.R_alloc | apply Kd.R_drewN | apply Kd.R_drew)); exact HO176.out) hb); have n12_ := Aside0.mk (Kd.R_elder' (by (with_reducible repeat (first | apply Kd.R_alloc | apply Kd.R_drewN | apply Kd.R_drew)); exact HO181.out) (Kd.R_base ho53) hb); have n13_ := Aside0.mk (Kd.R_elder' (by (with_reducible repeat (first | apply Kd.R_alloc | apply Kd.R_drewN | apply Kd.R_drew)); exact HO184.out) (Kd.R_base ho53) hb); have n14_ := Aside0.mk (Kd.R_lower (Kd.R_new' (Kd.R_new' (Kd.R_new' (Kd.R_new' (Kd.R_new' ho53 (Kd.R_lt (by (with_reducible repeat (first | apply Kd.R_alloc | apply Kd.R_drewN | apply Kd.R_drew)); exact HO145.out))) (Kd.R_lt (by (with_reducible repeat (first | apply Kd.R_alloc | apply Kd.R_drewN | apply Kd.R_drew)); exact HO156.out))) (Kd.R_lt (by (with_reducible repeat (first | apply Kd.R_alloc | apply Kd.R_drewN | apply Kd.R_drew)); exact HO170.out))) (Kd.R_lt (by (with_reducible repeat (first | apply Kd.R_alloc | apply Kd.R_drewN | apply Kd.R_drew)); exact HO181.out))) (Kd.R_lt (by (with_reducible repeat (first | apply Kd.R_alloc | apply Kd.R_drewN | apply Kd.R_drew)); exact HO184.out))) (below_size (by repeat (first | (with_reducible first | exact HB.out | apply below_alloc | apply pw_below_drewN | apply below_drew1) | exact HB.out)))); have n15_ := Aside0.mk (below_step (by repeat (first | (with_reducible first | exact HB.out | apply below_alloc | apply pw_below_drewN | apply below_drew1) | exact HB.out)) hb); clear HO137; clear HO140; clear HO145; clear HO148; clear HO151; clear HO156; clear HO159; clear HO162; clear HO165; clear HO170; clear HO173; clear HO176; clear HO181; clear HO184; clear HB; have HO137 := n0_; have HO140 := n1_; have HO145 := n2_; have HO148 := n3_; have HO151 := n4_; have HO156 := n5_; have HO159 := n6_; have HO162 := n7_; have HO165 := n8_; have HO170 := n9_; have HO173 := n10_; have HO176 := n11_; have HO181 := n12_; have HO184 := n13_; have HO188 := n14_; have HB := n15_; clear n0_ n1_ n2_ n3_ n4_ n5_ n6_ n7_ n8_ n9_ n10_ n11_ n12_ n13_ n14_ n15_; clear hb ho53; obtain ⟨Ao54, co54, eo54⟩ := Kd.R_slice HO156.out; subst eo54; obtain ⟨Ao55, co55, eo55⟩ := Kd.R_slice HO188.out; subst eo55) | (go_at_call 27; (with_reducible refine (cohousingref29_Same.calls k _ _ t152 _ _ y186 false _ ?side1 ?side2 ?side3 ?side4 A14.out).mono ?_); (case side1 => repeat (first | exact (Kd.R_reads' HO156.out).2.2 | (with_reducible refine Kd.C_alloc ?_ _) | (with_reducible refine Kd.C_drewN ?_ _) | (with_reducible refine Kd.C_drew ?_))); (case side2 => exact (Kd.R_reads' HO156.out).2.1); (case side3 => repeat (first | exact (Kd.R_reads' HO188.out).2.2 | (with_reducible refine Kd.C_alloc ?_ _) | (with_reducible refine Kd.C_drewN ?_ _) | (with_reducible refine Kd.C_drew ?_))); (case side4 => exact (Kd.R_reads' HO188.out).2.1); rintro e w' ⟨rfl, ⟨nd, rfl⟩⟩))
          go_ret
          exact ⟨by first | rfl | (simp [errW_none, errW_some] <;> rfl) | (simp [*, errW_none, errW_some] <;> rfl), by repeat (first | (with_reducible first | exact HB.out | apply below_alloc | apply pw_below_drewN | apply below_drew1) | exact HB.out)⟩
        ·replace c13 := Bool.eq_false_iff.mpr c13
         subst c13
         have H1 : (some false) = some r := by rw [if_neg (show ¬ (false = true) by decide)] at H; exact H
         clear H
         have H := H1
         clear H1
         obtain rfl := Option.some.inj H
         refine unheld_ ?_
         go_wp2_with (first | ((with_reducible refine gate_dst (N := 92) rfl ?_); (try (refine gate_guard (by rfl) ?_; dsimp only)); refine Kd.R_lit k43 _ 43 ?hg (N := 92) ?hd (xs := ([(⟨1, 30, (⟨30, 30⟩ : S38), true⟩ : S43), (⟨2, 30, (⟨20, 40⟩ : S38), false⟩ : S43)] : List (S43))) (inner := [.int .i64 1, .int .i64 30, .int .i64 30, .int .i64 30, .bool true, .int .i64 2, .int .i64 30, .int .i64 20, .int .i64 40, .bool false]) (ok := fun _ => True) (okp := fun _ => True) ?hr ?hp (fun _ hk => hk) trivial (Below.refl _ _) (Nat.le_refl _) (by simp) ?_; (case hd => rfl); (case hg => rfl); (case hr => first | (go_simp; done) | (go_simp; rfl)); (case hp => exact (Reps.c5 (show Kd.M k43 _ _ _ (⟨1, 30, (⟨30, 30⟩ : S38), true⟩ : S43) [.int .i64 1, .int .i64 30, .int .i64 30, .int .i64 30, .bool true] from (k43_mkM _ _ _ (⟨1, 30, (⟨30, 30⟩ : S38), true⟩ : S43) )) (Reps.c5 (show Kd.M k43 _ _ _ (⟨2, 30, (⟨20, 40⟩ : S38), false⟩ : S43) [.int .i64 2, .int .i64 30, .int .i64 20, .int .i64 40, .bool false] from (k43_mkM _ _ _ (⟨2, 30, (⟨20, 40⟩ : S38), false⟩ : S43) )) (Reps.none _ _)))); intro v183 w48 ho49 hb hg_ hnew_; clear hg_ hnew_; (first | rw [← Ny182.out] at ho49 | (simp only [Int.reduceToNat] at ho49; rw [← Ny182.out] at ho49)); have n0_ := Aside0.mk (Kd.R_below (by (with_reducible repeat (first | apply Kd.R_alloc | apply Kd.R_drewN | apply Kd.R_drew)); exact HO137.out) hb); have n1_ := Aside0.mk (Kd.R_below (by (with_reducible repeat (first | apply Kd.R_alloc | apply Kd.R_drewN | apply Kd.R_drew)); exact HO140.out) hb); have n2_ := Aside0.mk (Kd.R_elder' (by (with_reducible repeat (first | apply Kd.R_alloc | apply Kd.R_drewN | apply Kd.R_drew)); exact HO145.out) (Kd.R_base ho49) hb); have n3_ := Aside0.mk (Kd.R_below (by (with_reducible repeat (first | apply Kd.R_alloc | apply Kd.R_drewN | apply Kd.R_drew)); exact HO148.out) hb); have n4_ := Aside0.mk (Kd.R_below (by (with_reducible repeat (first | apply Kd.R_alloc | apply Kd.R_drewN | apply Kd.R_drew)); exact HO151.out) hb); have n5_ := Aside0.mk (Kd.R_elder' (by (with_reducible repeat (first | apply Kd.R_alloc | apply Kd.R_drewN | apply Kd.R_drew)); exact HO156.out) (Kd.R_base ho49) hb); have n6_ := Aside0.mk (Kd.R_below (by (with_reducible repeat (first | apply Kd.R_alloc | apply Kd.R_drewN | apply Kd.R_drew)); exact HO159.out) hb); have n7_ := Aside0.mk (Kd.R_below (by (with_reducible repeat (first | apply Kd.R_alloc | apply Kd.R_drewN | apply Kd.R_drew)); exact HO162.out) hb); have n8_ := Aside0.mk (Kd.R_below (by (with_reducible repeat (first | apply Kd.R_alloc | apply Kd.R_drewN | apply Kd.R_drew)); exact HO165.out) hb); have n9_ := Aside0.mk (Kd.R_elder' (by (with_reducible repeat (first | apply Kd.R_alloc | apply Kd.R_drewN | apply Kd.R_drew)); exact HO170.out) (Kd.R_base ho49) hb); have n10_ := Aside0.mk (Kd.R_below (by (with_reducible repeat (first | apply Kd.R_alloc | apply Kd.R_drewN | apply Kd.R_drew)); exact HO173.out) hb); have n11_ := Aside0.mk (Kd.R_below (by (with_reducible repeat (first | apply Kd.R_alloc | apply Kd.R_drewN | apply Kd.R_drew)); exact HO176.out) hb); have n12_ := Aside0.mk (Kd.R_elder' (by (with_reducible repeat (first | apply Kd.R_alloc | apply Kd.R_drewN | apply Kd.R_drew)); exact HO181.out) (Kd.R_base ho49) hb); have n13_ := Aside0.mk (Kd.R_lower (Kd.R_new' (Kd.R_new' (Kd.R_new' (Kd.R_new' ho49 (Kd.R_lt (by (with_reducible repeat (first | apply Kd.R_alloc | apply Kd.R_drewN | apply Kd.R_drew)); exact HO145.out))) (Kd.R_lt (by (with_reducible repeat (first | apply Kd.R_alloc | apply Kd.R_drewN | apply Kd.R_drew)); exact HO156.out))) (Kd.R_lt (by (with_reducible repeat (first | apply Kd.R_alloc | apply Kd.R_drewN | apply Kd.R_drew)); exact HO170.out))) (Kd.R_lt (by (with_reducible repeat (first | apply Kd.R_alloc | apply Kd.R_drewN | apply Kd.R_drew)); exact HO181.out))) (below_size (by repeat (first | (with_reducible first | exact HB.out | apply below_alloc | apply pw_below_drewN | apply below_drew1) | exact HB.out)))); have n14_ := Aside0.mk (below_step (by repeat (first | (with_reducible first | exact HB.out | apply below_alloc | apply pw_below_drewN | apply below_drew1) | exact HB.out)) hb); clear HO137; clear HO140; clear HO145; clear HO148; clear HO151; clear HO156; clear HO159; clear HO162; clear HO165; clear HO170; clear HO173; clear HO176; clear HO181; clear HB; have HO137 := n0_; have HO140 := n1_; have HO145 := n2_; have HO148 := n3_; have HO151 := n4_; have HO156 := n5_; have HO159 := n6_; have HO162 := n7_; have HO165 := n8_; have HO170 := n9_; have HO173 := n10_; have HO176 := n11_; have HO181 := n12_; have HO184 := n13_; have HB := n14_; clear n0_ n1_ n2_ n3_ n4_ n5_ n6_ n7_ n8_ n9_ n10_ n11_ n12_ n13_ n14_; clear hb ho49; obtain ⟨Ao50, co50, eo50⟩ := Kd.R_slice HO145.out; subst eo50; obtain ⟨Ao51, co51, eo51⟩ := Kd.R_slice HO184.out; subst eo51) | (go_at_call 27; (with_reducible refine (cohousingref29_Same.calls k _ _ t141 _ _ y182 false _ ?side1 ?side2 ?side3 ?side4 A12.out).mono ?_); (case side1 => repeat (first | exact (Kd.R_reads' HO145.out).2.2 | (with_reducible refine Kd.C_alloc ?_ _) | (with_reducible refine Kd.C_drewN ?_ _) | (with_reducible refine Kd.C_drew ?_))); (case side2 => exact (Kd.R_reads' HO145.out).2.1); (case side3 => repeat (first | exact (Kd.R_reads' HO184.out).2.2 | (with_reducible refine Kd.C_alloc ?_ _) | (with_reducible refine Kd.C_drewN ?_ _) | (with_reducible refine Kd.C_drew ?_))); (case side4 => exact (Kd.R_reads' HO184.out).2.1); rintro e w' ⟨rfl, ⟨nd, rfl⟩⟩))
         go_ret
         exact ⟨by first | rfl | (simp [errW_none, errW_some] <;> rfl) | (simp [*, errW_none, errW_some] <;> rfl), by repeat (first | (with_reducible first | exact HB.out | apply below_alloc | apply pw_below_drewN | apply below_drew1) | exact HB.out)⟩
       ·rw [if_neg c11] at H
        have c11b0 : (t167 == 10) = false := beq_eq_false_iff_ne.mpr c11
        have c11b1 : (t167 != 10) = true := bne_iff_ne.mpr c11
        obtain rfl := Option.some.inj H
        refine unheld_ ?_
        go_wp2
        go_ret
        exact ⟨by first | rfl | (simp [errW_none, errW_some] <;> rfl) | (simp [*, errW_none, errW_some] <;> rfl), by repeat (first | (with_reducible first | exact HB.out | apply below_alloc | apply pw_below_drewN | apply below_drew1) | exact HB.out)⟩
      ·rw [if_neg c10] at H
       have c10b0 : (t153 == 0) = false := beq_eq_false_iff_ne.mpr c10
       have c10b1 : (t153 != 0) = true := bne_iff_ne.mpr c10
       obtain rfl := Option.some.inj H
       refine unheld_ ?_
       go_wp2
       go_ret
       exact ⟨by first | rfl | (simp [errW_none, errW_some] <;> rfl) | (simp [*, errW_none, errW_some] <;> rfl), by repeat (first | (with_reducible first | exact HB.out | apply below_alloc | apply pw_below_drewN | apply below_drew1) | exact HB.out)⟩
     ·rw [if_neg c9] at H
      have c9b0 : (t142 == 40) = false := beq_eq_false_iff_ne.mpr c9
      have c9b1 : (t142 != 40) = true := bne_iff_ne.mpr c9
      obtain rfl := Option.some.inj H
      refine unheld_ ?_
      go_wp2
      go_ret
      exact ⟨by first | rfl | (simp [errW_none, errW_some] <;> rfl) | (simp [*, errW_none, errW_some] <;> rfl), by repeat (first | (with_reducible first | exact HB.out | apply below_alloc | apply pw_below_drewN | apply below_drew1) | exact HB.out)⟩
    ·rw [if_neg c8] at H
     have c8b0 : (t179 == 3) = false := beq_eq_false_iff_ne.mpr c8
     have c8b1 : (t179 != 3) = true := bne_iff_ne.mpr c8
     obtain rfl := Option.some.inj H
     refine unheld_ ?_
     go_wp2
     go_ret
     exact ⟨by first | rfl | (simp [errW_none, errW_some] <;> rfl) | (simp [*, errW_none, errW_some] <;> rfl), by repeat (first | (with_reducible first | exact HB.out | apply below_alloc | apply pw_below_drewN | apply below_drew1) | exact HB.out)⟩
   ·rw [if_neg c7] at H
    have c7b0 : (t168 == 0) = false := beq_eq_false_iff_ne.mpr c7
    have c7b1 : (t168 != 0) = true := bne_iff_ne.mpr c7
    obtain rfl := Option.some.inj H
    refine unheld_ ?_
    go_wp2
    go_ret
    exact ⟨by first | rfl | (simp [errW_none, errW_some] <;> rfl) | (simp [*, errW_none, errW_some] <;> rfl), by repeat (first | (with_reducible first | exact HB.out | apply below_alloc | apply pw_below_drewN | apply below_drew1) | exact HB.out)⟩
  ·rw [if_neg c6] at H
   have c6b0 : (t154 == 0) = false := beq_eq_false_iff_ne.mpr c6
   have c6b1 : (t154 != 0) = true := bne_iff_ne.mpr c6
   obtain rfl := Option.some.inj H
   refine unheld_ ?_
   go_wp2
   go_ret
   exact ⟨by first | rfl | (simp [errW_none, errW_some] <;> rfl) | (simp [*, errW_none, errW_some] <;> rfl), by repeat (first | (with_reducible first | exact HB.out | apply below_alloc | apply pw_below_drewN | apply below_drew1) | exact HB.out)⟩
 ·rw [if_neg c5] at H
  have c5b0 : (t143 == 0) = false := beq_eq_false_iff_ne.mpr c5
  have c5b1 : (t143 != 0) = true := bne_iff_ne.mpr c5
  obtain rfl := Option.some.inj H
  refine unheld_ ?_
  go_wp2
  go_ret
  exact ⟨by first | rfl | (simp [errW_none, errW_some] <;> rfl) | (simp [*, errW_none, errW_some] <;> rfl), by repeat (first | (with_reducible first | exact HB.out | apply below_alloc | apply pw_below_drewN | apply below_drew1) | exact HB.out)⟩
end Go.Proofs.Ytbgchacafglcpaa.P
end
section
namespace Go.Proofs.FlowTree
def sm (f : Nat → Int) (ks : List Nat) : Int := (ks.map f).foldl (· + ·) 0
theorem foldl_add (l : List Int) : ∀ a : Int, l.foldl (· + ·) a = a + l.foldl (· + ·) 0 := by
 induction l with
 | nil => intro a; simp
 | cons x l ih => intro a; rw [List.foldl_cons, List.foldl_cons, ih (a + x), ih (0 + x)]; omega
theorem sm_nil (f : Nat → Int) : sm f [] = 0 := rfl
theorem sm_cons (f : Nat → Int) (k : Nat) (ks : List Nat) : sm f (k :: ks) = f k + sm f ks := by
 unfold sm
 rw [List.map_cons, List.foldl_cons, foldl_add]; omega
theorem sm_congr {f g : Nat → Int} {ks : List Nat} (h : ∀ k ∈ ks, f k = g k) : sm f ks = sm g ks := by
 induction ks with
 | nil => rfl
 | cons k ks ih => rw [sm_cons, sm_cons, h k (by simp), ih (fun j hj => h j (by simp [hj]))]
theorem sm_le {f g : Nat → Int} {ks : List Nat} (h : ∀ k ∈ ks, f k ≤ g k) : sm f ks ≤ sm g ks := by
 induction ks with
 | nil => exact Int.le_refl _
 | cons k ks ih => rw [sm_cons, sm_cons]; have := h k (by simp); have := ih (fun j hj => h j (by simp [hj])); omega
theorem sm_bound {f : Nat → Int} {ks : List Nat} {a b : Int} (h : ∀ k ∈ ks, a ≤ f k ∧ f k ≤ b) : a * ks.length ≤ sm f ks ∧ sm f ks ≤ b * ks.length := by
 induction ks with
 | nil => simp [sm_nil]
 | cons k ks ih =>
  rw [sm_cons]
  have h1 := h k (by simp)
  have h2 := ih (fun j hj => h j (by simp [hj]))
  simp only [List.length_cons, Int.natCast_add, Int.natCast_one, Int.mul_add, Int.mul_one]
  omega
theorem sm_nonneg {f : Nat → Int} {ks : List Nat} (h : ∀ k ∈ ks, 0 ≤ f k) : 0 ≤ sm f ks := by
 induction ks with
 | nil => exact Int.le_refl _
 | cons k ks ih => rw [sm_cons]; have := h k (by simp); have := ih (fun j hj => h j (by simp [hj])); omega
theorem sm_ge {f : Nat → Int} {ks : List Nat} (h : ∀ k ∈ ks, 0 ≤ f k) {k : Nat} (hk : k ∈ ks) : f k ≤ sm f ks := by
 induction ks with
 | nil => cases hk
 | cons j ks ih =>
  rw [sm_cons]
  have h1 := h j (by simp)
  have h2 := sm_nonneg (fun i hi => h i (List.mem_cons_of_mem _ hi))
  rcases List.mem_cons.1 hk with rfl | hk
  ·omega
  ·have := ih (fun i hi => h i (List.mem_cons_of_mem _ hi)) hk; omega
theorem sm_append (f : Nat → Int) (a b : List Nat) : sm f (a ++ b) = sm f a + sm f b := by
 induction a with
 | nil => simp [sm_nil]
 | cons x a ih => rw [List.cons_append, sm_cons, sm_cons, ih]; omega
theorem sm_split (f : Nat → Int) {ks : List Nat} {k : Nat} (hk : k ∈ ks) : ∃ a b, ks = a ++ k :: b ∧ sm f ks = f k + sm f (a ++ b) := by
 obtain ⟨a, b, rfl⟩ := List.append_of_mem hk
 exact ⟨a, b, rfl, by rw [sm_append, sm_append, sm_cons]; omega⟩
theorem fill (lo hi : Nat → Int) (ks : List Nat) (hn : ks.Nodup) (h : ∀ k ∈ ks, lo k ≤ hi k) : ∀ s, sm lo ks ≤ s → s ≤ sm hi ks → ∃ c : Nat → Int, (∀ k ∈ ks, lo k ≤ c k ∧ c k ≤ hi k) ∧ sm c ks = s := by
 induction ks with
 | nil => intro s h1 h2; exact ⟨fun _ => 0, (fun k hk => by cases hk), (by rw [sm_nil] at *; omega)⟩
 | cons k ks ih =>
  intro s h1 h2
  rw [sm_cons] at h1 h2
  have hk := h k (by simp)
  have hle := sm_le (fun j hj => h j (List.mem_cons_of_mem _ hj))
  rw [List.nodup_cons] at hn
  have key : ∃ v, lo k ≤ v ∧ v ≤ hi k ∧ sm lo ks ≤ s - v ∧ s - v ≤ sm hi ks := by
   by_cases hc : s - lo k ≤ sm hi ks
   ·exact ⟨lo k, by omega, by omega, by omega, by omega⟩
   ·exact ⟨s - sm hi ks, by omega, by omega, by omega, by omega⟩
  obtain ⟨v, hv1, hv2, hv3, hv4⟩ := key
  obtain ⟨c, hc, hs⟩ := ih hn.2 (fun j hj => h j (List.mem_cons_of_mem _ hj)) (s - v) hv3 hv4
  refine ⟨fun j => if j = k then v else c j, ?_, ?_⟩
  ·intro j hj
   rcases List.mem_cons.1 hj with rfl | hj
   ·simp only [if_true]; exact ⟨hv1, hv2⟩
   ·have : j ≠ k := fun e => hn.1 (e ▸ hj)
    simp only [this, if_false]; exact hc j hj
  ·rw [sm_cons]
   simp only [if_true]
   rw [sm_congr (g := c) (fun j hj => by have : j ≠ k := fun e => hn.1 (e ▸ hj); simp [this]), hs]; omega
structure Net where
 n : Nat
 kid : Nat → List Nat
 loss : Nat → Int
structure Net.Ok (T : Net) : Prop where
 lt : ∀ i k, k ∈ T.kid i → i < k ∧ k < T.n
 nodup : ∀ i, (T.kid i).Nodup
 one : ∀ i j k, k ∈ T.kid i → k ∈ T.kid j → i = j
 loss0 : ∀ i, i < T.n → 0 ≤ T.loss i
def Net.eq (T : Net) (x : Nat → Int) (i : Nat) : Prop := T.kid i ≠ [] → 0 ≤ x i - sm x (T.kid i) ∧ x i - sm x (T.kid i) ≤ T.loss i
def Sol (T : Net) (lo hi : Nat → Int) (x : Nat → Int) : Prop := (∀ i, i < T.n → lo i ≤ x i ∧ x i ≤ hi i) ∧ ∀ i, i < T.n → T.eq x i
theorem eq_congr {T : Net} {x y : Nat → Int} {i : Nat} (h0 : x i = y i) (h : ∀ k ∈ T.kid i, x k = y k) (hx : T.eq x i) : T.eq y i := by
 intro hk
 have := hx hk
 rw [sm_congr h, h0] at this
 exact this
theorem extend (T : Net) (hT : T.Ok) (lo hi : Nat → Int) (hne : ∀ i, i < T.n → lo i ≤ hi i) (hup : ∀ i, i < T.n → T.kid i ≠ [] → sm lo (T.kid i) ≤ lo i ∧ hi i ≤ sm hi (T.kid i) + T.loss i) :
  ∀ (d m : Nat), m + d = T.n → ∀ x : Nat → Int, (∀ i, i < T.n → lo i ≤ x i ∧ x i ≤ hi i) → (∀ i, i < m → T.eq x i) →
   ∃ y, Sol T lo hi y ∧ ∀ j, (∀ i, m ≤ i → j ∉ T.kid i) → y j = x j := by
 intro d
 induction d with
 | zero =>
  intro m hm x hx he
  exact ⟨x, ⟨hx, fun i hi => he i (by omega)⟩, fun _ _ => rfl⟩
 | succ d ih =>
  intro m hm x hx he
  have hmn : m < T.n := by omega
  have key : ∃ x', (∀ i, i < T.n → lo i ≤ x' i ∧ x' i ≤ hi i) ∧ (∀ i, i < m + 1 → T.eq x' i) ∧ ∀ j, j ∉ T.kid m → x' j = x j := by
   by_cases hk : T.kid m = []
   ·refine ⟨x, hx, fun i hi => ?_, fun _ _ => rfl⟩
    by_cases h : i < m
    ·exact he i h
    ·rw [show i = m by omega]; intro h'; exact absurd hk h'
   ·have h1 := hup m hmn hk
    have h2 := hx m hmn
    have hle : sm lo (T.kid m) ≤ sm hi (T.kid m) := sm_le (fun k hk' => hne k (hT.lt m k hk').2)
    have hl0 := hT.loss0 m hmn
    have hs : ∃ s, sm lo (T.kid m) ≤ s ∧ s ≤ sm hi (T.kid m) ∧ 0 ≤ x m - s ∧ x m - s ≤ T.loss m := by
     by_cases hc : x m ≤ sm hi (T.kid m)
     ·exact ⟨x m, by omega, by omega, by omega, by omega⟩
     ·exact ⟨sm hi (T.kid m), by omega, by omega, by omega, by omega⟩
    obtain ⟨s, hs1, hs2, hs3, hs4⟩ := hs
    obtain ⟨c, hc, hcs⟩ := fill lo hi (T.kid m) (hT.nodup m) (fun k hk' => hne k (hT.lt m k hk').2) s hs1 hs2
    refine ⟨fun j => if j ∈ T.kid m then c j else x j, ?_, ?_, ?_⟩
    ·intro i hi'
     by_cases h : i ∈ T.kid m
     ·simp only [h, if_true]; exact hc i h
     ·simp only [h, if_false]; exact hx i hi'
    ·intro i hi'
     by_cases h : i < m
     ·refine eq_congr (x := x) ?_ ?_ (he i h)
      ·have : i ∉ T.kid m := fun hm' => by have := (hT.lt m i hm').1; omega
       simp [this]
      ·intro k hk'
       have : k ∉ T.kid m := fun hm' => by have := hT.one i m k hk' hm'; omega
       simp [this]
     ·have e : i = m := by omega
      subst e
      intro _
      have h3 : i ∉ T.kid i := fun hm' => by have := (hT.lt i i hm').1; omega
      rw [sm_congr (g := c) (fun k hk' => by simp [hk'])]
      simp only [h3, if_false]
      rw [hcs]
      exact ⟨hs3, hs4⟩
    ·intro j hj
     simp [hj]
  obtain ⟨x', hx', he', hk'⟩ := key
  obtain ⟨y, hy, hyx⟩ := ih (m + 1) (by omega) x' hx' he'
  refine ⟨y, hy, fun j hj => ?_⟩
  rw [hyx j (fun i hi' => hj i (by omega)), hk' j (hj m (Nat.le_refl _))]
theorem exact (T : Net) (hT : T.Ok) (lo hi dl dh : Nat → Int) (hne : ∀ i, i < T.n → lo i ≤ hi i)
  (hup : ∀ i, i < T.n → T.kid i ≠ [] → sm lo (T.kid i) ≤ lo i ∧ hi i ≤ sm hi (T.kid i) + T.loss i)
  (hsub : ∀ i, i < T.n → lo i ≤ dl i ∧ dl i ≤ dh i ∧ dh i ≤ hi i)
  (hdn : ∀ i, i < T.n → ∀ k ∈ T.kid i, dl i - T.loss i - (sm hi (T.kid i) - hi k) ≤ dl k ∧ dh k ≤ dh i - (sm lo (T.kid i) - lo k)) :
  ∀ (k : Nat), k < T.n → ∀ v, dl k ≤ v → v ≤ dh k → ∃ x, Sol T lo hi x ∧ x k = v := by
 intro k
 induction k using Nat.strongRecOn with
 | ind k ih =>
  intro hk v hv1 hv2
  by_cases hp : ∃ i, i < T.n ∧ k ∈ T.kid i
  ·obtain ⟨i, hi', hki⟩ := hp
   have hik := (hT.lt i k hki).1
   have hne' : T.kid i ≠ [] := fun h => by rw [h] at hki; cases hki
   have h1 := hdn i hi' k hki
   have h2 := hsub i hi'
   have h3 := hup i hi' hne'
   have h4 := hsub k hk
   have hl0 := hT.loss0 i hi'
   obtain ⟨a, b, hab, hlo⟩ := sm_split lo hki
   have hhi : sm hi (T.kid i) = hi k + sm hi (a ++ b) := by rw [hab, sm_append, sm_append, sm_cons]; omega
   have hnd : (a ++ b).Nodup ∧ k ∉ a ++ b := by
    have := hT.nodup i
    rw [hab] at this
    rw [List.nodup_append] at this
    obtain ⟨ha, hb, hd⟩ := this
    rw [List.nodup_cons] at hb
    refine ⟨List.nodup_append.2 ⟨ha, hb.2, fun x hx y hy => hd x hx y (List.mem_cons_of_mem _ hy)⟩, fun h => ?_⟩
    rcases List.mem_append.1 h with h | h
    ·exact hd k h k (by simp) rfl
    ·exact hb.1 h
   have hmem : ∀ j ∈ a ++ b, j ∈ T.kid i := by
    intro j hj
    rw [hab]
    rcases List.mem_append.1 hj with h | h
    ·exact List.mem_append.2 (.inl h)
    ·exact List.mem_append.2 (.inr (List.mem_cons_of_mem _ h))
   have hle : sm lo (a ++ b) ≤ sm hi (a ++ b) := sm_le (fun j hj => hne j (hT.lt i j (hmem j hj)).2)
   have hw : ∃ w s, dl i ≤ w ∧ w ≤ dh i ∧ sm lo (a ++ b) ≤ s ∧ s ≤ sm hi (a ++ b) ∧ 0 ≤ w - (v + s) ∧ w - (v + s) ≤ T.loss i := by
    by_cases hc : dl i ≤ sm lo (a ++ b) + v
    ·exact ⟨sm lo (a ++ b) + v, sm lo (a ++ b), by omega, by omega, by omega, by omega, by omega, by omega⟩
    ·by_cases hc2 : dl i - v ≤ sm hi (a ++ b)
     ·exact ⟨dl i, dl i - v, by omega, by omega, by omega, by omega, by omega, by omega⟩
     ·exact ⟨dl i, sm hi (a ++ b), by omega, by omega, by omega, by omega, by omega, by omega⟩
   obtain ⟨w, s, hw1, hw2, hs1, hs2, hs3, hs4⟩ := hw
   obtain ⟨y, hy, hyi⟩ := ih i hik hi' w hw1 hw2
   obtain ⟨c, hc, hcs⟩ := fill lo hi (a ++ b) hnd.1 (fun j hj => hne j (hT.lt i j (hmem j hj)).2) s hs1 hs2
   let c' : Nat → Int := fun j => if j = k then v else c j
   have hc' : ∀ j ∈ T.kid i, lo j ≤ c' j ∧ c' j ≤ hi j := by
    intro j hj
    by_cases h : j = k
    ·subst h; simp only [c', if_true]; omega
    ·simp only [c', h, if_false]
     refine hc j ?_
     rw [hab] at hj
     rcases List.mem_append.1 hj with h' | h'
     ·exact List.mem_append.2 (.inl h')
     ·rcases List.mem_cons.1 h' with h' | h'
      ·exact absurd h' h
      ·exact List.mem_append.2 (.inr h')
   have hcs' : sm c' (T.kid i) = v + s := by
    have : sm c' (T.kid i) = c' k + sm c' (a ++ b) := by rw [hab, sm_append, sm_append, sm_cons]; omega
    rw [this, sm_congr (f := c') (g := c) (fun j hj => by have : j ≠ k := fun e => hnd.2 (e ▸ hj); simp [c', this]), hcs]
    simp [c']
   obtain ⟨z, hz, hzx⟩ := extend T hT lo hi hne hup (T.n - (i + 1)) (i + 1) (by omega) (fun j => if j ∈ T.kid i then c' j else y j)
    (fun j hj => by
     by_cases h : j ∈ T.kid i
     ·simp only [h, if_true]; exact hc' j h
     ·simp only [h, if_false]; exact hy.1 j hj)
    (fun j hj => by
     by_cases h : j < i
     ·refine eq_congr (x := y) ?_ ?_ (hy.2 j (by omega))
      ·have : j ∉ T.kid i := fun hm' => by have := (hT.lt i j hm').1; omega
       simp [this]
      ·intro q hq
       have : q ∉ T.kid i := fun hm' => by have := hT.one j i q hq hm'; omega
       simp [this]
     ·have e : j = i := by omega
      subst e
      intro _
      have h3 : j ∉ T.kid j := fun hm' => by have := (hT.lt j j hm').1; omega
      rw [sm_congr (g := c') (fun q hq => by simp [hq])]
      simp only [h3, if_false]
      rw [hcs', hyi]
      exact ⟨hs3, hs4⟩)
   refine ⟨z, hz, ?_⟩
   rw [hzx k (fun j hj hk' => by have := hT.one i j k hki hk'; omega)]
   simp [hki, c']
  ·have h4 := hsub k hk
   obtain ⟨z, hz, hzx⟩ := extend T hT lo hi hne hup T.n 0 (by omega) (fun j => if j = k then v else lo j)
    (fun j hj => by
     by_cases h : j = k
     ·subst h; simp only [if_true]; omega
     ·simp only [h, if_false]; exact ⟨Int.le_refl _, hne j hj⟩)
    (fun j hj => absurd hj (Nat.not_lt_zero _))
   refine ⟨z, hz, ?_⟩
   rw [hzx k (fun j _ hk' => hp ⟨j, by have := hT.lt j k hk'; omega, hk'⟩)]
   simp
end Go.Proofs.FlowTree
end
section
namespace Go.Proofs.Ytbgchacafglcpaa.P
open Go.RowKit Go.Proofs.YtbgchacafglcpaaW.PrintWords Go.Proofs.YtbgchacafglcpaaW.PrintLast Go.Proofs.YtbgchacafglcpaaW.PrintMore Go.Proofs.YtbgchacafglcpaaH Go.Proofs.FlowTree
abbrev CH := S43
abbrev RGE := S38
theorem right_lo {c t v : Int} (ht : 1 ≤ t) : 2 * t * rightV c t v ≤ 2 * (c * v) + t := by
 unfold rightV
 exact Int.mul_ediv_self_le (by omega)
theorem right_hi {c t v : Int} (ht : 1 ≤ t) : 2 * (c * v) + t < 2 * t * rightV c t v + 2 * t := by
 unfold rightV
 exact Int.lt_mul_ediv_self_add (by omega)
theorem right_mono {c t v v' : Int} (hc : 0 ≤ c) (ht : 1 ≤ t) (h : v ≤ v') : rightV c t v ≤ rightV c t v' := by
 unfold rightV
 have := Int.mul_le_mul_of_nonneg_left h hc
 exact Int.ediv_le_ediv (by omega) (by omega)
theorem right_bd {c t v : Int} (hc : 0 ≤ c) (ht : 1 ≤ t) (h0 : 0 ≤ v) (h : v ≤ t) : 0 ≤ rightV c t v ∧ rightV c t v ≤ c := by
 have h1 := Int.mul_nonneg hc h0
 have h2 := Int.mul_le_mul_of_nonneg_left h hc
 constructor
 ·unfold rightV
  exact Int.ediv_nonneg (by omega) (by omega)
 ·have : rightV c t v < c + 1 := by
   unfold rightV
   refine Int.ediv_lt_of_lt_mul (by omega) ?_
   have : (c + 1) * (2 * t) = 2 * (c * t) + 2 * t := by rw [Int.add_mul, Int.one_mul, ← Int.mul_assoc, Int.mul_comm c 2, Int.mul_assoc]
   omega
  omega
abbrev cc (bs : List CH) (j : Nat) : CH := rd_T43 bs (j : Int)
abbrev qq (l : List RGE) (j : Nat) : RGE := rd_T38 l (j : Int)
theorem cc_set (bs : List CH) (i j : Nat) (y : CH) (hi : i < bs.length) : cc (bs.set i y) j = if i = j then y else cc bs j := by
 simp only [cc, rd_T43, List.getD_eq_getElem?_getD, Int.toNat_natCast, List.getElem?_set]
 by_cases e : i = j
 ·subst e; simp [hi]
 ·simp [e]
theorem qq_map (f : RGE → RGE) (l : List RGE) (j : Nat) (h : j < l.length) : qq (l.map f) j = f (qq l j) := by
 simp [qq, rd_T38, List.getD_eq_getElem?_getD, h]
theorem qq_mem (l : List RGE) (j : Nat) (h : j < l.length) : qq l j ∈ l := by
 simp [qq, rd_T38, List.getD_eq_getElem?_getD, h]
theorem foldl_rng {α : Type} (g : α → Nat → α) (x : α) (n : Nat) : (List.range (n + 1)).foldl g x = g ((List.range n).foldl g x) n := by
 rw [List.range_succ, List.foldl_append]; rfl
def PartsOk (c t : Int) (l : List RGE) : Prop := 0 ≤ c ∧ c ≤ 1000000000 ∧ 1 ≤ t ∧ t ≤ 1000000000 ∧ l.length ≤ 200 ∧ ∀ j, j < l.length → 0 ≤ (qq l j).f0 ∧ (qq l j).f0 ≤ (qq l j).f1 ∧ (qq l j).f1 ≤ t
theorem outR_iff (t : Int) (r : RGE) : outR t r = false ↔ 0 ≤ r.f0 ∧ r.f0 ≤ r.f1 ∧ r.f1 ≤ t := by
 simp only [outR, Bool.or_eq_false_iff, decide_eq_false_iff_not]
 omega
theorem parts_iff (c t : Int) (l : List RGE) : (c < 0 ∨ 1000000000 < c ∨ t < 1 ∨ 1000000000 < t ∨ 200 < l.length ∨ l.any (outR t) = true) ↔ ¬ PartsOk c t l := by
 have hany : l.any (outR t) = false ↔ ∀ j, j < l.length → 0 ≤ (qq l j).f0 ∧ (qq l j).f0 ≤ (qq l j).f1 ∧ (qq l j).f1 ≤ t := by
  rw [List.any_eq_false]
  constructor
  ·intro h j hj
   exact (outR_iff t _).1 (by have := h _ (qq_mem l j hj); simpa using this)
  ·intro h x hx
   obtain ⟨j, hj, rfl⟩ := List.mem_iff_getElem.1 hx
   have e : qq l j = l[j] := by simp [qq, rd_T38, List.getD_eq_getElem?_getD, hj]
   have := (outR_iff t (qq l j)).2 (h j hj)
   rw [e] at this
   simp [this]
 constructor
 ·rintro h ⟨h1, h2, h3, h4, h5, h6⟩
  rcases h with h | h | h | h | h | h
  ·omega
  ·omega
  ·omega
  ·omega
  ·omega
  ·rw [hany.2 h6] at h; cases h
 ·intro h
  by_cases a1 : c < 0
  ·exact .inl a1
  by_cases a2 : 1000000000 < c
  ·exact .inr (.inl a2)
  by_cases a3 : t < 1
  ·exact .inr (.inr (.inl a3))
  by_cases a4 : 1000000000 < t
  ·exact .inr (.inr (.inr (.inl a4)))
  by_cases a5 : 200 < l.length
  ·exact .inr (.inr (.inr (.inr (.inl a5))))
  refine .inr (.inr (.inr (.inr (.inr ?_))))
  cases hx : l.any (outR t) with
  | true => rfl
  | false => exact absurd ⟨by omega, by omega, by omega, by omega, by omega, hany.1 hx⟩ h
theorem boundsC_ok {c t : Int} {l : List RGE} (h : PartsOk c t l) : boundsC c t l = (l.map (chgR c t), 0) := by
 unfold boundsC
 rw [if_neg (fun hh => (parts_iff c t l).1 hh h)]
theorem boundsC_no {c t : Int} {l : List RGE} (h : ¬ PartsOk c t l) : boundsC c t l = ([], 1) := by
 unfold boundsC
 rw [if_pos ((parts_iff c t l).2 h)]
section
variable {c t : Int} {l : List RGE}
def bLo (c t : Int) (l : List RGE) (j : Nat) : Int := rightV c t (qq l j).f0
def bHi (c t : Int) (l : List RGE) (j : Nat) : Int := rightV c t (qq l j).f1
theorem b_bd (h : PartsOk c t l) (j : Nat) (hj : j < l.length) : 0 ≤ bLo c t l j ∧ bLo c t l j ≤ bHi c t l j ∧ bHi c t l j ≤ c := by
 obtain ⟨h1, h2, h3, h4, h5, h6⟩ := h
 have := h6 j hj
 exact ⟨(right_bd h1 h3 (by omega) (by omega)).1, right_mono h1 h3 (by omega), (right_bd h1 h3 (by omega) (by omega)).2⟩
theorem wrap_id' {n : Int} (h1 : -9223372036854775808 ≤ n) (h2 : n ≤ 9223372036854775807) : wrap64 n = n := by unfold wrap64; omega
structure Form (homes : List Int) (c t : Int) (l : List RGE) (j : Nat) (b : CH) : Prop where
 home : b.f0 = rd homes (j : Int)
 lo : b.f2.f0 = bLo c t l j
 hi : b.f2.f1 = bHi c t l j
 sure : b.f3 = (bLo c t l j == bHi c t l j)
 ge : bLo c t l j ≤ b.f1
 le : b.f1 ≤ bHi c t l j
theorem bill_form (homes : List Int) (h : PartsOk c t l) (j : Nat) (hj : j < l.length) : Form homes c t l j (billOf (rd homes (j : Int)) (qq (l.map (chgR c t)) j)) ∧ (billOf (rd homes (j : Int)) (qq (l.map (chgR c t)) j)).f1 = (bLo c t l j + bHi c t l j) / 2 := by
 have hb := b_bd h j hj
 have hc := h.2.1
 rw [qq_map _ _ _ hj]
 have e : (billOf (rd homes (j : Int)) (chgR c t (qq l j))).f1 = (bLo c t l j + bHi c t l j) / 2 := by
  show wrap64 (Int.tdiv (wrap64 (bLo c t l j + bHi c t l j)) 2) = _
  rw [wrap_id' (n := bLo c t l j + bHi c t l j) (by omega) (by omega), Int.tdiv_eq_ediv_of_nonneg (by omega), wrap_id' (by omega) (by omega)]
 refine ⟨⟨rfl, rfl, rfl, rfl, ?_, ?_⟩, e⟩
 ·rw [e]; omega
 ·rw [e]; omega
theorem bills_at (homes : List Int) (bs : List RGE) (n : Nat) : ∀ i, i ≤ n → ∀ j, j < n → cc (billsN homes bs n i) j = if j < i then billOf (rd homes (j : Int)) (qq bs j) else z43 := by
 intro i
 induction i with
 | zero =>
  intro _ j hj
  simp [billsN, cc, rd_T43, List.getD_eq_getElem?_getD, List.getElem?_replicate, hj]
 | succ i ih =>
  intro hi j hj
  have e : billsN homes bs n (i + 1) = (billsN homes bs n i).set i (billOf (rd homes (i : Int)) (qq bs i)) := foldl_rng _ _ _
  rw [e, cc_set _ _ _ _ (by rw [billsN_len]; omega)]
  by_cases h : i = j
  ·subst h; rw [if_pos rfl, if_pos (by omega)]
  ·rw [if_neg h, ih (by omega) j hj]
   by_cases h2 : j < i
   ·rw [if_pos h2, if_pos (by omega)]
   ·rw [if_neg h2, if_neg (by omega)]
theorem sum_at (h : PartsOk c t l) : ∀ i, i ≤ l.length → sumN (l.map (chgR c t)) i = sm (fun j => (bLo c t l j + bHi c t l j) / 2) (List.range i) ∧ 0 ≤ sumN (l.map (chgR c t)) i ∧ sumN (l.map (chgR c t)) i ≤ 1000000000 * i := by
 intro i
 induction i with
 | zero => intro _; exact ⟨rfl, Int.le_refl _, by simp [sumN]⟩
 | succ i ih =>
  intro hi
  obtain ⟨h1, h2, h3⟩ := ih (by omega)
  have hb := b_bd h i (by omega)
  have hc := h.2.1
  have hn := h.2.2.2.2.1
  have e : sumN (l.map (chgR c t)) (i + 1) = wrap64 (sumN (l.map (chgR c t)) i + (billOf 0 (qq (l.map (chgR c t)) i)).f1) := foldl_rng _ _ _
  have e2 : (billOf 0 (qq (l.map (chgR c t)) i)).f1 = (bLo c t l i + bHi c t l i) / 2 := (bill_form [] h i (by omega)).2
  rw [e, e2, wrap_id' (by omega) (by omega)]
  refine ⟨?_, by omega, by omega⟩
  rw [List.range_succ, sm_append, sm_cons, sm_nil, h1]
  omega
theorem least_at (h : PartsOk c t l) : ∀ i, i ≤ l.length → leastN l i = sm (fun j => (qq l j).f0) (List.range i) ∧ 0 ≤ leastN l i ∧ leastN l i ≤ 1000000000 * i := by
 intro i
 induction i with
 | zero => intro _; exact ⟨rfl, Int.le_refl _, by simp [leastN]⟩
 | succ i ih =>
  intro hi
  obtain ⟨h1, h2, h3⟩ := ih (by omega)
  have hb := h.2.2.2.2.2 i (by omega)
  have ht := h.2.2.2.1
  have hn := h.2.2.2.2.1
  have e : leastN l (i + 1) = wrap64 (leastN l i + (qq l i).f0) := foldl_rng _ _ _
  rw [e, wrap_id' (by omega) (by omega)]
  refine ⟨?_, by omega, by omega⟩
  rw [List.range_succ, sm_append, sm_cons, sm_nil, h1]
  omega
theorem sm_upd (f g : Nat → Int) (i : Nat) (d : Int) (hg : ∀ j, j ≠ i → g j = f j) (hi : g i = f i + d) : ∀ n, sm g (List.range n) = sm f (List.range n) + if i < n then d else 0 := by
 intro n
 induction n with
 | zero => simp [sm_nil]
 | succ n ih =>
  rw [List.range_succ, sm_append, sm_append, sm_cons, sm_cons, sm_nil, sm_nil, ih]
  by_cases e : n = i
  ·subst e
   rw [hi, if_neg (Nat.lt_irrefl _), if_pos (Nat.lt_succ_self _)]; omega
  ·rw [hg n e]
   by_cases h : i < n
   ·rw [if_pos h, if_pos (by omega)]; omega
   ·rw [if_neg h, if_neg (by omega)]; omega
structure LowAt (homes : List Int) (c t : Int) (l : List RGE) (k : Nat) (p : List CH × Int) : Prop where
 len : p.1.length = l.length
 form : ∀ j, j < l.length → Form homes c t l j (cc p.1 j)
 sum : p.2 = sm (fun j => (cc p.1 j).f1) (List.range l.length)
 bd : 0 ≤ p.2 ∧ p.2 ≤ 200000000000
 low : c < p.2 → ∀ j, j < l.length → l.length ≤ j + k → (cc p.1 j).f1 = bLo c t l j
theorem low_start (homes : List Int) (h : PartsOk c t l) : LowAt homes c t l 0 (billsN homes (l.map (chgR c t)) l.length l.length, sumN (l.map (chgR c t)) l.length) := by
 have hs := sum_at h l.length (Nat.le_refl _)
 have hn := h.2.2.2.2.1
 have hat : ∀ j, j < l.length → cc (billsN homes (l.map (chgR c t)) l.length l.length) j = billOf (rd homes (j : Int)) (qq (l.map (chgR c t)) j) := fun j hj => by
  rw [bills_at homes _ _ _ (Nat.le_refl _) j hj, if_pos hj]
 refine ⟨billsN_len _ _ _ _, fun j hj => ?_, ?_, ⟨hs.2.1, by have := hs.2.2; show sumN _ _ ≤ _; omega⟩, fun _ j h1 h2 => by omega⟩
 ·show Form homes c t l j (cc (billsN homes (l.map (chgR c t)) l.length l.length) j)
  rw [hat j hj]
  exact (bill_form homes h j hj).1
 ·show sumN _ _ = _
  rw [hs.1]
  refine sm_congr (fun j hj => ?_)
  have hj' := List.mem_range.1 hj
  show _ = (cc (billsN homes (l.map (chgR c t)) l.length l.length) j).f1
  rw [hat j hj']
  exact (bill_form homes h j hj').2.symm
theorem mx_max' (a b : Int) : mx a b = max a b := by unfold mx; split <;> omega
theorem mn_min' (a b : Int) : mn a b = min a b := by unfold mn; split <;> omega
theorem sm_cents {homes : List Int} (h : PartsOk c t l) {bs : List CH} (hf : ∀ j, j < l.length → Form homes c t l j (cc bs j)) : 0 ≤ sm (fun j => (cc bs j).f1) (List.range l.length) ∧ sm (fun j => (cc bs j).f1) (List.range l.length) ≤ 200000000000 := by
 have hn := h.2.2.2.2.1
 have hc := h.2.1
 have := sm_bound (f := fun j => (cc bs j).f1) (ks := List.range l.length) (a := 0) (b := 1000000000) (fun j hj => by
  have hj' := List.mem_range.1 hj
  have h1 := hf j hj'
  have h2 := b_bd h j hj'
  have := h1.ge
  have := h1.le
  show 0 ≤ (cc bs j).f1 ∧ (cc bs j).f1 ≤ 1000000000
  omega)
 rw [List.length_range] at this
 omega
theorem low_step {homes : List Int} (h : PartsOk c t l) {k : Nat} (hk : k < l.length) {p : List CH × Int} (hp : LowAt homes c t l k p) :
  LowAt homes c t l (k + 1) (lowStep c p (l.length - 1 - k)) ∧ (lowBy (wrap64 (p.2 - c)) (cc p.1 (l.length - 1 - k)).f1 (cc p.1 (l.length - 1 - k)).f2.f0 = max 0 (min (p.2 - c) ((cc p.1 (l.length - 1 - k)).f1 - bLo c t l (l.length - 1 - k)))) ∧
   lowStep c p (l.length - 1 - k) = (p.1.set (l.length - 1 - k) ⟨(cc p.1 (l.length - 1 - k)).f0, (cc p.1 (l.length - 1 - k)).f1 - max 0 (min (p.2 - c) ((cc p.1 (l.length - 1 - k)).f1 - bLo c t l (l.length - 1 - k))), (cc p.1 (l.length - 1 - k)).f2, (cc p.1 (l.length - 1 - k)).f3⟩, p.2 - max 0 (min (p.2 - c) ((cc p.1 (l.length - 1 - k)).f1 - bLo c t l (l.length - 1 - k)))) := by
 obtain ⟨i, hi⟩ : ∃ i, i = l.length - 1 - k := ⟨_, rfl⟩
 rw [← hi]
 have hil : i < l.length := by omega
 have hf := hp.form i hil
 have hb := b_bd h i hil
 have hc0 := h.1
 have hc := h.2.1
 have hs := hp.bd
 have g1 := hf.ge
 have g2 := hf.le
 have e1 : lowBy (wrap64 (p.2 - c)) (cc p.1 i).f1 (cc p.1 i).f2.f0 = max 0 (min (p.2 - c) ((cc p.1 i).f1 - bLo c t l i)) := by
  unfold lowBy
  rw [mx_max', mn_min', hf.lo, wrap_id' (n := p.2 - c) (by omega) (by omega), wrap_id' (n := (cc p.1 i).f1 - bLo c t l i) (by omega) (by omega)]
 obtain ⟨d, hd⟩ : ∃ d, d = max 0 (min (p.2 - c) ((cc p.1 i).f1 - bLo c t l i)) := ⟨_, rfl⟩
 rw [← hd] at e1 ⊢
 have e2 : lowStep c p i = (p.1.set i ⟨(cc p.1 i).f0, (cc p.1 i).f1 - d, (cc p.1 i).f2, (cc p.1 i).f3⟩, p.2 - d) := by
  show (p.1.set i ⟨(cc p.1 i).f0, wrap64 ((cc p.1 i).f1 - lowBy (wrap64 (p.2 - c)) (cc p.1 i).f1 (cc p.1 i).f2.f0), (cc p.1 i).f2, (cc p.1 i).f3⟩, wrap64 (p.2 - lowBy (wrap64 (p.2 - c)) (cc p.1 i).f1 (cc p.1 i).f2.f0)) = _
  rw [e1, wrap_id' (n := (cc p.1 i).f1 - d) (by omega) (by omega), wrap_id' (n := p.2 - d) (by omega) (by omega)]
 refine ⟨?_, e1, e2⟩
 rw [e2]
 have hset : ∀ j, cc (p.1.set i ⟨(cc p.1 i).f0, (cc p.1 i).f1 - d, (cc p.1 i).f2, (cc p.1 i).f3⟩) j = if i = j then ⟨(cc p.1 i).f0, (cc p.1 i).f1 - d, (cc p.1 i).f2, (cc p.1 i).f3⟩ else cc p.1 j := fun j => cc_set _ _ _ _ (by rw [hp.len]; exact hil)
 have hform : ∀ j, j < l.length → Form homes c t l j (cc (p.1.set i ⟨(cc p.1 i).f0, (cc p.1 i).f1 - d, (cc p.1 i).f2, (cc p.1 i).f3⟩) j) := fun j hj => by
  rw [hset j]
  by_cases e : i = j
  ·subst e
   rw [if_pos rfl]
   exact ⟨hf.home, hf.lo, hf.hi, hf.sure, by show bLo c t l i ≤ (cc p.1 i).f1 - d; omega, by show (cc p.1 i).f1 - d ≤ bHi c t l i; omega⟩
  ·rw [if_neg e]; exact hp.form j hj
 have hsum : p.2 - d = sm (fun j => (cc (p.1.set i ⟨(cc p.1 i).f0, (cc p.1 i).f1 - d, (cc p.1 i).f2, (cc p.1 i).f3⟩) j).f1) (List.range l.length) := by
  rw [sm_upd (fun j => (cc p.1 j).f1) _ i (-d) (fun j hj => by show (cc _ j).f1 = _; rw [hset j, if_neg (fun e => hj e.symm)]) (by show (cc _ i).f1 = _; rw [hset i, if_pos rfl]; show (cc p.1 i).f1 - d = _; omega) l.length, if_pos hil, ← hp.sum]
  omega
 refine ⟨by show (p.1.set _ _).length = _; rw [List.length_set, hp.len], hform, hsum, ?_, ?_⟩
 ·show 0 ≤ p.2 - d ∧ p.2 - d ≤ _
  rw [hsum]
  exact sm_cents h hform
 ·intro hlt j hj hjk
  have hlt' : c < p.2 - d := hlt
  show (cc (p.1.set _ _) j).f1 = _
  rw [hset j]
  by_cases e : i = j
  ·subst e
   rw [if_pos rfl]
   show (cc p.1 i).f1 - d = _
   omega
  ·rw [if_neg e]
   exact hp.low (by omega) j hj (by omega)
theorem low_all (homes : List Int) (h : PartsOk c t l) : ∀ k, k ≤ l.length → LowAt homes c t l k (lowAll c (downTo l.length k) (billsN homes (l.map (chgR c t)) l.length l.length, sumN (l.map (chgR c t)) l.length)) := by
 intro k
 induction k with
 | zero => intro _; exact low_start homes h
 | succ k ih =>
  intro hk
  have h1 := ih (by omega)
  have e : ∀ q, lowAll c (downTo l.length (k + 1)) q = lowStep c (lowAll c (downTo l.length k) q) (l.length - 1 - k) := fun q => by
   unfold lowAll
   rw [downTo_succ, List.foldl_append]
   rfl
  rw [e]
  exact (low_step h (by omega) h1).1
theorem lows_sum (h : PartsOk c t l) : ∀ n, n ≤ l.length → 2 * t * sm (bLo c t l) (List.range n) ≤ 2 * (c * sm (fun j => (qq l j).f0) (List.range n)) + t * n := by
 intro n
 induction n with
 | zero => intro _; simp [sm_nil]
 | succ n ih =>
  intro hn
  have h1 := ih (by omega)
  have h2 := right_lo (c := c) (v := (qq l n).f0) h.2.2.1
  rw [List.range_succ, sm_append, sm_append, sm_cons, sm_cons, sm_nil, sm_nil, Int.add_zero, Int.add_zero, Int.mul_add, Int.mul_add, Int.natCast_add, Int.mul_add]
  have e : bLo c t l n = rightV c t (qq l n).f0 := rfl
  have e3 : t * ((n : Int) + ((1 : Nat) : Int)) = t * n + t := by rw [Int.mul_add]; simp
  rw [e, e3]
  omega
theorem lows_sum_ge (h : PartsOk c t l) : ∀ n, n ≤ l.length → 2 * (c * sm (fun j => (qq l j).f0) (List.range n)) ≤ 2 * t * sm (bLo c t l) (List.range n) + t * n := by
 intro n
 induction n with
 | zero => intro _; simp [sm_nil]
 | succ n ih =>
  intro hn
  have h1 := ih (by omega)
  have h2 := right_hi (c := c) (v := (qq l n).f0) h.2.2.1
  rw [List.range_succ, sm_append, sm_append, sm_cons, sm_cons, sm_nil, sm_nil, Int.add_zero, Int.add_zero, Int.mul_add, Int.mul_add, Int.natCast_add, Int.mul_add]
  have e : bLo c t l n = rightV c t (qq l n).f0 := rfl
  have e3 : t * ((n : Int) + ((1 : Nat) : Int)) = t * n + t := by rw [Int.mul_add]; simp
  rw [e, e3]
  omega
inductive ShareIs (c t : Int) (homes : List Int) (l : List RGE) : List CH × Int × Int → Prop
 | arg : ¬ (PartsOk c t l ∧ homes.length = l.length ∧ homesB 0 homes = true) → ShareIs c t homes l ([], 0, 1)
 | flow : PartsOk c t l → homes.length = l.length → homesB 0 homes = true → t < leastN l l.length → ShareIs c t homes l ([], 0, 30)
 | ok (p : List CH × Int) : PartsOk c t l → homes.length = l.length → homesB 0 homes = true → ¬ t < leastN l l.length → LowAt homes c t l l.length p →
   p = lowAll c (downTo l.length l.length) (billsN homes (l.map (chgR c t)) l.length l.length, sumN (l.map (chgR c t)) l.length) → ShareIs c t homes l (p.1, c - p.2, 0)
theorem shareC_is (c t : Int) (homes : List Int) (l : List RGE) : ShareIs c t homes l (shareC c t homes l) := by
 unfold shareC
 by_cases h : PartsOk c t l
 case neg =>
  rw [boundsC_no h, if_neg (by decide)]
  exact .arg (fun hh => h hh.1)
 rw [boundsC_ok h, if_pos rfl]
 by_cases hb : homes.length ≠ l.length ∨ homesB 0 homes = false
 ·rw [if_pos hb]
  refine .arg (fun hh => ?_)
  rcases hb with hb | hb
  ·exact hb hh.2.1
  ·rw [hh.2.2] at hb; cases hb
 rw [if_neg hb]
 have h1 : homes.length = l.length := Classical.byContradiction fun hn => hb (.inl hn)
 have h2 : homesB 0 homes = true := by
  cases hx : homesB 0 homes with
  | true => rfl
  | false => exact absurd (.inr hx) hb
 by_cases hl : t < leastN l l.length
 ·rw [if_pos hl]
  exact .flow h h1 h2 hl
 rw [if_neg hl]
 have hL := low_all homes h l.length (Nat.le_refl _)
 obtain ⟨p, hp⟩ : ∃ p, p = lowAll c (downTo l.length l.length) (billsN homes (l.map (chgR c t)) l.length l.length, sumN (l.map (chgR c t)) l.length) := ⟨_, rfl⟩
 show ShareIs c t homes l ((lowAll c (downTo l.length l.length) (billsN homes (l.map (chgR c t)) l.length l.length, sumN (l.map (chgR c t)) l.length)).1, wrap64 (c - (lowAll c (downTo l.length l.length) (billsN homes (l.map (chgR c t)) l.length l.length, sumN (l.map (chgR c t)) l.length)).2), 0)
 rw [← hp] at hL ⊢
 have hbd := hL.bd
 have hc := h.1
 have hc1 := h.2.1
 rw [wrap_id' (by omega) (by omega)]
 exact .ok p h h1 h2 hl hL hp
theorem house_ge {homes : List Int} (h : PartsOk c t l) (hl : ¬ t < leastN l l.length) {p : List CH × Int} (hp : LowAt homes c t l l.length p) : -2 * (c - p.2) ≤ (l.length : Int) := by
 by_cases hlt : c < p.2
 case neg => omega
 have hlow := hp.low hlt
 have hs : p.2 = sm (bLo c t l) (List.range l.length) := by
  rw [hp.sum]
  exact sm_congr (fun j hj => hlow j (List.mem_range.1 hj) (by omega))
 have h1 := lows_sum h l.length (Nat.le_refl _)
 have h2 := (least_at h l.length (Nat.le_refl _)).1
 have ht := h.2.2.1
 have h3 : c * sm (fun j => (qq l j).f0) (List.range l.length) ≤ c * t := Int.mul_le_mul_of_nonneg_left (by rw [← h2]; omega) h.1
 have h4 : t * (2 * p.2) ≤ t * (2 * c + l.length) := by
  rw [Int.mul_add, ← Int.mul_assoc, Int.mul_comm t 2, hs, ← Int.mul_assoc t 2 c, Int.mul_comm t 2, Int.mul_assoc 2 t c, Int.mul_comm t c]
  omega
 have := Int.le_of_mul_le_mul_left h4 (by omega)
 omega
end
end Go.Proofs.Ytbgchacafglcpaa.P
end
section
namespace Go.Proofs.Ytbgchacafglcpaa.P
open Go.RowKit Go.Proofs.YtbgchacafglcpaaW.PrintWords Go.Proofs.YtbgchacafglcpaaW.PrintLast Go.Proofs.YtbgchacafglcpaaW.PrintMore Go.Proofs.YtbgchacafglcpaaH Go.Proofs.FlowTree
abbrev idP (l : List S63) (i : Nat) : Int := (rd_T63 l i).f0
abbrev abP (l : List S63) (i : Nat) : Int := (rd_T63 l i).f1
abbrev loP (l : List S63) (i : Nat) : Int := (rd_T63 l i).f2
def okP (l : List S63) (i : Nat) : Prop := 1 ≤ idP l i ∧ (0 < i → idP l (i - 1) < idP l i) ∧ (0 ≤ loP l i ∧ loP l i ≤ 1000000000) ∧ (abP l i ≠ 0 → ∃ j, j < i ∧ idP l j = abP l i)
def kidsAt (l : List S63) (m i : Nat) : List Nat := (List.range m).filter (fun k => decide (i < k) && decide (abP l k = idP l i))
def netT (l : List S63) : Net := { n := l.length, kid := kidsAt l l.length, loss := loP l }
theorem kidsAt_mem {l : List S63} {m i k : Nat} : k ∈ kidsAt l m i ↔ k < m ∧ i < k ∧ abP l k = idP l i := by
 simp [kidsAt]
theorem kidsAt_succ (l : List S63) (m i : Nat) : kidsAt l (m + 1) i = kidsAt l m i ++ (if i < m ∧ abP l m = idP l i then [m] else []) := by
 unfold kidsAt
 rw [List.range_succ, List.filter_append]
 congr 1
 by_cases h : i < m ∧ abP l m = idP l i
 ·rw [if_pos h, List.filter_cons_of_pos (by simp [h])]; rfl
 ·rw [if_neg h, List.filter_cons_of_neg (by simpa using h)]; rfl
theorem asc_of {l : List S63} {m : Nat} (h : ∀ i, i < m → okP l i) : ∀ d i j, j = i + d + 1 → j < m → idP l i < idP l j := by
 intro d
 induction d with
 | zero =>
  intro i j e hj
  have := (h j hj).2.1 (by omega)
  rwa [show j - 1 = i by omega] at this
 | succ d ih =>
  intro i j e hj
  have h1 := ih i (j - 1) (by omega) (by omega)
  have h2 := (h j hj).2.1 (by omega)
  omega
theorem asc {l : List S63} {m : Nat} (h : ∀ i, i < m → okP l i) {i j : Nat} (hij : i < j) (hj : j < m) : idP l i < idP l j := asc_of h (j - i - 1) i j (by omega) hj
theorem id_inj {l : List S63} {m : Nat} (h : ∀ i, i < m → okP l i) {i j : Nat} (hi : i < m) (hj : j < m) (e : idP l i = idP l j) : i = j := by
 rcases Nat.lt_trichotomy i j with h1 | h1 | h1
 ·have := asc h h1 hj; omega
 ·exact h1
 ·have := asc h h1 hi; omega
theorem isVol_iff (n : Int) : isVol n = true ↔ 0 ≤ n ∧ n ≤ 1000000000 := by simp [isVol]
structure OpenAt (l : List S63) (m : Nat) (kids : List (List Int)) (at_ : Int → Option Int) : Prop where
 len : kids.length = l.length
 kid : ∀ j, j < l.length → rdK kids j = (kidsAt l m j).map Int.ofNat
 has : ∀ id j, at_ id = some j → ∃ n : Nat, j = n ∧ n < m ∧ idP l n = id
 all : ∀ n, n < m → at_ (idP l n) = some (n : Int)
theorem rdK_set (kids : List (List Int)) (i j : Nat) (x : List Int) (hi : i < kids.length) : rdK (kids.set i x) j = if i = j then x else rdK kids j := by
 simp only [rdK, List.getD_eq_getElem?_getD, Int.toNat_natCast, List.getElem?_set]
 by_cases h : i = j
 ·subst h; simp [hi]
 ·simp [h]
theorem bad_iff (l : List S63) (m : Nat) (kids : List (List Int)) (at_ : Int → Option Int) (h : OpenAt l m kids at_) : badP l m (at_ (abP l m)).isSome = false ↔ okP l m := by
 have hasiff : (at_ (abP l m)).isSome = true ↔ ∃ j, j < m ∧ idP l j = abP l m := by
  constructor
  ·intro hs
   obtain ⟨j, hj⟩ := Option.isSome_iff_exists.1 hs
   obtain ⟨n, _, hn, e⟩ := h.has _ _ hj
   exact ⟨n, hn, e⟩
  ·rintro ⟨j, hj, e⟩
   rw [← e, h.all j hj]
   rfl
 have hm1 : (0 : Int) < (m : Int) → ((m : Int) - 1) = ((m - 1 : Nat) : Int) := by omega
 unfold badP okP
 simp only [idP, loP, abP] at *
 constructor
 ·intro hb
  simp only [Bool.or_eq_false_iff, Bool.and_eq_false_iff, decide_eq_false_iff_not, Bool.not_eq_false', isVol_iff, bne_eq_false_iff_eq, Bool.not_eq_false'] at hb
  obtain ⟨⟨⟨h1, h2⟩, h3⟩, h4⟩ := hb
  refine ⟨by omega, fun hm => ?_, h3, fun ha => ?_⟩
  ·rcases h2 with h2 | h2
   ·omega
   ·rw [hm1 (by omega)] at h2; omega
  ·rcases h4 with h4 | h4
   ·exact absurd h4 ha
   ·exact hasiff.1 h4
 ·rintro ⟨h1, h2, h3, h4⟩
  simp only [Bool.or_eq_false_iff, Bool.and_eq_false_iff, decide_eq_false_iff_not, Bool.not_eq_false', isVol_iff, bne_eq_false_iff_eq, Bool.not_eq_false']
  refine ⟨⟨⟨by omega, ?_⟩, h3⟩, ?_⟩
  ·by_cases hm : 0 < m
   ·refine .inr ?_
    rw [hm1 (by omega)]
    have := h2 hm
    omega
   ·exact .inl (by omega)
  ·by_cases ha : abP l m = 0
   ·exact .inl ha
   ·exact .inr (hasiff.2 (h4 ha))
theorem open_step (l : List S63) (m : Nat) (hm : m < l.length) (kids : List (List Int)) (at_ : Int → Option Int) (h : OpenAt l m kids at_) (hok : ∀ i, i < m + 1 → okP l i) :
  OpenAt l (m + 1) (addKid kids (at_ (abP l m)) m) (setI at_ (idP l m) m) := by
 refine ⟨(addKid_len _ _ _).trans h.len, fun j hj => ?_, fun id j hj => ?_, fun n hn => ?_⟩
 ·rw [kidsAt_succ, List.map_append]
  cases ha : at_ (abP l m) with
  | none =>
   have hno : ¬ (j < m ∧ abP l m = idP l j) := by
    rintro ⟨h1, h2⟩
    rw [h2, h.all j h1] at ha
    cases ha
   rw [if_neg hno]
   simp only [addKid, List.map_nil, List.append_nil]
   exact h.kid j hj
  | some a =>
   obtain ⟨n, rfl, hn, hid⟩ := h.has _ _ ha
   have hnl : n < kids.length := by rw [h.len]; omega
   simp only [addKid]
   rw [Int.toNat_natCast, rdK_set _ _ _ _ hnl]
   by_cases e : n = j
   ·subst e
    rw [if_pos rfl, if_pos ⟨hn, hid.symm⟩, h.kid n hj]
    rfl
   ·rw [if_neg e, if_neg (fun hh => e (id_inj hok (by omega) (by omega) (hid.trans hh.2))), h.kid j hj]
    simp
 ·unfold setI at hj
  split at hj
  ·rename_i e
   injection hj with hj
   exact ⟨m, hj.symm, by omega, e.symm⟩
  ·obtain ⟨n, e, hn, hid⟩ := h.has _ _ hj
   exact ⟨n, e, by omega, hid⟩
 ·unfold setI
  by_cases e : n = m
  ·subst e; rw [if_pos rfl]
  ·rw [if_neg (fun hh => e (id_inj hok (by omega) (by omega) hh)), h.all n (by omega)]
theorem openL_spec (l : List S63) : ∀ (k m : Nat) (kids : List (List Int)) (at_ : Int → Option Int), m + k = l.length → OpenAt l m kids at_ → (∀ i, i < m → okP l i) →
  (∀ r, openL l k kids at_ m = some r → (∀ i, i < l.length → okP l i) ∧ r.length = l.length ∧ ∀ j, j < l.length → rdK r j = (kidsAt l l.length j).map Int.ofNat) ∧ ((∀ i, i < l.length → okP l i) → ∃ r, openL l k kids at_ m = some r) := by
 intro k
 induction k with
 | zero =>
  intro m kids at_ hm h hok
  have e : m = l.length := by omega
  subst e
  refine ⟨fun r hr => ?_, fun _ => ⟨kids, rfl⟩⟩
  simp only [openL, Option.some.injEq] at hr
  subst hr
  exact ⟨hok, h.len, h.kid⟩
 | succ k ih =>
  intro m kids at_ hm h hok
  have hb := bad_iff l m kids at_ h
  simp only [openL]
  cases hbad : badP l m (at_ (abP l m)).isSome with
  | true =>
   have hno : ¬ okP l m := fun ho => by rw [hb.2 ho] at hbad; cases hbad
   rw [if_pos rfl]
   exact ⟨(fun r hr => by cases hr), fun ho => absurd (ho m (by omega)) hno⟩
  | false =>
   have hyes := hb.1 hbad
   rw [if_neg (by decide)]
   have hok' : ∀ i, i < m + 1 → okP l i := fun i hi => by
    by_cases h' : i < m
    ·exact hok i h'
    ·rw [show i = m by omega]; exact hyes
   have := ih (m + 1) (addKid kids (at_ (abP l m)) m) (setI at_ (idP l m) m) (by omega) (open_step l m (by omega) kids at_ h hok') hok'
   rw [show ((m + 1 : Nat) : Int) = (m : Int) + 1 from by omega] at this
   exact this
theorem openAt0 (l : List S63) : OpenAt l 0 (List.replicate l.length []) (fun _ => none) := by
 refine ⟨by simp, fun j hj => ?_, (fun id j hj => by cases hj), fun n hn => absurd hn (Nat.not_lt_zero _)⟩
 simp [rdK, kidsAt, List.getD_eq_getElem?_getD, hj]
def okL (l : List S63) : Prop := ∀ i, i < l.length → okP l i
theorem openK_some {l : List S63} {kids : List (List Int)} (h : openK l = some kids) : okL l ∧ ∀ j, j < l.length → rdK kids j = (kidsAt l l.length j).map Int.ofNat := by
 have := (openL_spec l l.length 0 _ _ (by omega) (openAt0 l) (fun i hi => absurd hi (Nat.not_lt_zero _))).1 kids h
 exact ⟨this.1, this.2.2⟩
theorem openK_of {l : List S63} (h : okL l) : ∃ kids, openK l = some kids :=
 (openL_spec l l.length 0 _ _ (by omega) (openAt0 l) (fun i hi => absurd hi (Nat.not_lt_zero _))).2 h
theorem netT_ok {l : List S63} (h : okL l) : (netT l).Ok := by
 refine ⟨fun i k hk => ?_, fun i => ?_, fun i j k hi hj => ?_, fun i hi => (h i hi).2.2.1.1⟩
 ·have := kidsAt_mem.1 hk; exact ⟨this.2.1, this.1⟩
 ·exact List.Nodup.sublist List.filter_sublist List.nodup_range
 ·have h1 := kidsAt_mem.1 hi
  have h2 := kidsAt_mem.1 hj
  exact id_inj h (show i < l.length by omega) (show j < l.length by omega) (h1.2.2.symm.trans h2.2.2)
end Go.Proofs.Ytbgchacafglcpaa.P
end
