/- Part 3 of the base that the seat's proofs share: words, walks and plain laws. -/
import Derived.ArgAppend
import Derived.Below
import Derived.BigQuiet
import Derived.ChangeOld
import Derived.ChangeSlices
import Derived.Deep.AppendLies
import Derived.Deep.CutBlock
import Derived.Deep.DeepCutAuto
import Derived.Deep.Draws
import Derived.Deep.LoopGhost
import Derived.Deep.OwnRows
import Derived.Deep.QuietTactic
import Derived.Deep.RegionHeld3
import Derived.Deep.Slices
import Derived.KernelRfl
import Derived.Laws.BitsLemmas
import Derived.Laws.BytesArg
import Derived.Laws.IdiomCopy
import Derived.Laws.MakeOwn
import Derived.Laws.OwnMore
import Derived.Laws.Rows
import Derived.Laws.Slices
import Derived.Laws.StructEq
import Derived.Lib.AppendStr
import Derived.Lib.BufferOwn
import Derived.Lib.ConvBytes
import Derived.Lib.SliceRun
import Derived.LoopIn
import Derived.LoopNIn
import Derived.Maps.AppendAt
import Derived.Maps.Own
import Derived.OpenShut
import Derived.OrdersHeld
import Derived.OwnWalk
import Derived.OwnWalkIn
import Derived.ProofKit
import Derived.RangeFuncBound
import Derived.RangeFuncCalls
import Derived.RangeFuncLeaves
import Derived.RangeFuncNested
import Derived.RowKit
import Derived.RowKit3
import Derived.ShutString
import Derived.SizedLaws
import Derived.Tactics
import Derived.TacticsInMore
import Derived.Test.YtolmjhpapidmhaaProg
import Derived.WalkKit
import Derived.WideLaws
import Derived.Test.YtolmjhpapidmhaaCBb
set_option linter.unusedVariables false
set_option linter.unusedSimpArgs false
section
namespace Go.Proofs.Ytolmjhpapidmhaa.P
open Go.RowKit Go.Proofs.YtolmjhpapidmhaaW.PrintWords Go.Proofs.YtolmjhpapidmhaaW.PrintLast Go.Proofs.YtolmjhpapidmhaaW.PrintMore
attribute [local go_sem] max2_int min2_int max_two min_two max_three min_three max_four min_four
set_option linter.unusedVariables false
set_option linter.unusedSimpArgs false
set_option maxHeartbeats 8000000
set_option maxRecDepth 100000
section
open Go.Proofs.YtolmjhpapidmhaaH
theorem index_l0 (l : List Int) (x : Int) (hl : l.length ≤ 140737488355328) : ∀ (d i k : Nat), i + d = l.length → d < k → ∃ r, slices_Index_int_int.l0 k l x (l.length : Int) (i : Int) = some r ∧ decide (r ≥ 0) = (l.drop i).contains x := by
 intro d
 induction d with
 | zero =>
  intro i k hi hk
  obtain ⟨k, rfl⟩ : ∃ m, k = m + 1 := ⟨k - 1, by omega⟩
  refine ⟨-1, ?_, ?_⟩
  ·simp only [slices_Index_int_int.l0]
   rw [if_neg (by omega)]
  ·rw [List.drop_of_length_le (by omega)]
   rfl
 | succ d ih =>
  intro i k hi hk
  obtain ⟨k, rfl⟩ : ∃ m, k = m + 1 := ⟨k - 1, by omega⟩
  have hlt : i < l.length := by omega
  simp only [slices_Index_int_int.l0]
  rw [if_pos (by omega), if_pos (by omega), if_pos (by omega), rd_drop l i hlt]
  by_cases e : x = rd l (i : Int)
  ·rw [if_pos e]
   exact ⟨_, rfl, by rw [decide_eq_true (by omega : (i : Int) ≥ 0), List.contains_cons, e]; simp⟩
  ·rw [if_neg e, show wrap64 ((i : Int) + 1) = ((i + 1 : Nat) : Int) by unfold wrap64; omega]
   obtain ⟨r, h1, h2⟩ := ih (i + 1) k (by omega) (by omega)
   exact ⟨r, h1, by rw [h2, List.contains_cons, beq_eq_false_iff_ne.2 e, Bool.false_or]⟩
theorem contains_f (l : List Int) (x : Int) (hl : l.length ≤ 140737488355328) : slices_Contains_int_int.f (l.length + 1) l x = some (l.contains x) := by
 obtain ⟨r, h1, h2⟩ := index_l0 l x hl l.length 0 (l.length + 1) (by omega) (by omega)
 unfold slices_Contains_int_int.f slices_Index_int_int.f
 have h1' : slices_Index_int_int.l0 (l.length + 1) l x (l.length : Int) 0 = some r := h1
 rw [h1']
 simp only [Option.bind_some]
 rw [h2]
 rfl
def notIn (ts : List Int) (x : Int) : Bool := !(ts.contains x)
theorem notIn_calls (x : Int) (At : Option Addr) (ct : Nat) (ts : List Int) (gq : Nat) (b : Bool) (w : World) (hq : w.heap[gq]? = some (.cells #[.slice At ts.length ct] 26 (0, 0))) (hC : Kd.C (Kd.int .i64) w At ts.length ts) (hct : ts.length ≤ ct) (hl : ts.length ≤ 140737488355328) (hb : notIn ts x = b) :
  Calls Try.prog 32 #[.int .i64 x, .pointer (some ⟨gq, 0, none⟩)] w fun e w' => e = .returned (.bool b) ∧ Below w.heap.size w w' := by
 have hcq : w.cell? ⟨gq, 0, none⟩ = some (.slice At ts.length ct) := (blk_cell hq 0).trans rfl
 have hf := contains_f ts x hl
 have HC := Aside0.mk hC
 have HCT := Aside0.mk hct
 have hb' : (!(ts.contains x)) = b := hb
 generalize ts.contains x = cb at hf hb'
 have HF := Aside0.mk hf
 have HBB := Aside0.mk hb'
 clear hq hC hct hb hl hb' hf
 go_enter Try.func32, Try.ntmps32
 go_wp2_with (first | (go_at_call 33; (with_reducible refine (slices_Contains_int_int.calls (ts.length + 1) At ct ts x _ _ HC.out HCT.out HF.out).mono ?_); rintro e w1 ⟨rfl, hd_⟩; have HB := Aside0.mk hd_.below; clear hd_ hcq))
 go_ret
 exact ⟨by rw [← HBB.out]; rfl, HB.out⟩
def idxBI (p : Int → Bool) (l : List Int) : Int := match l.findIdx? p with | some i => i | none => -1
theorem idxBI_some (p : Int → Bool) (l : List Int) (i : Int) (h0 : 0 ≤ i) (h1 : i < l.length) (hp : p (rd l i) = true) (hb : ∀ j : Nat, j < i.toNat → p (rd l j) = false) : idxBI p l = i := by
 have h' : i.toNat < l.length := by omega
 have hf : l.findIdx? p = some i.toNat := by
  rw [List.findIdx?_eq_some_iff_getElem]
  refine ⟨h', ?_, fun j hj => ?_⟩
  ·have := hp
   simpa [rd, List.getD_eq_getElem?_getD, h'] using this
  ·have := hb j hj
   have hj' : j < l.length := by omega
   simpa [rd, List.getD_eq_getElem?_getD, hj'] using this
 unfold idxBI
 rw [hf]
 show ((i.toNat : Nat) : Int) = i
 omega
theorem idxBI_none (p : Int → Bool) (l : List Int) (hb : ∀ j : Nat, j < l.length → p (rd l j) = false) : idxBI p l = -1 := by
 have hf : l.findIdx? p = none := by
  rw [List.findIdx?_eq_none_iff]
  intro x hx
  obtain ⟨j, hj, rfl⟩ := List.mem_iff_getElem.1 hx
  have := hb j hj
  simpa [rd, List.getD_eq_getElem?_getD, hj] using this
 unfold idxBI
 rw [hf]
theorem notin_index (A0 : Option Addr) (c0 : Nat) (l0 : List (Int)) (w : World) (hr0 : Kd.C (Kd.int .i64) w A0 l0.length l0) (hc0 : l0.length ≤ c0) (hn : l0.length ≤ 140737488355328) (gq : Nat) (At : Option Addr) (ct : Nat) (ts : List Int) (hq : w.heap[gq]? = some (.cells #[.slice At ts.length ct] 26 (0, 0))) (hT : Kd.C (Kd.int .i64) w At ts.length ts) (hct : ts.length ≤ ct) (htl : ts.length ≤ 140737488355328) :
 Calls Try.prog 48 #[.slice A0 l0.length c0, .func (.func 32) #[] #[.pointer (some ⟨gq, 0, none⟩)]] w fun e w' => e = .returned (.int .i64 (idxBI (notIn ts) l0)) ∧ Below w.heap.size w w' := by
 have HR0 := Aside0.mk hr0
 have HC0 := Aside0.mk hc0
 have HN := Aside0.mk hn
 clear hr0 hc0 hn
 have HQ := Aside0.mk hq
 have HT := Aside0.mk hT
 have HCT := Aside0.mk hct
 have HTL := Aside0.mk htl
 clear hq hT hct htl
 have HB := Aside0.mk (Below.refl w.heap.size w)
 go_enter Try.func48, Try.ntmps48
 go_wp2
 go_loopg [8] l0.length (fun kq v8 w' => ∃ (i : Int), v8 = .int .i64 i ∧ Aside0 (∀ j : Nat, j < i.toNat → (notIn ts) (rd l0 j) = false) ∧ Aside0 (0 ≤ i ∧ kq + i.toNat = l0.length) ∧ Aside0 (Below w.heap.size w w'))
 case atStart => exact ⟨0, rfl, ⟨fun j hj => by simp at hj⟩, ⟨by simp⟩, HB⟩
 case round =>
  obtain ⟨i, rfl, HS, HK, HB⟩ := hrel
  by_cases hlt : i < l0.length
  ·have c1 : decide ((i:Int) < (l0.length : Int)) = true := decide_eq_true hlt
   have c2 : (0 ≤ i) = True := eq_true HK.out.1
   have c3 : (i < l0.length) = True := eq_true hlt
   obtain ⟨ad, e, hx0⟩ := Kd.at_int HR0.out i HK.out.1 hlt
   cases e
   replace hx0 := (HB.out.cell (World.block_lt_of_cell? w _ hx0)).trans hx0
   have HL := Aside0.mk hlt
   clear hlt
   have hw1 : i + 1 ≤ 9223372036854775807 := by have := HN.out; have := HL.out; omega
   have hw2 : 0 ≤ i + 1 := by have := HK.out; omega
   cases hp : (notIn ts) (rd l0 i) with
   | true =>
    have HP := Aside0.mk hp
    clear hp
    go_wp2_with (first | ((with_reducible refine (notIn_calls (rd l0 i) At ct ts gq _ _ (blk_below HQ.out HB.out) (Kd.C_below HT.out HB.out) HCT.out HTL.out HP.out).mono ?_); rintro e w1 ⟨rfl, hb⟩; have HB1 := Aside0.mk hb; clear hb))
    go_ret
    refine ⟨?_, HB.out.trans (HB1.out.mono HB.out.size)⟩
    rw [idxBI_some _ _ i HK.out.1 HL.out HP.out HS.out]
    first | rfl | (simp; done)
   | false =>
    have HP := Aside0.mk hp
    clear hp
    go_wp2_with (first | ((with_reducible refine (notIn_calls (rd l0 i) At ct ts gq _ _ (blk_below HQ.out HB.out) (Kd.C_below HT.out HB.out) HCT.out HTL.out HP.out).mono ?_); rintro e w1 ⟨rfl, hb⟩; have HB1 := Aside0.mk hb; clear hb))
    go_roundg (gk - 1)
    case measure => have := HK.out; have := HL.out; omega
    case rel =>
     refine ⟨i + 1, ?_, ⟨fun j hj => ?_⟩, ⟨by have := HK.out; have := HL.out; omega⟩, ⟨HB.out.trans (HB1.out.mono HB.out.size)⟩⟩
     ·first | rfl | (simp; done)
     ·by_cases hji : j < i.toNat
      ·exact HS.out j hji
      ·have : (j : Int) = i := by have := HK.out; omega
       rw [this]
       exact HP.out
  ·have c1 : decide ((i:Int) < (l0.length : Int)) = false := decide_eq_false hlt
   have HL := Aside0.mk hlt
   clear hlt
   go_wp2
   go_ret
   refine ⟨?_, HB.out⟩
   rw [idxBI_none _ _ (fun j hj => HS.out j (by have := HK.out; have := HL.out; omega))]
   first | rfl | (simp; done)
section
variable {g cap n e base : Nat} {ok : Nat → Prop}
theorem R_zeros : ∀ (d o : Nat) (W : World) (xs : List Int), o + d = xs.length → (Kd.int .i64).R e W base ok (.slice (some ⟨g, 0, none⟩) n cap) xs →
  (Kd.int .i64).R e (W.setCells g o (List.replicate d (.int .i64 0))) base ok (.slice (some ⟨g, 0, none⟩) n cap) (xs.take o ++ List.replicate d 0) ∧ W.grownBy (W.setCells g o (List.replicate d (.int .i64 0))) (some g)
 | 0, o, W, xs, hl, h => by
  have e1 : xs.take o ++ List.replicate 0 (0 : Int) = xs := by rw [List.take_of_length_le (by omega)]; simp
  rw [e1]
  exact ⟨h, World.grownBy.refl W _⟩
 | d + 1, o, W, xs, hl, h => by
  have h1 := Kd.R_putg (enc := Value.int .i64) h (o : Int) (0 : Int)
  rw [Int.toNat_natCast] at h1
  have h2 := R_zeros d (o + 1) (W.setCell ⟨g, o, none⟩ (.int .i64 0)) (xs.set o 0) (by rw [List.length_set]; omega) h1.1
  have e1 : (xs.set o 0).take (o + 1) ++ List.replicate d (0 : Int) = xs.take o ++ List.replicate (d + 1) 0 := by
   rw [List.replicate_succ, List.take_succ_eq_append_getElem (by rw [List.length_set]; omega), List.getElem_set_self, List.take_set_of_le (Nat.le_refl _), List.append_assoc]
   rfl
  rw [e1] at h2
  refine ⟨h2.1, grown_trans h1.2 h2.2⟩
end
theorem find_none {p : Int → Bool} {l : List Int} (h : idxBI p l = -1) : l.filter (fun x => !(p x)) = l := by
 unfold idxBI at h
 cases hf : l.findIdx? p with
 | some i => rw [hf] at h; simp only at h; omega
 | none =>
  rw [List.findIdx?_eq_none_iff] at hf
  exact List.filter_eq_self.2 (fun x hx => by rw [hf x hx]; rfl)
theorem find_some {p : Int → Bool} {l : List Int} {i : Int} (h : idxBI p l = i) (hi : i ≠ -1) : 0 ≤ i ∧ i < l.length ∧ l.take i.toNat = (l.take (i.toNat + 1)).filter (fun x => !(p x)) := by
 unfold idxBI at h
 cases hf : l.findIdx? p with
 | none => rw [hf] at h; exact absurd h.symm hi
 | some j =>
  rw [hf] at h
  simp only at h
  obtain ⟨h1, h2, h3⟩ := List.findIdx?_eq_some_iff_getElem.1 hf
  subst h
  refine ⟨by omega, by omega, ?_⟩
  rw [Int.toNat_natCast, List.take_succ_eq_append_getElem h1, List.filter_append, List.filter_cons_of_neg (by rw [h2]; decide), List.filter_nil, List.append_nil]
  refine (List.filter_eq_self.2 fun x hx => ?_).symm
  obtain ⟨k, hk, rfl⟩ := List.mem_iff_getElem.1 hx
  rw [List.length_take] at hk
  rw [List.getElem_take]
  have := h3 k (by omega)
  simpa using this
theorem notin_filter (ts : List Int) : (fun x => !(notIn ts x)) = (fun x => ts.contains x) := by
 funext x
 unfold notIn
 rw [Bool.not_not]
theorem rd_at (xs : List Int) (j : Nat) (h : j < xs.length) : rd xs (j : Int) = xs[j] := by simp [rd, List.getD_eq_getElem?_getD, h]
theorem del_keep {xs ys : List Int} {i j : Int} {keep : Int → Bool} (h0 : 0 ≤ i) (hij : i < j) (hj : j < xs.length) (hl : ys.length = xs.length) (ht : ys.take i.toNat = (xs.take j.toNat).filter keep) (hd : ys.drop j.toNat = xs.drop j.toNat) (hk : keep (rd xs j) = true) :
  (ys.set i.toNat (rd xs j)).length = xs.length ∧ (ys.set i.toNat (rd xs j)).take (i + 1).toNat = (xs.take (j + 1).toNat).filter keep ∧ (ys.set i.toNat (rd xs j)).drop (j + 1).toNat = xs.drop (j + 1).toNat := by
 obtain ⟨i, rfl⟩ : ∃ n : Nat, i = (n : Int) := ⟨i.toNat, by omega⟩
 obtain ⟨j, rfl⟩ : ∃ n : Nat, j = (n : Int) := ⟨j.toNat, by omega⟩
 have hj' : j < xs.length := by omega
 rw [show ((i : Int) + 1).toNat = i + 1 by omega, show ((j : Int) + 1).toNat = j + 1 by omega]
 simp only [Int.toNat_natCast] at ht hd ⊢
 refine ⟨by rw [List.length_set, hl], ?_, ?_⟩
 ·rw [List.take_succ_eq_append_getElem (by rw [List.length_set]; omega), List.getElem_set_self, List.take_set_of_le (Nat.le_refl _), ht, List.take_succ_eq_append_getElem hj', List.filter_append, ← rd_at xs j hj', List.filter_cons_of_pos hk, List.filter_nil]
 ·rw [List.drop_set_of_lt (by omega)]
  have h1 : (ys.drop j).drop 1 = (xs.drop j).drop 1 := by rw [hd]
  rwa [List.drop_drop, List.drop_drop] at h1
theorem del_drop {xs ys : List Int} {i j : Int} {keep : Int → Bool} (h0 : 0 ≤ i) (hij : i < j) (hj : j < xs.length) (hl : ys.length = xs.length) (ht : ys.take i.toNat = (xs.take j.toNat).filter keep) (hd : ys.drop j.toNat = xs.drop j.toNat) (hk : keep (rd xs j) = false) :
  ys.length = xs.length ∧ ys.take i.toNat = (xs.take (j + 1).toNat).filter keep ∧ ys.drop (j + 1).toNat = xs.drop (j + 1).toNat := by
 obtain ⟨j, rfl⟩ : ∃ n : Nat, j = (n : Int) := ⟨j.toNat, by omega⟩
 have hj' : j < xs.length := by omega
 rw [show ((j : Int) + 1).toNat = j + 1 by omega]
 simp only [Int.toNat_natCast] at ht hd ⊢
 refine ⟨hl, ?_, ?_⟩
 ·rw [List.take_succ_eq_append_getElem hj', List.filter_append, ← rd_at xs j hj', List.filter_cons_of_neg (by rw [hk]; decide), List.filter_nil, List.append_nil, ht]
 ·have h1 : (ys.drop j).drop 1 = (xs.drop j).drop 1 := by rw [hd]
  rwa [List.drop_drop, List.drop_drop] at h1
theorem delete_calls (base : Nat) (A : Option Addr) (c : Nat) (xs : List Int) (gq : Nat) (At : Option Addr) (ct : Nat) (ts : List Int) (w : World) (hbase : base ≤ w.heap.size)
  (hr : Kd.R (Kd.int .i64) 3 w base (fun _ => True) (.slice A xs.length c) xs) (hn : xs.length ≤ 1000) (hq : w.heap[gq]? = some (.cells #[.slice At ts.length ct] 26 (0, 0)))
  (hT : Kd.R (Kd.int .i64) 3 w 0 (fun k => some k ≠ (Value.slice A xs.length c).ownBlock) (.slice At ts.length ct) ts) (htl : ts.length ≤ 1000) :
  Calls Try.prog 31 #[.slice A xs.length c, .func (.func 32) #[] #[.pointer (some ⟨gq, 0, none⟩)]] w fun e w' => ∃ m, m = (xs.filter (fun x => ts.contains x)).length ∧ e = .returned (.slice A m c) ∧ Kd.R (Kd.int .i64) 3 w' base (fun _ => True) (.slice A m c) (xs.filter (fun x => ts.contains x)) ∧ Below base w w' := by
 have HR := Aside0.mk hr
 have HN := Aside0.mk hn
 have HQ := Aside0.mk hq
 have HT := Aside0.mk hT
 have HTL := Aside0.mk htl
 have HBS := Aside0.mk hbase
 have HTR := Aside0.mk (Kd.R_reads' hT)
 have HRR := Aside0.mk (Kd.R_reads' hr)
 clear hr hn hq hT htl hbase
 obtain ⟨I, hI⟩ : ∃ I, idxBI (notIn ts) xs = I := ⟨_, rfl⟩
 have HI := Aside0.mk hI
 clear hI
 by_cases hi : I = -1
 ·have d1 : (I == -1) = true := beq_iff_eq.2 hi
  have HF := Aside0.mk (find_none (HI.out.trans hi))
  clear hi
  go_enter Try.func31, Try.ntmps31
  go_wp2_with (first | (go_at_call 48; (with_reducible refine (notin_index _ c xs _ HRR.out.2.2 HRR.out.2.1 (by have := HN.out; omega) gq At ct ts HQ.out HTR.out.2.2 HTR.out.2.1 (by have := HTL.out; omega)).mono ?_); rw [HI.out]; rintro e w1 ⟨rfl, hb_⟩; have HB0 := Aside0.mk hb_; have HB1 := Aside0.mk (hb_.mono HBS.out); clear hb_))
  go_ret
  rw [notin_filter] at HF
  refine ⟨xs.length, by rw [HF.out], rfl, ?_, HB1.out⟩
  rw [HF.out]
  exact Kd.R_below HR.out HB0.out
 have d1 : (I == -1) = false := beq_eq_false_iff_ne.2 hi
 have hfs := find_some HI.out hi
 rw [notin_filter] at hfs
 obtain ⟨hi0, hi1, hi2⟩ := hfs
 obtain ⟨g, cap, eg, gb0, gl0, gcl, hgcl⟩ := Kd.R_form HR.out (by omega)
 injection eg with e1 e2 e3
 subst e1
 subst e3
 have HI2 := Aside0.mk (show 0 ≤ I ∧ I < xs.length from ⟨hi0, hi1⟩)
 have HI3 := Aside0.mk hi2
 have GB := Aside0.mk gb0
 have GL := Aside0.mk hgcl
 have hz1 : I + 1 ≤ 9223372036854775807 := by have := HN.out; omega
 have hz2 : -9223372036854775808 ≤ I + 1 := by omega
 clear e2 gb0 gl0 hgcl hi hi0 hi1 hi2
 go_enter Try.func31, Try.ntmps31
 go_wp2_with (first | (go_at_call 48; (with_reducible refine (notin_index _ c xs _ HRR.out.2.2 HRR.out.2.1 (by have := HN.out; omega) gq At ct ts HQ.out HTR.out.2.2 HTR.out.2.1 (by have := HTL.out; omega)).mono ?_); rw [HI.out]; rintro e w1 ⟨rfl, hb_⟩; have HB0 := Aside0.mk hb_; have HB1 := Aside0.mk (hb_.mono HBS.out); clear hb_))
 go_loopg [5, 6] (xs.length - (I + 1).toNat) (fun kq v5 v6 wr => ∃ (i j : Int) (ys : List Int), v5 = .int .i64 i ∧ v6 = .int .i64 j ∧ Aside0 (0 ≤ i ∧ i < j ∧ kq + j.toNat = xs.length) ∧ Aside0 (ys.length = xs.length ∧ ys.take i.toNat = (xs.take j.toNat).filter (fun x => ts.contains x) ∧ ys.drop j.toNat = xs.drop j.toNat) ∧
  Aside0 (Kd.R (Kd.int .i64) 3 wr base (fun _ => True) (.slice (some ⟨g, 0, none⟩) xs.length c) ys) ∧ Aside0 (w.grownBy wr (some g)))
 case atStart =>
  refine ⟨I, I + 1, xs, ?_, ?_, ⟨by have := HI2.out; omega⟩, ⟨rfl, ?_, rfl⟩, ⟨Kd.R_below HR.out HB0.out⟩, ⟨grown_of_below HB0.out _⟩⟩
  ·first | rfl | (simp; done)
  ·first | rfl | (simp; done)
  ·rw [show (I + 1).toNat = I.toNat + 1 by have := HI2.out; omega]
   exact HI3.out
 case round =>
  clear HB0 HB1
  obtain ⟨i, j, ys, rfl, rfl, HM, HY, HS, HG⟩ := hrel
  have hqr := blk_grown HQ.out HG.out (fun e => by
   injection e with e
   have h1 := HQ.out
   rw [e, GL.out] at h1
   injection h1 with h1
   injection h1 with _ h2
   exact absurd h2 (by decide))
  have HQR := Aside0.mk hqr
  have HTR2 := Aside0.mk (Kd.R_grown HT.out HG.out (fun k hk => hk))
  have hBr : Below base w wr := ⟨HG.out.os, HG.out.tape, HG.out.output, HG.out.size, fun k hk => HG.out.block k (Nat.lt_of_lt_of_le hk HBS.out) (fun e => by injection e with e; have := GB.out; omega)⟩
  have HBR := Aside0.mk hBr
  clear hqr hBr
  by_cases hlt : j < xs.length
  ·have d2 : decide (j < (xs.length : Int)) = true := decide_eq_true hlt
   have HJ := Aside0.mk (show 0 ≤ j ∧ j < xs.length from ⟨by have := HM.out; omega, hlt⟩)
   have cj2 : (0 ≤ j) = True := eq_true HJ.out.1
   have cj3 : (j < xs.length) = True := eq_true HJ.out.2
   have ci2 : (0 ≤ i) = True := eq_true HM.out.1
   have ci3 : (i < xs.length) = True := eq_true (by have := HM.out; omega)
   have hz3 : j + 1 ≤ 9223372036854775807 := by have := HN.out; omega
   have hz4 : -9223372036854775808 ≤ j + 1 := by have := HJ.out; omega
   have hz5 : i + 1 ≤ 9223372036854775807 := by have := HN.out; have := HM.out; omega
   have hz6 : -9223372036854775808 ≤ i + 1 := by have := HM.out; omega
   obtain ⟨adj, eaj, hxj⟩ := Kd.at_int (Kd.R_reads' HS.out).2.2 j HJ.out.1 (by rw [HY.out.1]; exact HJ.out.2)
   injection eaj with eaj
   subst eaj
   rw [add_plain] at hxj
   have hrd : rd ys j = rd xs j := by
    have h1 := HY.out.2.2
    have e1 := rd_drop ys j.toNat (by have := HY.out.1; have := HJ.out; omega)
    have e2 := rd_drop xs j.toNat (by have := HJ.out; omega)
    rw [e1, e2] at h1
    rw [show ((j.toNat : Nat) : Int) = j by have := HJ.out; omega] at h1
    exact (List.cons.inj h1).1
   rw [hrd] at hxj
   obtain ⟨x, hx⟩ : ∃ x, x = rd xs j := ⟨_, rfl⟩
   rw [← hx] at hxj
   have HX := Aside0.mk hx
   clear hx hrd hlt
   cases hb : notIn ts x with
   | false =>
    have HBB := Aside0.mk hb
    have hkp : ts.contains (rd xs j) = true := by rw [← HX.out]; unfold notIn at hb; simpa using hb
    have HKP := Aside0.mk (del_keep HM.out.1 HM.out.2.1 HJ.out.2 HY.out.1 HY.out.2.1 HY.out.2.2 hkp)
    rw [← HX.out] at HKP
    clear hb hkp
    go_wp2_with (first | ((with_reducible refine (notIn_calls x At ct ts gq _ _ HQR.out (Kd.R_reads' HTR2.out).2.2 (Kd.R_reads' HTR2.out).2.1 (by have := HTL.out; omega) HBB.out).mono ?_); rintro e w2 ⟨rfl, hb_⟩; have HS2 := Aside0.mk (Kd.R_below HS.out hb_); have HG2 := Aside0.mk (grown_trans HG.out (grown_of_below hb_ (some g))); have hS' : Kd.R (Kd.int .i64) 3 w2 base (fun _ => True) (.slice (some ⟨g, 0, none⟩) ys.length c) ys := (by rw [HY.out.1]; exact HS2.out); have hci := (Kd.R_cell (0 : Int) hS' i HM.out.1 (by have h1_ := HY.out.1; have h2_ := HM.out; have h3_ := HJ.out; omega)).1; have hfi := (Kd.R_cell (0 : Int) hS' i HM.out.1 (by have h1_ := HY.out.1; have h2_ := HM.out; have h3_ := HJ.out; omega)).2; clear hb_ hS' hxj))
    have hP := Kd.R_putg (enc := Value.int .i64) HS2.out i x
    go_roundg (gk - 1)
    case measure => have := HM.out; have := HJ.out; omega
    case rel =>
     refine ⟨i + 1, j + 1, ys.set i.toNat x, ?_, ?_, ⟨by have := HM.out; have := HJ.out; omega⟩, ⟨HKP.out⟩, ⟨hP.1⟩, ⟨grown_trans HG2.out hP.2⟩⟩
     ·first | rfl | (simp; done)
     ·first | rfl | (simp; done)
   | true =>
    have HBB := Aside0.mk hb
    have hkp : ts.contains (rd xs j) = false := by rw [← HX.out]; unfold notIn at hb; simpa using hb
    have HKP := Aside0.mk (del_drop HM.out.1 HM.out.2.1 HJ.out.2 HY.out.1 HY.out.2.1 HY.out.2.2 hkp)
    clear hb hkp
    go_wp2_with (first | ((with_reducible refine (notIn_calls x At ct ts gq _ _ HQR.out (Kd.R_reads' HTR2.out).2.2 (Kd.R_reads' HTR2.out).2.1 (by have := HTL.out; omega) HBB.out).mono ?_); rintro e w2 ⟨rfl, hb_⟩; have HS2 := Aside0.mk (Kd.R_below HS.out hb_); have HG2 := Aside0.mk (grown_trans HG.out (grown_of_below hb_ (some g))); have hS' : Kd.R (Kd.int .i64) 3 w2 base (fun _ => True) (.slice (some ⟨g, 0, none⟩) ys.length c) ys := (by rw [HY.out.1]; exact HS2.out); have hci := (Kd.R_cell (0 : Int) hS' i HM.out.1 (by have h1_ := HY.out.1; have h2_ := HM.out; have h3_ := HJ.out; omega)).1; have hfi := (Kd.R_cell (0 : Int) hS' i HM.out.1 (by have h1_ := HY.out.1; have h2_ := HM.out; have h3_ := HJ.out; omega)).2; clear hb_ hS' hxj))
    go_roundg (gk - 1)
    case measure => have := HM.out; have := HJ.out; omega
    case rel =>
     refine ⟨i, j + 1, ys, ?_, ?_, ⟨by have := HM.out; have := HJ.out; omega⟩, ⟨HKP.out⟩, HS2, HG2⟩
     ·first | rfl | (simp; done)
     ·first | rfl | (simp; done)
  ·have d2 : decide (j < (xs.length : Int)) = false := decide_eq_false hlt
   have HJN := Aside0.mk (show j.toNat = xs.length by have := HM.out; omega)
   have HIN := Aside0.mk (show i.toNat < xs.length ∧ i ≤ xs.length by have := HM.out; omega)
   obtain ⟨i0, hi0, _, hsz, _⟩ := info_parts info3
   have hcutA : ∀ W : World, (Instr.slice 26 (.slice (some ⟨g, 0, none⟩) xs.length c) (some (.int .i64 i)) none none).run Try.prog W = .ok (.slice (some ⟨g, i.toNat, none⟩) (xs.length - i.toNat) (c - i.toNat)) W := fun W => by
    rw [cut_from (P := Try.prog) 26 3 .i64 Try.underlying26 hi0 1 hsz (some ⟨g, 0, none⟩) xs.length c i HM.out.1 HIN.out.2 W, if_neg (by have := HRR.out.2.1; have := HIN.out; omega), Nat.mul_one, Option.map_some, add_plain]
   have hcutB : ∀ W : World, (Instr.slice 26 (.slice (some ⟨g, 0, none⟩) xs.length c) none (some (.int .i64 i)) none).run Try.prog W = .ok (.slice (some ⟨g, 0, none⟩) i.toNat c) W :=
    cut_to (P := Try.prog) 26 3 .i64 Try.underlying26 hi0 (some ⟨g, 0, none⟩) xs.length c i HM.out.1 HIN.out.2 HRR.out.2.1
   have hZ := R_zeros (e := 3) (g := g) (n := xs.length) (cap := c) (xs.length - i.toNat) i.toNat wr ys (by have := HY.out.1; have := HIN.out; omega) HS.out
   obtain ⟨wc, hwc⟩ : ∃ wc, wc = wr.setCells g i.toNat (List.replicate (xs.length - i.toNat) (.int .i64 0)) := ⟨_, rfl⟩
   have hclr : ∀ ty, (Builtin.clear_ #[26] ty #[.slice (some ⟨g, i.toNat, none⟩) (xs.length - i.toNat) (c - i.toNat)]).run Try.prog wr = .ok (.tuple #[]) wc := fun ty => by
    rw [hwc]
    refine Lib.run_clear_slice wr _ 3 ty _ Try.underlying26 (fun w => ?_) rfl rfl g i.toNat (xs.length - i.toNat) (c - i.toNat) (by have := HIN.out; omega) (fun k hk => ?_) (fun k hk => ?_)
    ·go_simp
    ·have hS' : Kd.R (Kd.int .i64) 3 wr base (fun _ => True) (.slice (some ⟨g, 0, none⟩) ys.length c) ys := by rw [HY.out.1]; exact HS.out
     have := (Kd.R_cell (0 : Int) hS' ((i.toNat + k : Nat) : Int) (by omega) (by have := HY.out.1; omega)).1
     rw [Int.toNat_natCast] at this
     rw [this]
     rfl
    ·have hS' : Kd.R (Kd.int .i64) 3 wr base (fun _ => True) (.slice (some ⟨g, 0, none⟩) ys.length c) ys := by rw [HY.out.1]; exact HS.out
     have := (Kd.R_cell (0 : Int) hS' ((i.toNat + k : Nat) : Int) (by omega) (by have := HY.out.1; omega)).2
     rwa [Int.toNat_natCast] at this
   rw [← hwc] at hZ
   have HZ := Aside0.mk hZ
   clear hwc hZ hlt hi0 hsz
   have q1 : (i ≤ (xs.length : Int)) = True := eq_true HIN.out.2
   go_wp2
   go_ret
   have hf : ys.take i.toNat = xs.filter (fun x => ts.contains x) := by rw [HY.out.2.1, HJN.out, List.take_of_length_le (Nat.le_refl _)]
   have hR := Kd.R_take (m := i.toNat) HZ.out.1 (by rw [List.length_append, List.length_replicate, List.length_take, HY.out.1]; have := HIN.out; omega)
   rw [List.take_append_of_le_length (by rw [List.length_take, HY.out.1]; have := HIN.out; omega), List.take_take, Nat.min_self, hf] at hR
   refine ⟨i.toNat, ?_, rfl, hR, ?_⟩
   ·rw [← hf, List.length_take, HY.out.1]
    have := HIN.out
    omega
   ·exact ⟨HZ.out.2.os.trans HBR.out.os, HZ.out.2.tape.trans HBR.out.tape, HZ.out.2.output.trans HBR.out.output, Nat.le_trans HBR.out.size HZ.out.2.size, fun k hk => (HZ.out.2.block k (Nat.lt_of_lt_of_le (Nat.lt_of_lt_of_le hk HBS.out) HBR.out.size) (fun e => by injection e with e; have := GB.out; omega)).trans (HBR.out.block k hk)⟩
theorem pick_mem {l0 : List S44} {l1 : List S46} {ps : List Int} {s : Nat} {x : List Int} (h : x ∈ pick l0 l1 ps [] 0 s) : x.length = s := by
 unfold pick at h
 obtain ⟨y, hy, rfl⟩ := List.mem_map.1 (List.mem_filter.1 h).1
 rw [List.nil_append]
 exact (mem_combos.1 hy).1
theorem smallM_mem {l0 : List S44} {l1 : List S46} {ps : List Int} : ∀ (d s : Nat) (x : List Int), x ∈ smallM l0 l1 ps s d → x.length < s + d := by
 intro d
 induction d with
 | zero => intro s x h; simp [smallM] at h
 | succ d ih =>
  intro s x h
  unfold smallM at h
  split at h
  ·have := ih _ _ h; omega
  ·have := pick_mem h; omega
def sureR (l0 : List S44) (l1 : List S46) (a2 : Int) : List Int × Int :=
 if houseE l0 l1 a2 = 0 then (match smallM l0 l1 (parN l0 l0.length) 0 (a2.toNat + 1) with | [] => ([], 4) | s :: r => (r.foldl (fun o t => o.filter (fun x => t.contains x)) s, 0)) else ([], houseE l0 l1 a2)
def leak_Sure.f (l0 : List (S44)) (l1 : List (S46)) (a2 : Int) : Option (List Int × Int) := if l0.length ≤ 5864062014805 ∧ l1.length ≤ 140737488355328 then some (sureR l0 l1 a2) else none
def sureF (X : List (List Int)) (n : Nat) : List Int := ((X.drop 1).take n).foldl (fun o t => o.filter (fun x => t.contains x)) (rdK X 0)
theorem sureF_succ (X : List (List Int)) (n : Nat) (h : n + 1 < X.length) : sureF X (n + 1) = (sureF X n).filter (fun x => (rdK X ((n + 1 : Nat) : Int)).contains x) := by
 unfold sureF
 rw [List.take_succ_eq_append_getElem (by rw [List.length_drop]; omega), List.foldl_append]
 have e : (X.drop 1)[n]'(by rw [List.length_drop]; omega) = rdK X ((n + 1 : Nat) : Int) := by
  rw [List.getElem_drop]
  simp [rdK, List.getD_eq_getElem?_getD, Nat.add_comm 1 n, h]
 rw [e]
 rfl
theorem sureF_len (X : List (List Int)) (n : Nat) (h : (rdK X 0).length ≤ 1000) : (sureF X n).length ≤ 1000 := by
 unfold sureF
 generalize (X.drop 1).take n = L
 revert h
 generalize rdK X 0 = s
 induction L generalizing s with
 | nil => intro h; exact h
 | cons t r ih => intro h; exact ih _ (Nat.le_trans (List.length_filter_le _ _) h)
theorem rdK_mem (X : List (List Int)) (j : Int) (h0 : 0 ≤ j) (h1 : j < X.length) : rdK X j ∈ X := by
 have hj : j.toNat < X.length := by omega
 have e : rdK X j = X[j.toNat] := by simp [rdK, List.getD_eq_getElem?_getD, hj]
 rw [e]
 exact List.getElem_mem hj
theorem add_add_ (a : Addr) (i j : Nat) : (a.add i).add j = a.add (i + j) := by
 unfold Addr.add
 by_cases hi : i = 0 <;> by_cases hj : j = 0 <;> simp [hi, hj, Nat.add_assoc]
theorem leak_Sure.calls (A0 : Option Addr) (c0 : Nat) (l0 : List (S44)) (A1 : Option Addr) (c1 : Nat) (l1 : List (S46)) (a2 : Int) (r1 : List Int) (r2 : Int) (w : World) (hr0 : Kd.C k44 w A0 l0.length l0) (hc0 : l0.length ≤ c0) (hr1 : Kd.C k46 w A1 l1.length l1) (hc1 : l1.length ≤ c1) (h : leak_Sure.f l0 l1 a2 = some (r1, r2)) :
  Calls Try.prog 16 #[.slice A0 l0.length c0, .slice A1 l1.length c1, .int .i64 a2] w fun e w' => ∃ v0_ : Value, e = .returned (.tuple #[v0_, .int .i64 r2]) ∧ Kd.R (Kd.int .i64) 3 w' w.heap.size (fun _ => True) v0_ r1 ∧ Below w.heap.size w w' := by
 have hu44 := Try.underlying44
 unfold leak_Sure.f at h
 by_cases hs : l0.length ≤ 5864062014805 ∧ l1.length ≤ 140737488355328
 case neg => rw [if_neg hs] at h; cases h
 rw [if_pos hs] at h
 have h := Option.some.inj h
 unfold sureR at h
 have HR0 := Aside0.mk hr0
 have HC0 := Aside0.mk hc0
 have HR1 := Aside0.mk hr1
 have HC1 := Aside0.mk hc1
 have HSZ := Aside0.mk hs
 have HB := Aside0.mk (Below.refl w.heap.size w)
 clear hr0 hc0 hr1 hc1 hs
 obtain ⟨E, hE⟩ : ∃ E, E = houseE l0 l1 a2 := ⟨_, rfl⟩
 rw [← hE] at h
 by_cases he : E = 0
 case neg =>
  rw [if_neg he] at h
  obtain ⟨rfl, rfl⟩ := Prod.mk.inj h
  have d1 : (E == 0) = false := beq_eq_false_iff_ne.2 he
  have d1' : (E != 0) = true := bne_iff_ne.2 he
  have HE := Aside0.mk (And.intro hE.symm he)
  clear h hE he
  go_enter Try.func16, Try.ntmps16
  go_wp2_with (first | (go_at_call 26; (with_reducible refine (newHouse_bad A0 c0 l0 A1 c1 l1 a2 E _ (Kd.C_below HR0.out HB.out) HC0.out (Kd.C_below HR1.out HB.out) HC1.out HSZ.out HE.out.1 HE.out.2).mono ?_); rintro e w1 ⟨rfl, hb_⟩; have n0_ := Aside0.mk (below_step HB.out hb_); clear HB hb_; have HB := n0_; clear n0_))
  go_ret2
  exact ⟨_, rfl, Kd.R_nil _ _ _ _ _, HB.out⟩
 rw [if_pos he] at h
 have HE := Aside0.mk (show houseE l0 l1 a2 = 0 from hE.symm.trans he)
 clear hE he E
 obtain ⟨X, hX⟩ : ∃ X, X = smallM l0 l1 (parN l0 l0.length) 0 (a2.toNat + 1) := ⟨_, rfl⟩
 rw [← hX] at h
 have hml : ∀ x ∈ X, x.length ≤ 1000 := fun x hx => by
  rw [hX] at hx
  have := smallM_mem _ _ _ hx
  have := houseE_0 HE.out
  omega
 have HX := Aside0.mk hX
 clear hX
 cases X with
 | nil =>
  obtain ⟨rfl, rfl⟩ := Prod.mk.inj h
  clear h hml
  go_enter Try.func16, Try.ntmps16
  go_wp2_with (first | (go_at_call 26; (with_reducible refine (newHouse_ok A0 c0 l0 A1 c1 l1 a2 _ (Kd.C_below HR0.out HB.out) HC0.out (Kd.C_below HR1.out HB.out) HC1.out HSZ.out HE.out).mono ?_); rintro e w1 ⟨gh, A2, c2, A3, c3, ys, rfl, hh_, hb_⟩; have HH := Aside0.mk hh_; have n0_ := Aside0.mk hb_; clear HB hb_ hh_; have HB := n0_; clear n0_) | (go_at_call 27; (with_reducible refine (smallest_calls w w1 A0 c0 l0 A1 c1 l1 gh A2 c2 (parN l0 l0.length) A3 c3 ys a2 a2.toNat HB.out HR0.out HC0.out HR1.out HC1.out (houseE_0 HE.out).1 HSZ.out.2 (Nat.le_trans (parN_len _ _) (houseE_0 HE.out).1) (parN_mem l0 l0.length) HH.out (by have := houseE_0 HE.out; omega) (by have := houseE_0 HE.out; omega)).mono ?_); rw [← HX.out]; rintro e w2 ⟨Ao, co, rfl, ho_, hb_⟩; clear HB HH; have HB := Aside0.mk hb_; have RO := Aside0.mk ho_; skip; clear hb_ ho_))
  go_ret2
  exact ⟨_, rfl, Kd.R_nil _ _ _ _ _, HB.out⟩
 | cons s0 rest =>
  obtain ⟨rfl, rfl⟩ := Prod.mk.inj h
  clear h
  obtain ⟨X, hx⟩ : ∃ X, X = s0 :: rest := ⟨_, rfl⟩
  rw [← hx] at HX hml
  have HML := Aside0.mk hml
  have hXF : rest.foldl (fun o t => o.filter (fun x => t.contains x)) s0 = sureF X (X.length - 1) := by
   rw [hx]
   unfold sureF
   rw [List.drop_succ_cons, List.drop_zero, List.take_of_length_le (by simp)]
   rfl
  rw [hXF]
  have hxl : 0 < X.length := by rw [hx, List.length_cons]; omega
  have z1 : ((X.length : Int) == 0) = false := beq_eq_false_iff_ne.2 (by omega)
  have z2 : (X.length == 0) = false := beq_eq_false_iff_ne.2 (by omega)
  have z3 : (0 < X.length) = True := eq_true hxl
  have z4 : ((0 : Int) < (X.length : Int)) = True := eq_true (by omega)
  have HXL := Aside0.mk hxl
  clear hx hml hXF hxl
  go_enter Try.func16, Try.ntmps16
  go_wp2_with (first | (go_at_call 26; (with_reducible refine (newHouse_ok A0 c0 l0 A1 c1 l1 a2 _ (Kd.C_below HR0.out HB.out) HC0.out (Kd.C_below HR1.out HB.out) HC1.out HSZ.out HE.out).mono ?_); rintro e w1 ⟨gh, A2, c2, A3, c3, ys, rfl, hh_, hb_⟩; have HH := Aside0.mk hh_; have n0_ := Aside0.mk hb_; clear HB hb_ hh_; have HB := n0_; clear n0_) | (go_at_call 27; (with_reducible refine (smallest_calls w w1 A0 c0 l0 A1 c1 l1 gh A2 c2 (parN l0 l0.length) A3 c3 ys a2 a2.toNat HB.out HR0.out HC0.out HR1.out HC1.out (houseE_0 HE.out).1 HSZ.out.2 (Nat.le_trans (parN_len _ _) (houseE_0 HE.out).1) (parN_mem l0 l0.length) HH.out (by have := houseE_0 HE.out; omega) (by have := houseE_0 HE.out; omega)).mono ?_); rw [← HX.out]; rintro e w2 ⟨Ao, co, rfl, ho_, hb_⟩; clear HB HH; have HB := Aside0.mk hb_; have RO := Aside0.mk ho_; obtain ⟨ad, Ai, ci, ea_, hx0, hr_⟩ := sets_get ho_ 0 (Int.le_refl _) (of_eq_true z4); subst ea_; have HR3 := Aside0.mk hr_; have hx1 : w2.cell? ad = some (.slice Ai (rdK X 0).length ci) := hx0; clear hr_ hx0; clear hb_ ho_) | (go_at_call 30; (with_reducible refine (slices_Clone_ints.calls Ai ci (rdK X 0) (rdK X 0) _ (Kd.R_reads' HR3.out).2.2 (Kd.R_reads' HR3.out).2.1 (by unfold slices_Clone_ints.f; rw [if_pos (by have := HML.out _ (rdK_mem X 0 (Int.le_refl _) (by have := HXL.out; omega)); omega)])).mono ?_); rintro e w3 ⟨vq, rfl, hq_, hb_⟩; obtain ⟨Aw0, cw0, eq_⟩ := Kd.R_slice hq_; subst eq_; have RW0 := Aside0.mk hq_; have HB3 := Aside0.mk hb_; have HCO := Aside0.mk (Kd.R_reads' RO.out).2.1; have HXB := Aside0.mk (Kd.C_max (Kd.R_reads' RO.out).2.2); obtain ⟨A35, hA35⟩ : ∃ A35, A35 = (if co = 1 then some ad else some (ad.add 1)) := ⟨_, rfl⟩; obtain ⟨m1, hm1⟩ : ∃ m1, m1 = X.length - 1 := ⟨_, rfl⟩; have hcut : ∀ W : World, (Instr.slice 58 (.slice (some ad) X.length co) (some (.int .i64 1)) none none).run Try.prog W = .ok (.slice A35 m1 (co - 1)) W := (by intro W; obtain ⟨i0, hi0, _, hsz, _⟩ := info_parts info26; rw [cut_from (P := Try.prog) 58 26 .i64 Try.underlying58 hi0 1 hsz (some ad) X.length co 1 (by decide) (by have := HXL.out; omega) W, hA35, hm1]; rfl); have HA35 := Aside0.mk hA35; have HM1 := Aside0.mk hm1; have q1 : ((1 : Int) ≤ (X.length : Int)) = True := eq_true (by have := HXL.out; omega); clear hq_ hb_ hA35 hm1 hx1))
  go_loopg [37, 11] m1 (fun kq v37 v11 wr => ∃ (n : Nat) (Aw : Option Addr) (cw : Nat), v37 = .int .i64 n ∧ v11 = .slice Aw (sureF X n).length cw ∧ Aside0 (kq + n = m1) ∧ Aside0 (Kd.R (Kd.int .i64) 3 wr w2.heap.size (fun _ => True) (.slice Aw (sureF X n).length cw) (sureF X n)) ∧ Aside0 (Below w2.heap.size w2 wr))
  case atStart => exact ⟨0, Aw0, cw0, rfl, rfl, ⟨by omega⟩, RW0, HB3⟩
  case round =>
   clear RW0 HB3
   obtain ⟨n, Aw, cw, rfl, rfl, HM, HW, HB3⟩ := hrel
   have HL10 := Aside0.mk (sureF_len X n (HML.out _ (rdK_mem X 0 (Int.le_refl _) (by have := HXL.out; omega))))
   by_cases hlt : n < m1
   ·obtain ⟨i, hi⟩ : ∃ i : Int, i = (n : Int) := ⟨_, rfl⟩
    rw [← hi]
    have HI2 := Aside0.mk (show 0 ≤ i ∧ i.toNat < m1 ∧ i = (n : Int) from ⟨by omega, by omega, hi⟩)
    have d7 : decide (i < (m1 : Int)) = true := decide_eq_true (by omega)
    have ci2 : (0 ≤ i) = True := eq_true HI2.out.1
    have ci3 : (i < (m1 : Int)) = True := eq_true (by omega)
    have hz1 : i + 1 ≤ 9223372036854775807 := by have := HI2.out; have := HXB.out; have := HM1.out; omega
    have hz2 : -9223372036854775808 ≤ i + 1 := by have := HI2.out; omega
    obtain ⟨ad2, Ai, ci, ea2, hxi, hri⟩ := sets_get RO.out ((n + 1 : Nat) : Int) (by omega) (by have := HM1.out; have := HXL.out; omega)
    injection ea2 with ea2
    subst ea2
    obtain ⟨t, ht⟩ : ∃ t, t = rdK X ((n + 1 : Nat) : Int) := ⟨_, rfl⟩
    rw [← ht] at hxi hri
    have HTL := Aside0.mk (show t.length ≤ 1000 by rw [ht]; exact HML.out _ (rdK_mem X _ (by omega) (by have := HM1.out; have := HXL.out; omega)))
    have HFE := Aside0.mk (show (sureF X n).filter (fun x => t.contains x) = sureF X (n + 1) by rw [ht]; exact (sureF_succ X n (by have := HM1.out; have := HXL.out; omega)).symm)
    obtain ⟨ad1, had1⟩ : ∃ ad1, ad1 = ad.add 1 := ⟨_, rfl⟩
    have hAt : A35 = some ad1 := by rw [HA35.out, if_neg (by have := HCO.out; have := HM1.out; omega), had1]
    have hti : wr.cell? (ad1.add i.toNat) = some (.slice Ai t.length ci) := by
     have h1 := (HB3.out.cell (World.block_lt_of_cell? _ _ hxi)).trans hxi
     have e1 : ad1.add i.toNat = ad.add (n + 1) := by rw [had1, add_add_, show i.toNat = n by have := HI2.out; omega, Nat.add_comm 1 n]
     rw [e1]
     simpa using h1
    have HTR := Aside0.mk (Kd.R_below (Kd.R_lower (Kd.R_mono (Kd.R_bound hri) (ok' := fun k => k < w2.heap.size) (fun k hk => hk.2.2.1)) (Nat.zero_le _)) HB3.out)
    subst hAt
    clear had1
    have HB4 := Aside0.mk (Below.refl wr.heap.size wr)
    clear hi hlt ht hxi hri
    go_upto_region 11 with (first | ((with_reducible refine gate_dst (N := 13) rfl ?_); refine box_event ?hg (N := 13) ?hd (cs := #[.slice none 0 0]) (t := 26) ?hr ?_; (case hd => rfl); (case hg => rfl); (case hr => first | (go_simp; done) | (go_simp; rfl)); intro gq hg_Q wq hbox_ hb_; have n0_ := Aside0.mk (below_step HB4.out hb_); have BQ := Aside0.mk hbox_; have GQ := Aside0.mk (show wr.heap.size ≤ gq by rw [hg_Q]; exact below_size HB4.out); have EQ := Aside0.mk hg_Q; have hcQ0 : wq.cell? ⟨gq, 0, none⟩ = some (.slice none 0 0) := (blk_cell hbox_ 0).trans rfl; have hfQ0 := blk_frozen hbox_ 0; clear HB4 hg_Q hbox_ hb_; have HB4 := n0_; clear n0_))
    obtain ⟨w10, hw10⟩ : ∃ w10, w10 = wq.setCell ⟨gq, 0, none⟩ (.slice Ai t.length ci) := ⟨_, rfl⟩
    rw [← hw10]
    have BQ10 := Aside0.mk (show w10.heap[gq]? = some (.cells #[.slice Ai t.length ci] 26 (0, 0)) by rw [hw10]; exact blk_put BQ.out 0 _ rfl)
    have HB10 := Aside0.mk (show Below wr.heap.size wr w10 by rw [hw10]; exact below_set HB4.out GQ.out)
    clear hw10 BQ HB4 GQ EQ hcQ0 hfQ0 hti
    have HDEL := Aside0.mk (delete_calls w2.heap.size Aw cw (sureF X n) gq Ai ci t w10 (Nat.le_trans HB3.out.size HB10.out.size) (Kd.R_below HW.out HB10.out) HL10.out BQ10.out
     (Kd.R_mono (Kd.R_below HTR.out HB10.out) (fun k hk e => by have := Kd.R_base HW.out k e.symm; omega)) HTL.out)
    rw [HFE.out] at HDEL
    go_wp2_with (first | (go_at_call 31; (with_reducible refine HDEL.out.mono ?_); rintro e w11 ⟨m_, em_, rfl, hr_, hb_⟩; subst em_; have HW11 := Aside0.mk hr_; have HB11 := Aside0.mk hb_; clear hr_ hb_))
    go_roundg (gk - 1)
    case measure => have := HM.out; have := HI2.out; omega
    case rel =>
     refine ⟨n + 1, Aw, cw, ?_, rfl, ⟨by have := HM.out; have := HI2.out; omega⟩, HW11, ⟨(HB3.out.trans (HB10.out.mono HB3.out.size)).trans HB11.out⟩⟩
     have := HI2.out
     first | (rw [show ((n + 1 : Nat) : Int) = i + 1 from by omega]; done) | (simp; omega)
   ·have d7 : decide ((n : Int) < (m1 : Int)) = false := decide_eq_false (by omega)
    have d7' : decide (n < m1) = false := decide_eq_false hlt
    have HNL := Aside0.mk (show n = X.length - 1 by have := HM.out; have := HM1.out; omega)
    clear hlt
    go_wp2
    go_ret2
    rw [← HNL.out]
    exact ⟨_, rfl, Kd.R_lower HW.out HB.out.size, HB.out.trans (HB3.out.mono HB.out.size)⟩
end
section
def cohousinglaw30_head.f (k : Nat)  : Option (Bool) := (some (([(⟨1, 0, 0⟩ : S44), (⟨2, 1, 0⟩ : S44), (⟨3, 1, 0⟩ : S44)] : List (S44)) : List (S44))).bind fun y125 => ((some (([(⟨10, 10⟩ : S46), (⟨4, 4⟩ : S46), (⟨5, 5⟩ : S46)] : List (S46)) : List (S46))).bind fun y128 => ((leak_Explain.f y125 y128 1).bind fun bt131 => ((leak_Sure.f y125 y128 3).bind fun bt136 => ((leak_Explain.f y125 y128 0).bind fun bt140 => ((leak_Sure.f y125 y128 0).bind fun bt145 => (if 2 < (y128.length : Int) then ((some (y128.set (2 : Int).toNat (⟨(rd_T46 y128 2).f0, 6⟩ : S46) : List (S46))).bind fun y149 => ((leak_Explain.f y125 y149 3).bind fun bt150 => ((leak_Explain.f y125 y149 4).bind fun bt155 => (if bt131.2.2 = 0 then (if bt131.2.1 = true then ((cohousingref30_Same.f k bt131.1 (([0] : List Int))).bind fun t163 => (if t163 = true then (if bt136.2 = 0 then ((cohousingref30_Same.f k bt136.1 (([0] : List Int))).bind fun t167 => (if t167 = true then (if bt140.2.2 = 0 then (if bt140.2.1 = true then (some false) else (if bt145.2 = 4 then (if bt150.2.2 = 0 then (if bt150.2.1 = true then (if (bt150.1.length : Int) = 0 then (some (bt155.2.2 == 1)) else (some false)) else (some false)) else (some false)) else (some false))) else (some false)) else (some false))) else (some false)) else (some false))) else (some false)) else (some false))))) else (none)))))))
theorem cohousinglaw30_head.mono : ∀ k, LeO (cohousinglaw30_head.f k ) (cohousinglaw30_head.f (k + 1) ) := by
 intro  k
 unfold cohousinglaw30_head.f
 repeat' first
   | (with_reducible exact cohousingref30_Same.mono _ _ _)
   | (with_reducible exact LeO.refl _)
   | (with_reducible exact LeO.none _)
   | (with_reducible refine LeO.ite ?_ ?_)
   | (with_reducible refine LeO.bind ?_ (fun _ => ?_))
   | exact cohousingref30_Same.mono _ _ _
   | exact LeO.none _
   | refine LeO.ite ?_ ?_
   | refine LeO.bind ?_ (fun _ => ?_)
theorem cohousinglaw30_head.yes : ∀ k r, cohousinglaw30_head.f k = some r → r = true := fun k r h => by
 have h1 : cohousinglaw30_head.f 60 = some true := by kernel_rfl
 have up : ∀ (d a : Nat) (x : Bool), cohousinglaw30_head.f a = some x → cohousinglaw30_head.f (a + d) = some x := fun d => by
  induction d with
  | zero => intro a x hx; exact hx
  | succ d ih => intro a x hx; exact cohousinglaw30_head.mono _ _ (ih a x hx)
 have h2 := up 60 k r h
 have h3 := up k 60 true h1
 rw [Nat.add_comm] at h3
 rw [h2] at h3
 exact Option.some.inj h3
theorem cohousinglaw30_head.calls (k : Nat)  (r : Bool) (w : World) (h : cohousinglaw30_head.f k  = some r) :
  Calls Try.prog 11 #[] w fun e w' => e = .returned (.bool r) ∧ Below w.heap.size w w' := by
 have hr_ := cohousinglaw30_head.yes k r h
 subst hr_
 have hu44 := Try.underlying44
 have hu46 := Try.underlying46
 have HB := Aside0.mk (Below.refl w.heap.size w)
 have H : ((some (([(⟨1, 0, 0⟩ : S44), (⟨2, 1, 0⟩ : S44), (⟨3, 1, 0⟩ : S44)] : List (S44)) : List (S44))).bind fun y125 => ((some (([(⟨10, 10⟩ : S46), (⟨4, 4⟩ : S46), (⟨5, 5⟩ : S46)] : List (S46)) : List (S46))).bind fun y128 => ((leak_Explain.f y125 y128 1).bind fun bt131 => ((leak_Sure.f y125 y128 3).bind fun bt136 => ((leak_Explain.f y125 y128 0).bind fun bt140 => ((leak_Sure.f y125 y128 0).bind fun bt145 => (if 2 < (y128.length : Int) then ((some (y128.set (2 : Int).toNat (⟨(rd_T46 y128 2).f0, 6⟩ : S46) : List (S46))).bind fun y149 => ((leak_Explain.f y125 y149 3).bind fun bt150 => ((leak_Explain.f y125 y149 4).bind fun bt155 => (if bt131.2.2 = 0 then (if bt131.2.1 = true then ((cohousingref30_Same.f k bt131.1 (([0] : List Int))).bind fun t163 => (if t163 = true then (if bt136.2 = 0 then ((cohousingref30_Same.f k bt136.1 (([0] : List Int))).bind fun t167 => (if t167 = true then (if bt140.2.2 = 0 then (if bt140.2.1 = true then (some false) else (if bt145.2 = 4 then (if bt150.2.2 = 0 then (if bt150.2.1 = true then (if (bt150.1.length : Int) = 0 then (some (bt155.2.2 == 1)) else (some false)) else (some false)) else (some false)) else (some false))) else (some false)) else (some false))) else (some false)) else (some false))) else (some false)) else (some false))))) else (none)))))))) = some true := h
 clear h
 obtain ⟨y125, hy125⟩ : ∃ y_ : List (S44), y_ = (([(⟨1, 0, 0⟩ : S44), (⟨2, 1, 0⟩ : S44), (⟨3, 1, 0⟩ : S44)] : List (S44))) := ⟨_, rfl⟩
 replace H : ((some (([(⟨10, 10⟩ : S46), (⟨4, 4⟩ : S46), (⟨5, 5⟩ : S46)] : List (S46)) : List (S46))).bind fun y128 => ((leak_Explain.f y125 y128 1).bind fun bt131 => ((leak_Sure.f y125 y128 3).bind fun bt136 => ((leak_Explain.f y125 y128 0).bind fun bt140 => ((leak_Sure.f y125 y128 0).bind fun bt145 => (if 2 < (y128.length : Int) then ((some (y128.set (2 : Int).toNat (⟨(rd_T46 y128 2).f0, 6⟩ : S46) : List (S46))).bind fun y149 => ((leak_Explain.f y125 y149 3).bind fun bt150 => ((leak_Explain.f y125 y149 4).bind fun bt155 => (if bt131.2.2 = 0 then (if bt131.2.1 = true then ((cohousingref30_Same.f k bt131.1 (([0] : List Int))).bind fun t163 => (if t163 = true then (if bt136.2 = 0 then ((cohousingref30_Same.f k bt136.1 (([0] : List Int))).bind fun t167 => (if t167 = true then (if bt140.2.2 = 0 then (if bt140.2.1 = true then (some false) else (if bt145.2 = 4 then (if bt150.2.2 = 0 then (if bt150.2.1 = true then (if (bt150.1.length : Int) = 0 then (some (bt155.2.2 == 1)) else (some false)) else (some false)) else (some false)) else (some false))) else (some false)) else (some false))) else (some false)) else (some false))) else (some false)) else (some false))))) else (none))))))) = some true := by first | (rw [hy125]; with_reducible exact H) | (have H2_ := (Option.bind_some _ _).symm.trans H; rw [hy125]; with_reducible exact H2_) | (have H2_ := (Option.bind_some _ _).symm.trans H; with_reducible exact H2_) | with_reducible exact H | (rw [hy125]; exact H) | exact H
 have Ny125 := Aside0.mk hy125
 clear hy125
 obtain ⟨y128, hy128⟩ : ∃ y_ : List (S46), y_ = (([(⟨10, 10⟩ : S46), (⟨4, 4⟩ : S46), (⟨5, 5⟩ : S46)] : List (S46))) := ⟨_, rfl⟩
 replace H : ((leak_Explain.f y125 y128 1).bind fun bt131 => ((leak_Sure.f y125 y128 3).bind fun bt136 => ((leak_Explain.f y125 y128 0).bind fun bt140 => ((leak_Sure.f y125 y128 0).bind fun bt145 => (if 2 < (y128.length : Int) then ((some (y128.set (2 : Int).toNat (⟨(rd_T46 y128 2).f0, 6⟩ : S46) : List (S46))).bind fun y149 => ((leak_Explain.f y125 y149 3).bind fun bt150 => ((leak_Explain.f y125 y149 4).bind fun bt155 => (if bt131.2.2 = 0 then (if bt131.2.1 = true then ((cohousingref30_Same.f k bt131.1 (([0] : List Int))).bind fun t163 => (if t163 = true then (if bt136.2 = 0 then ((cohousingref30_Same.f k bt136.1 (([0] : List Int))).bind fun t167 => (if t167 = true then (if bt140.2.2 = 0 then (if bt140.2.1 = true then (some false) else (if bt145.2 = 4 then (if bt150.2.2 = 0 then (if bt150.2.1 = true then (if (bt150.1.length : Int) = 0 then (some (bt155.2.2 == 1)) else (some false)) else (some false)) else (some false)) else (some false))) else (some false)) else (some false))) else (some false)) else (some false))) else (some false)) else (some false))))) else (none)))))) = some true := by first | (rw [hy128]; with_reducible exact H) | (have H2_ := (Option.bind_some _ _).symm.trans H; rw [hy128]; with_reducible exact H2_) | (have H2_ := (Option.bind_some _ _).symm.trans H; with_reducible exact H2_) | with_reducible exact H | (rw [hy128]; exact H) | exact H
 have Ny128 := Aside0.mk hy128
 clear hy128
 replace H := Option.bind_eq_some_iff.mp H
 obtain ⟨⟨t131, t132, t133⟩, A10, H⟩ := H
 replace H : ((leak_Sure.f y125 y128 3).bind fun bt136 => ((leak_Explain.f y125 y128 0).bind fun bt140 => ((leak_Sure.f y125 y128 0).bind fun bt145 => (if 2 < (y128.length : Int) then ((some (y128.set (2 : Int).toNat (⟨(rd_T46 y128 2).f0, 6⟩ : S46) : List (S46))).bind fun y149 => ((leak_Explain.f y125 y149 3).bind fun bt150 => ((leak_Explain.f y125 y149 4).bind fun bt155 => (if t133 = 0 then (if t132 = true then ((cohousingref30_Same.f k t131 (([0] : List Int))).bind fun t163 => (if t163 = true then (if bt136.2 = 0 then ((cohousingref30_Same.f k bt136.1 (([0] : List Int))).bind fun t167 => (if t167 = true then (if bt140.2.2 = 0 then (if bt140.2.1 = true then (some false) else (if bt145.2 = 4 then (if bt150.2.2 = 0 then (if bt150.2.1 = true then (if (bt150.1.length : Int) = 0 then (some (bt155.2.2 == 1)) else (some false)) else (some false)) else (some false)) else (some false))) else (some false)) else (some false))) else (some false)) else (some false))) else (some false)) else (some false))))) else (none))))) = some true := H
 have A1 := Aside0.mk A10
 clear A10
 replace H := Option.bind_eq_some_iff.mp H
 obtain ⟨⟨t136, t137⟩, A20, H⟩ := H
 replace H : ((leak_Explain.f y125 y128 0).bind fun bt140 => ((leak_Sure.f y125 y128 0).bind fun bt145 => (if 2 < (y128.length : Int) then ((some (y128.set (2 : Int).toNat (⟨(rd_T46 y128 2).f0, 6⟩ : S46) : List (S46))).bind fun y149 => ((leak_Explain.f y125 y149 3).bind fun bt150 => ((leak_Explain.f y125 y149 4).bind fun bt155 => (if t133 = 0 then (if t132 = true then ((cohousingref30_Same.f k t131 (([0] : List Int))).bind fun t163 => (if t163 = true then (if t137 = 0 then ((cohousingref30_Same.f k t136 (([0] : List Int))).bind fun t167 => (if t167 = true then (if bt140.2.2 = 0 then (if bt140.2.1 = true then (some false) else (if bt145.2 = 4 then (if bt150.2.2 = 0 then (if bt150.2.1 = true then (if (bt150.1.length : Int) = 0 then (some (bt155.2.2 == 1)) else (some false)) else (some false)) else (some false)) else (some false))) else (some false)) else (some false))) else (some false)) else (some false))) else (some false)) else (some false))))) else (none)))) = some true := H
 have A2 := Aside0.mk A20
 clear A20
 replace H := Option.bind_eq_some_iff.mp H
 obtain ⟨⟨t140, t141, t142⟩, A30, H⟩ := H
 replace H : ((leak_Sure.f y125 y128 0).bind fun bt145 => (if 2 < (y128.length : Int) then ((some (y128.set (2 : Int).toNat (⟨(rd_T46 y128 2).f0, 6⟩ : S46) : List (S46))).bind fun y149 => ((leak_Explain.f y125 y149 3).bind fun bt150 => ((leak_Explain.f y125 y149 4).bind fun bt155 => (if t133 = 0 then (if t132 = true then ((cohousingref30_Same.f k t131 (([0] : List Int))).bind fun t163 => (if t163 = true then (if t137 = 0 then ((cohousingref30_Same.f k t136 (([0] : List Int))).bind fun t167 => (if t167 = true then (if t142 = 0 then (if t141 = true then (some false) else (if bt145.2 = 4 then (if bt150.2.2 = 0 then (if bt150.2.1 = true then (if (bt150.1.length : Int) = 0 then (some (bt155.2.2 == 1)) else (some false)) else (some false)) else (some false)) else (some false))) else (some false)) else (some false))) else (some false)) else (some false))) else (some false)) else (some false))))) else (none))) = some true := H
 have A3 := Aside0.mk A30
 clear A30
 replace H := Option.bind_eq_some_iff.mp H
 obtain ⟨⟨t145, t146⟩, A40, H⟩ := H
 replace H : (if 2 < (y128.length : Int) then ((some (y128.set (2 : Int).toNat (⟨(rd_T46 y128 2).f0, 6⟩ : S46) : List (S46))).bind fun y149 => ((leak_Explain.f y125 y149 3).bind fun bt150 => ((leak_Explain.f y125 y149 4).bind fun bt155 => (if t133 = 0 then (if t132 = true then ((cohousingref30_Same.f k t131 (([0] : List Int))).bind fun t163 => (if t163 = true then (if t137 = 0 then ((cohousingref30_Same.f k t136 (([0] : List Int))).bind fun t167 => (if t167 = true then (if t142 = 0 then (if t141 = true then (some false) else (if t146 = 4 then (if bt150.2.2 = 0 then (if bt150.2.1 = true then (if (bt150.1.length : Int) = 0 then (some (bt155.2.2 == 1)) else (some false)) else (some false)) else (some false)) else (some false))) else (some false)) else (some false))) else (some false)) else (some false))) else (some false)) else (some false))))) else (none)) = some true := H
 have A4 := Aside0.mk A40
 clear A40
 by_cases c5 : 2 < (y128.length : Int)
 ·rw [if_pos c5] at H
  have c5b0 : decide (2 < (y128.length : Int)) = true := decide_eq_true c5
  have c5b1 : decide (2 < y128.length) = true := decide_eq_true (by omega)
  clear c5
  obtain ⟨y149, hy149⟩ : ∃ y_ : List (S46), y_ = (y128.set (2 : Int).toNat (⟨(rd_T46 y128 2).f0, 6⟩ : S46)) := ⟨_, rfl⟩
  replace H : ((leak_Explain.f y125 y149 3).bind fun bt150 => ((leak_Explain.f y125 y149 4).bind fun bt155 => (if t133 = 0 then (if t132 = true then ((cohousingref30_Same.f k t131 (([0] : List Int))).bind fun t163 => (if t163 = true then (if t137 = 0 then ((cohousingref30_Same.f k t136 (([0] : List Int))).bind fun t167 => (if t167 = true then (if t142 = 0 then (if t141 = true then (some false) else (if t146 = 4 then (if bt150.2.2 = 0 then (if bt150.2.1 = true then (if (bt150.1.length : Int) = 0 then (some (bt155.2.2 == 1)) else (some false)) else (some false)) else (some false)) else (some false))) else (some false)) else (some false))) else (some false)) else (some false))) else (some false)) else (some false)))) = some true := by first | (rw [hy149]; with_reducible exact H) | (have H2_ := (Option.bind_some _ _).symm.trans H; rw [hy149]; with_reducible exact H2_) | (have H2_ := (Option.bind_some _ _).symm.trans H; with_reducible exact H2_) | with_reducible exact H | (rw [hy149]; exact H) | exact H
  have Ny149 := Aside0.mk hy149
  clear hy149
  replace H := Option.bind_eq_some_iff.mp H
  obtain ⟨⟨t150, t151, t152⟩, A70, H⟩ := H
  replace H : ((leak_Explain.f y125 y149 4).bind fun bt155 => (if t133 = 0 then (if t132 = true then ((cohousingref30_Same.f k t131 (([0] : List Int))).bind fun t163 => (if t163 = true then (if t137 = 0 then ((cohousingref30_Same.f k t136 (([0] : List Int))).bind fun t167 => (if t167 = true then (if t142 = 0 then (if t141 = true then (some false) else (if t146 = 4 then (if t152 = 0 then (if t151 = true then (if (t150.length : Int) = 0 then (some (bt155.2.2 == 1)) else (some false)) else (some false)) else (some false)) else (some false))) else (some false)) else (some false))) else (some false)) else (some false))) else (some false)) else (some false))) = some true := H
  have A7 := Aside0.mk A70
  clear A70
  replace H := Option.bind_eq_some_iff.mp H
  obtain ⟨⟨t155, t156, t157⟩, A80, H⟩ := H
  replace H : (if t133 = 0 then (if t132 = true then ((cohousingref30_Same.f k t131 (([0] : List Int))).bind fun t163 => (if t163 = true then (if t137 = 0 then ((cohousingref30_Same.f k t136 (([0] : List Int))).bind fun t167 => (if t167 = true then (if t142 = 0 then (if t141 = true then (some false) else (if t146 = 4 then (if t152 = 0 then (if t151 = true then (if (t150.length : Int) = 0 then (some (t157 == 1)) else (some false)) else (some false)) else (some false)) else (some false))) else (some false)) else (some false))) else (some false)) else (some false))) else (some false)) else (some false)) = some true := H
  have A8 := Aside0.mk A80
  clear A80
  by_cases c9 : t133 = 0
  ·rw [if_pos c9] at H
   have c9b0 : (t133 == 0) = true := beq_iff_eq.mpr c9
   have c9b1 : (t133 != 0) = false := bne_eq_false_iff_eq.mpr c9
   clear c9
   by_cases c10 : t132 = true
   ·subst c10
    have H1 : ((cohousingref30_Same.f k t131 (([0] : List Int))).bind fun t163 => (if t163 = true then (if t137 = 0 then ((cohousingref30_Same.f k t136 (([0] : List Int))).bind fun t167 => (if t167 = true then (if t142 = 0 then (if t141 = true then (some false) else (if t146 = 4 then (if t152 = 0 then (if t151 = true then (if (t150.length : Int) = 0 then (some (t157 == 1)) else (some false)) else (some false)) else (some false)) else (some false))) else (some false)) else (some false))) else (some false)) else (some false))) = some true := by rw [if_pos rfl] at H; exact H
    clear H
    have H := H1
    clear H1
    obtain ⟨y160, hy160⟩ : ∃ y_ : List Int, y_ = (([0] : List Int)) := ⟨_, rfl⟩
    replace H : ((cohousingref30_Same.f k t131 y160).bind fun t163 => (if t163 = true then (if t137 = 0 then ((cohousingref30_Same.f k t136 (([0] : List Int))).bind fun t167 => (if t167 = true then (if t142 = 0 then (if t141 = true then (some false) else (if t146 = 4 then (if t152 = 0 then (if t151 = true then (if (t150.length : Int) = 0 then (some (t157 == 1)) else (some false)) else (some false)) else (some false)) else (some false))) else (some false)) else (some false))) else (some false)) else (some false))) = some true := by first | (rw [hy160]; with_reducible exact H) | (have H2_ := (Option.bind_some _ _).symm.trans H; rw [hy160]; with_reducible exact H2_) | (have H2_ := (Option.bind_some _ _).symm.trans H; with_reducible exact H2_) | with_reducible exact H | (rw [hy160]; exact H) | exact H
    have Ny160 := Aside0.mk hy160
    clear hy160
    replace H := Option.bind_eq_some_iff.mp H
    obtain ⟨t163, A110, H⟩ := H
    replace H : (if t163 = true then (if t137 = 0 then ((cohousingref30_Same.f k t136 (([0] : List Int))).bind fun t167 => (if t167 = true then (if t142 = 0 then (if t141 = true then (some false) else (if t146 = 4 then (if t152 = 0 then (if t151 = true then (if (t150.length : Int) = 0 then (some (t157 == 1)) else (some false)) else (some false)) else (some false)) else (some false))) else (some false)) else (some false))) else (some false)) else (some false)) = some true := H
    have A11 := Aside0.mk A110
    clear A110
    by_cases c12 : t163 = true
    ·subst c12
     have H1 : (if t137 = 0 then ((cohousingref30_Same.f k t136 (([0] : List Int))).bind fun t167 => (if t167 = true then (if t142 = 0 then (if t141 = true then (some false) else (if t146 = 4 then (if t152 = 0 then (if t151 = true then (if (t150.length : Int) = 0 then (some (t157 == 1)) else (some false)) else (some false)) else (some false)) else (some false))) else (some false)) else (some false))) else (some false)) = some true := by rw [if_pos rfl] at H; exact H
     clear H
     have H := H1
     clear H1
     by_cases c13 : t137 = 0
     ·rw [if_pos c13] at H
      have c13b0 : (t137 == 0) = true := beq_iff_eq.mpr c13
      have c13b1 : (t137 != 0) = false := bne_eq_false_iff_eq.mpr c13
      clear c13
      obtain ⟨y164, hy164⟩ : ∃ y_ : List Int, y_ = (([0] : List Int)) := ⟨_, rfl⟩
      replace H : ((cohousingref30_Same.f k t136 y164).bind fun t167 => (if t167 = true then (if t142 = 0 then (if t141 = true then (some false) else (if t146 = 4 then (if t152 = 0 then (if t151 = true then (if (t150.length : Int) = 0 then (some (t157 == 1)) else (some false)) else (some false)) else (some false)) else (some false))) else (some false)) else (some false))) = some true := by first | (rw [hy164]; with_reducible exact H) | (have H2_ := (Option.bind_some _ _).symm.trans H; rw [hy164]; with_reducible exact H2_) | (have H2_ := (Option.bind_some _ _).symm.trans H; with_reducible exact H2_) | with_reducible exact H | (rw [hy164]; exact H) | exact H
      have Ny164 := Aside0.mk hy164
      clear hy164
      replace H := Option.bind_eq_some_iff.mp H
      obtain ⟨t167, A140, H⟩ := H
      replace H : (if t167 = true then (if t142 = 0 then (if t141 = true then (some false) else (if t146 = 4 then (if t152 = 0 then (if t151 = true then (if (t150.length : Int) = 0 then (some (t157 == 1)) else (some false)) else (some false)) else (some false)) else (some false))) else (some false)) else (some false)) = some true := H
      have A14 := Aside0.mk A140
      clear A140
      by_cases c15 : t167 = true
      ·subst c15
       have H1 : (if t142 = 0 then (if t141 = true then (some false) else (if t146 = 4 then (if t152 = 0 then (if t151 = true then (if (t150.length : Int) = 0 then (some (t157 == 1)) else (some false)) else (some false)) else (some false)) else (some false))) else (some false)) = some true := by rw [if_pos rfl] at H; exact H
       clear H
       have H := H1
       clear H1
       by_cases c16 : t142 = 0
       ·rw [if_pos c16] at H
        have c16b0 : (t142 == 0) = true := beq_iff_eq.mpr c16
        have c16b1 : (t142 != 0) = false := bne_eq_false_iff_eq.mpr c16
        clear c16
        by_cases c17 : t141 = true
        ·subst c17
         have H1 : (some false) = some true := by rw [if_pos rfl] at H; exact H
         clear H
         have H := H1
         clear H1
         exact absurd (Option.some.inj H) (by decide)
        ·replace c17 := Bool.eq_false_iff.mpr c17
         subst c17
         have H1 : (if t146 = 4 then (if t152 = 0 then (if t151 = true then (if (t150.length : Int) = 0 then (some (t157 == 1)) else (some false)) else (some false)) else (some false)) else (some false)) = some true := by rw [if_neg (show ¬ (false = true) by decide)] at H; exact H
         clear H
         have H := H1
         clear H1
         by_cases c40 : t146 = 4
         ·rw [if_pos c40] at H
          have c40b0 : (t146 == 4) = true := beq_iff_eq.mpr c40
          have c40b1 : (t146 != 4) = false := bne_eq_false_iff_eq.mpr c40
          clear c40
          by_cases c41 : t152 = 0
          ·rw [if_pos c41] at H
           have c41b0 : (t152 == 0) = true := beq_iff_eq.mpr c41
           have c41b1 : (t152 != 0) = false := bne_eq_false_iff_eq.mpr c41
           clear c41
           by_cases c42 : t151 = true
           ·subst c42
            have H1 : (if (t150.length : Int) = 0 then (some (t157 == 1)) else (some false)) = some true := by rw [if_pos rfl] at H; exact H
            clear H
            have H := H1
            clear H1
            by_cases c43 : (t150.length : Int) = 0
            ·rw [if_pos c43] at H
             have c43b0 : ((t150.length : Int) == 0) = true := beq_iff_eq.mpr c43
             have c43b1 : ((t150.length : Int) != 0) = false := bne_eq_false_iff_eq.mpr c43
             clear c43
             have hfin_ := Option.some.inj H
             go_enter Try.func11, Try.ntmps11
             go_wp2_with (first | ((with_reducible refine gate_dst (N := 22) rfl ?_); (try (refine gate_guard (by rfl) ?_; dsimp only)); refine Kd.R_lit k44 _ 44 ?hg (N := 22) ?hd (xs := ([(⟨1, 0, 0⟩ : S44), (⟨2, 1, 0⟩ : S44), (⟨3, 1, 0⟩ : S44)] : List (S44))) (inner := [.int .i64 1, .int .i64 0, .int .i64 0, .int .i64 2, .int .i64 1, .int .i64 0, .int .i64 3, .int .i64 1, .int .i64 0]) (ok := fun _ => True) (okp := fun _ => True) ?hr ?hp (fun _ hk => hk) trivial (Below.refl _ _) (Nat.le_refl _) (by simp) ?_; (case hd => rfl); (case hg => rfl); (case hr => first | (go_simp; done) | (go_simp; rfl)); (case hp => exact (Reps.c3 (show Kd.M k44 _ _ _ (⟨1, 0, 0⟩ : S44) [.int .i64 1, .int .i64 0, .int .i64 0] from (k44_mkM _ _ _ (⟨1, 0, 0⟩ : S44) )) (Reps.c3 (show Kd.M k44 _ _ _ (⟨2, 1, 0⟩ : S44) [.int .i64 2, .int .i64 1, .int .i64 0] from (k44_mkM _ _ _ (⟨2, 1, 0⟩ : S44) )) (Reps.c3 (show Kd.M k44 _ _ _ (⟨3, 1, 0⟩ : S44) [.int .i64 3, .int .i64 1, .int .i64 0] from (k44_mkM _ _ _ (⟨3, 1, 0⟩ : S44) )) (Reps.none _ _))))); intro v126 w44 ho45 hb hg_ hnew_; clear hg_ hnew_; (first | rw [← Ny125.out] at ho45 | (simp only [Int.reduceToNat] at ho45; rw [← Ny125.out] at ho45)); have n0_ := Aside0.mk (Kd.R_lower ho45 (below_size (bb_ HB))); have n1_ := Aside0.mk (below_step (bb_ HB) hb); clear HB; have HO127 := n0_; have HB := n1_; clear n0_ n1_; clear hb ho45) | ((with_reducible refine gate_dst (N := 26) rfl ?_); (try (refine gate_guard (by rfl) ?_; dsimp only)); refine Kd.R_lit k46 _ 46 ?hg (N := 26) ?hd (xs := ([(⟨10, 10⟩ : S46), (⟨4, 4⟩ : S46), (⟨5, 5⟩ : S46)] : List (S46))) (inner := [.int .i64 10, .int .i64 10, .int .i64 4, .int .i64 4, .int .i64 5, .int .i64 5]) (ok := fun _ => True) (okp := fun _ => True) ?hr ?hp (fun _ hk => hk) trivial (Below.refl _ _) (Nat.le_refl _) (by simp) ?_; (case hd => rfl); (case hg => rfl); (case hr => first | (go_simp; done) | (go_simp; rfl)); (case hp => exact (Reps.c2 (show Kd.M k46 _ _ _ (⟨10, 10⟩ : S46) [.int .i64 10, .int .i64 10] from (k46_mkM _ _ _ (⟨10, 10⟩ : S46) )) (Reps.c2 (show Kd.M k46 _ _ _ (⟨4, 4⟩ : S46) [.int .i64 4, .int .i64 4] from (k46_mkM _ _ _ (⟨4, 4⟩ : S46) )) (Reps.c2 (show Kd.M k46 _ _ _ (⟨5, 5⟩ : S46) [.int .i64 5, .int .i64 5] from (k46_mkM _ _ _ (⟨5, 5⟩ : S46) )) (Reps.none _ _))))); intro v129 w46 ho47 hb hg_ hnew_; clear hg_ hnew_; (first | rw [← Ny128.out] at ho47 | (simp only [Int.reduceToNat] at ho47; rw [← Ny128.out] at ho47)); have n0_ := Aside0.mk (Kd.R_below (rr_ HO127) hb); have n1_ := Aside0.mk (Kd.R_lower ho47 (below_size (bb_ HB))); have n2_ := Aside0.mk (below_step (bb_ HB) hb); clear HO127; clear HB; have HO127 := n0_; have HO130 := n1_; have HB := n2_; clear n0_ n1_ n2_; clear hb ho47; obtain ⟨Ao48, co48, eo48⟩ := Kd.R_slice HO127.out; subst eo48; obtain ⟨Ao49, co49, eo49⟩ := Kd.R_slice HO130.out; subst eo49) | ((with_reducible refine gate_callee (f := 13) rfl ?_); refine gl_ (some 30) Try.func13 #[.slice Ao48 y125.length co48, .slice Ao49 y128.length co49, .int .i64 1] ?_; (with_reducible refine (leak_Explain.calls _ _ y125 _ _ y128 1 t131 true t133 _ ?side1 ?side2 ?side3 ?side4 A1.out).mono ?_); (case side1 => exact cc_ ((Kd.R_reads' HO127.out).2.2)); (case side2 => exact (Kd.R_reads' HO127.out).2.1); (case side3 => exact cc_ ((Kd.R_reads' HO130.out).2.2)); (case side4 => exact (Kd.R_reads' HO130.out).2.1); rintro e w50 ⟨v134, rfl, ho0, hb⟩; refine ⟨_, rfl, ?_⟩; have n0_ := Aside0.mk (Kd.R_below (rr_ HO127) hb); have n1_ := Aside0.mk (Kd.R_below (rr_ HO130) hb); have n2_ := Aside0.mk (Kd.R_lower ho0 (below_size (bb_ HB))); have n3_ := Aside0.mk (below_step (bb_ HB) hb); clear HO127; clear HO130; clear HB; have HO127 := n0_; have HO130 := n1_; have HO135 := n2_; have HB := n3_; clear n0_ n1_ n2_ n3_; (try clear hb); (try clear hb2); (try clear hk); (try clear hi); (try clear ho0)) | ((with_reducible refine gate_callee (f := 16) rfl ?_); refine gl_ (some 37) Try.func16 #[.slice Ao48 y125.length co48, .slice Ao49 y128.length co49, .int .i64 3] ?_; (with_reducible refine (leak_Sure.calls _ _ y125 _ _ y128 3 t136 t137 _ ?side1 ?side2 ?side3 ?side4 A2.out).mono ?_); (case side1 => exact cc_ ((Kd.R_reads' HO127.out).2.2)); (case side2 => exact (Kd.R_reads' HO127.out).2.1); (case side3 => exact cc_ ((Kd.R_reads' HO130.out).2.2)); (case side4 => exact (Kd.R_reads' HO130.out).2.1); rintro e w51 ⟨v138, rfl, ho0, hb⟩; refine ⟨_, rfl, ?_⟩; have n0_ := Aside0.mk (Kd.R_below (rr_ HO127) hb); have n1_ := Aside0.mk (Kd.R_below (rr_ HO130) hb); have n2_ := Aside0.mk (Kd.R_elder' (rr_ HO135) (Kd.R_base ho0) hb); have n3_ := Aside0.mk (Kd.R_lower (Kd.R_new' ho0 (Kd.R_lt (rr_ HO135))) (below_size (bb_ HB))); have n4_ := Aside0.mk (below_step (bb_ HB) hb); clear HO127; clear HO130; clear HO135; clear HB; have HO127 := n0_; have HO130 := n1_; have HO135 := n2_; have HO139 := n3_; have HB := n4_; clear n0_ n1_ n2_ n3_ n4_; (try clear hb); (try clear hb2); (try clear hk); (try clear hi); (try clear ho0)) | ((with_reducible refine gate_callee (f := 13) rfl ?_); refine gl_ (some 43) Try.func13 #[.slice Ao48 y125.length co48, .slice Ao49 y128.length co49, .int .i64 0] ?_; (with_reducible refine (leak_Explain.calls _ _ y125 _ _ y128 0 t140 false t142 _ ?side1 ?side2 ?side3 ?side4 A3.out).mono ?_); (case side1 => exact cc_ ((Kd.R_reads' HO127.out).2.2)); (case side2 => exact (Kd.R_reads' HO127.out).2.1); (case side3 => exact cc_ ((Kd.R_reads' HO130.out).2.2)); (case side4 => exact (Kd.R_reads' HO130.out).2.1); rintro e w52 ⟨v143, rfl, ho0, hb⟩; refine ⟨_, rfl, ?_⟩; have n0_ := Aside0.mk (Kd.R_below (rr_ HO127) hb); have n1_ := Aside0.mk (Kd.R_below (rr_ HO130) hb); have n2_ := Aside0.mk (Kd.R_elder' (rr_ HO135) (Kd.R_base ho0) hb); have n3_ := Aside0.mk (Kd.R_elder' (rr_ HO139) (Kd.R_base ho0) hb); have n4_ := Aside0.mk (Kd.R_lower (Kd.R_new' (Kd.R_new' ho0 (Kd.R_lt (rr_ HO135))) (Kd.R_lt (rr_ HO139))) (below_size (bb_ HB))); have n5_ := Aside0.mk (below_step (bb_ HB) hb); clear HO127; clear HO130; clear HO135; clear HO139; clear HB; have HO127 := n0_; have HO130 := n1_; have HO135 := n2_; have HO139 := n3_; have HO144 := n4_; have HB := n5_; clear n0_ n1_ n2_ n3_ n4_ n5_; (try clear hb); (try clear hb2); (try clear hk); (try clear hi); (try clear ho0)) | ((with_reducible refine gate_callee (f := 16) rfl ?_); refine gl_ (some 50) Try.func16 #[.slice Ao48 y125.length co48, .slice Ao49 y128.length co49, .int .i64 0] ?_; (with_reducible refine (leak_Sure.calls _ _ y125 _ _ y128 0 t145 t146 _ ?side1 ?side2 ?side3 ?side4 A4.out).mono ?_); (case side1 => exact cc_ ((Kd.R_reads' HO127.out).2.2)); (case side2 => exact (Kd.R_reads' HO127.out).2.1); (case side3 => exact cc_ ((Kd.R_reads' HO130.out).2.2)); (case side4 => exact (Kd.R_reads' HO130.out).2.1); rintro e w53 ⟨v147, rfl, ho0, hb⟩; refine ⟨_, rfl, ?_⟩; have n0_ := Aside0.mk (Kd.R_below (rr_ HO127) hb); have n1_ := Aside0.mk (Kd.R_below (rr_ HO130) hb); have n2_ := Aside0.mk (Kd.R_elder' (rr_ HO135) (Kd.R_base ho0) hb); have n3_ := Aside0.mk (Kd.R_elder' (rr_ HO139) (Kd.R_base ho0) hb); have n4_ := Aside0.mk (Kd.R_elder' (rr_ HO144) (Kd.R_base ho0) hb); have n5_ := Aside0.mk (Kd.R_lower (Kd.R_new' (Kd.R_new' (Kd.R_new' ho0 (Kd.R_lt (rr_ HO135))) (Kd.R_lt (rr_ HO139))) (Kd.R_lt (rr_ HO144))) (below_size (bb_ HB))); have n6_ := Aside0.mk (below_step (bb_ HB) hb); clear HO127; clear HO130; clear HO135; clear HO139; clear HO144; clear HB; have HO127 := n0_; have HO130 := n1_; have HO135 := n2_; have HO139 := n3_; have HO144 := n4_; have HO148 := n5_; have HB := n6_; clear n0_ n1_ n2_ n3_ n4_ n5_ n6_; (try clear hb); (try clear hb2); (try clear hk); (try clear hi); (try clear ho0); have p6 : 0 ≤ (2 : Int) := (by omega); have q6 : (2 : Int) < ((y128.length : Int) : Int) := od_; have qi6 : (2 < y128.length) = True := eq_true (by omega); obtain ⟨go6, co6, eo6, gb6, gl6, cl6, HG6⟩ := Kd.R_form HO130.out (by omega); (first | cases eo6 | (injection eo6 with ea_ en_ ec_; (first | subst ea_ | (injection ea_ with ea_; subst ea_)); subst ec_; clear en_)); have GB6 := Aside0.mk gb6; have GG6 := Aside0.mk HG6; clear gb6 gl6 HG6; obtain ⟨ce6, hcl6, hM6, hcc6, hfr6⟩ := Kd.R_elem HO130.out z46 (2 : Int) p6 q6; obtain rfl := k46_openM hM6; have hx6_0 : w53.cell? ⟨go6, (2 : Int).toNat * 2, none⟩ = some (.int .i64 ((rd_T46 y128 2).f0)) := hcc6 0 _ rfl; have hx6_1 : w53.cell? ⟨go6, (2 : Int).toNat * 2 + 1, none⟩ = some (.int .i64 ((rd_T46 y128 2).f1)) := hcc6 1 _ rfl; have hf6_0 : w53.frozen? ⟨go6, (2 : Int).toNat * 2, none⟩ = false := hfr6 0; have hf6_1 : w53.frozen? ⟨go6, (2 : Int).toNat * 2 + 1, none⟩ = false := hfr6 1; clear hcl6 hcc6 hfr6 hM6; (try rw [show ((2 : Int)).toNat = 2 from rfl] at hx6_0); (try simp only [Nat.reduceMul, Nat.zero_mul, Nat.zero_add, Nat.reduceAdd] at hx6_0); (try rw [show ((2 : Int)).toNat = 2 from rfl] at hf6_0); (try simp only [Nat.reduceMul, Nat.zero_mul, Nat.zero_add, Nat.reduceAdd] at hf6_0); (try rw [show ((2 : Int)).toNat = 2 from rfl] at hx6_1); (try simp only [Nat.reduceMul, Nat.zero_mul, Nat.zero_add, Nat.reduceAdd] at hx6_1); (try rw [show ((2 : Int)).toNat = 2 from rfl] at hf6_1); (try simp only [Nat.reduceMul, Nat.zero_mul, Nat.zero_add, Nat.reduceAdd] at hf6_1); replace p6 := eq_true p6; replace q6 := eq_true q6; have HX54 := Aside0.mk (show Kd.R k46 46 w53 w.heap.size (fun _ => True) (.slice (some ⟨go6, 0, none⟩) y128.length co49) y128 from (rr_ HO130)); obtain ⟨ce54, hcl54, hM54, hcc54, hfr54⟩ := Kd.R_elem HX54.out z46 (2 : Int) (by omega) (by have h_ : (2 : Int) < ((y128.length : Int) : Int) := od_; first | exact h_ | (have e_ := (Kd.R_reads' HO130.out).1; omega) | simpa using h_); obtain rfl := k46_openM hM54; have HP54 := Kd.R_seg HX54.out (2 : Int) (by omega) (by have h_ : (2 : Int) < ((y128.length : Int) : Int) := od_; first | exact h_ | (have e_ := (Kd.R_reads' HO130.out).1; omega) | simpa using h_) (seg := [.int .i64 6]) (j := 1) hcl54 hcc54 (show 2 ≤ 2 from by decide) (x' := (⟨(rd_T46 y128 2).f0, 6⟩ : S46)) (k46_mkM _ _ _ (⟨(rd_T46 y128 2).f0, 6⟩ : S46) ) (fun _ hk => hk); have hx54_1 := hcc54 1 _ rfl; (try simp only [show (k46).sz = 2 from rfl, Nat.mul_one, Nat.add_zero] at hx54_1); (try rw [show ((2 : Int)).toNat = 2 from rfl] at hx54_1); (try simp only [Nat.reduceMul, Nat.zero_mul, Nat.zero_add, Nat.reduceAdd] at hx54_1); have hf54_1 := hfr54 1; (try simp only [show (k46).sz = 2 from rfl, Nat.mul_one, Nat.add_zero] at hf54_1); (try rw [show ((2 : Int)).toNat = 2 from rfl] at hf54_1); (try simp only [Nat.reduceMul, Nat.zero_mul, Nat.zero_add, Nat.reduceAdd] at hf54_1); clear hcl54 hcc54 hfr54 hM54) | ((with_reducible refine gate_store (t := 3) (p := 55) rfl ?_); refine store_event (t := 3) (p := 55) (v := ?vo_w55) (w1 := (w53.setCell ⟨go6, 5, none⟩ (.int .i64 6))) ?hg ?ho ?hn ?hr ?_; (case ho => rfl); (case hg => rfl); (case hn => rfl); (case hr => first | (go_simp; done) | (go_simp; rfl)); intro w55 hw; have hg : w53.grownBy w55 (some go6) := (by rw [hw]; exact HP54.2); have hp_ : Kd.R k46 46 w55 w.heap.size (fun _ => True) (.slice (some ⟨go6, 0, none⟩) y128.length co49) y149 := (by rw [hw, Ny149.out]; exact HP54.1); clear HP54; have n0_ := Aside0.mk (Kd.R_over' (v := (.slice (some ⟨go6, 0, none⟩) y128.length co49)) (rr_ HO127) (Kd.R_typed HO130.out) (by decide) hg); have n1_ := Aside0.mk (hp_); have n2_ := Aside0.mk (Kd.R_over' (v := (.slice (some ⟨go6, 0, none⟩) y128.length co49)) (rr_ HO135) (Kd.R_typed HO130.out) (by decide) hg); have n3_ := Aside0.mk (Kd.R_over' (v := (.slice (some ⟨go6, 0, none⟩) y128.length co49)) (rr_ HO139) (Kd.R_typed HO130.out) (by decide) hg); have n4_ := Aside0.mk (Kd.R_over' (v := (.slice (some ⟨go6, 0, none⟩) y128.length co49)) (rr_ HO144) (Kd.R_typed HO130.out) (by decide) hg); have n5_ := Aside0.mk (Kd.R_over' (v := (.slice (some ⟨go6, 0, none⟩) y128.length co49)) (rr_ HO148) (Kd.R_typed HO130.out) (by decide) hg); have n6_ := Aside0.mk ((by rw [hw]; exact below_set (HB.out) GB6.out : Below w.heap.size w w55)); clear HO127; clear HO130; clear HO135; clear HO139; clear HO144; clear HO148; clear HB; have HO127 := n0_; have HO130 := n1_; have HO135 := n2_; have HO139 := n3_; have HO144 := n4_; have HO148 := n5_; have HB := n6_; clear n0_ n1_ n2_ n3_ n4_ n5_ n6_; clear hg hw hp_) | ((with_reducible refine gate_callee (f := 13) rfl ?_); refine goesL_ (some 59) rfl rfl Try.func13 (by kernel_rfl) rfl #[.slice Ao48 y125.length co48, .slice (some ⟨go6, 0, none⟩) y149.length co49, .int .i64 3] rfl (by (try simp only [List.map_toArray, List.map_cons, List.map_nil]); first | done | (rw [show y149.length = y128.length from (Kd.R_reads' HO130.out).1.symm] <;> rfl) | rfl | (simp only [List.length_drop, List.length_take]; rfl)) ?_; (with_reducible refine (leak_Explain.calls _ _ y125 _ _ y149 3 t150 true t152 _ ?side1 ?side2 ?side3 ?side4 A7.out).mono ?_); (case side1 => exact cc_ ((Kd.R_reads' HO127.out).2.2)); (case side2 => exact (Kd.R_reads' HO127.out).2.1); (case side3 => exact cc_ ((Kd.R_reads' HO130.out).2.2)); (case side4 => rw [show y149.length = y128.length from (Kd.R_reads' HO130.out).1.symm]; exact (Kd.R_reads' HO130.out).2.1); rintro e w56 ⟨v153, rfl, ho0, hb⟩; refine ⟨_, rfl, ?_⟩; have n0_ := Aside0.mk (Kd.R_below (rr_ HO127) hb); have n1_ := Aside0.mk (Kd.R_below (rr_ HO130) hb); have n2_ := Aside0.mk (Kd.R_elder' (rr_ HO135) (Kd.R_base ho0) hb); have n3_ := Aside0.mk (Kd.R_elder' (rr_ HO139) (Kd.R_base ho0) hb); have n4_ := Aside0.mk (Kd.R_elder' (rr_ HO144) (Kd.R_base ho0) hb); have n5_ := Aside0.mk (Kd.R_elder' (rr_ HO148) (Kd.R_base ho0) hb); have n6_ := Aside0.mk (Kd.R_lower (Kd.R_new' (Kd.R_new' (Kd.R_new' (Kd.R_new' ho0 (Kd.R_lt (rr_ HO135))) (Kd.R_lt (rr_ HO139))) (Kd.R_lt (rr_ HO144))) (Kd.R_lt (rr_ HO148))) (below_size (bb_ HB))); have n7_ := Aside0.mk (below_step (bb_ HB) hb); clear HO127; clear HO130; clear HO135; clear HO139; clear HO144; clear HO148; clear HB; have HO127 := n0_; have HO130 := n1_; have HO135 := n2_; have HO139 := n3_; have HO144 := n4_; have HO148 := n5_; have HO154 := n6_; have HB := n7_; clear n0_ n1_ n2_ n3_ n4_ n5_ n6_ n7_; (try clear hb); (try clear hb2); (try clear hk); (try clear hi); (try clear ho0)) | ((with_reducible refine gate_callee (f := 13) rfl ?_); refine goesL_ (some 66) rfl rfl Try.func13 (by kernel_rfl) rfl #[.slice Ao48 y125.length co48, .slice (some ⟨go6, 0, none⟩) y149.length co49, .int .i64 4] rfl (by (try simp only [List.map_toArray, List.map_cons, List.map_nil]); first | done | (rw [show y149.length = y128.length from (Kd.R_reads' HO130.out).1.symm] <;> rfl) | rfl | (simp only [List.length_drop, List.length_take]; rfl)) ?_; (with_reducible refine (leak_Explain.calls _ _ y125 _ _ y149 4 t155 t156 t157 _ ?side1 ?side2 ?side3 ?side4 A8.out).mono ?_); (case side1 => exact cc_ ((Kd.R_reads' HO127.out).2.2)); (case side2 => exact (Kd.R_reads' HO127.out).2.1); (case side3 => exact cc_ ((Kd.R_reads' HO130.out).2.2)); (case side4 => rw [show y149.length = y128.length from (Kd.R_reads' HO130.out).1.symm]; exact (Kd.R_reads' HO130.out).2.1); rintro e w57 ⟨v158, rfl, ho0, hb⟩; refine ⟨_, rfl, ?_⟩; have n0_ := Aside0.mk (Kd.R_below (rr_ HO127) hb); have n1_ := Aside0.mk (Kd.R_below (rr_ HO130) hb); have n2_ := Aside0.mk (Kd.R_elder' (rr_ HO135) (Kd.R_base ho0) hb); have n3_ := Aside0.mk (Kd.R_elder' (rr_ HO139) (Kd.R_base ho0) hb); have n4_ := Aside0.mk (Kd.R_elder' (rr_ HO144) (Kd.R_base ho0) hb); have n5_ := Aside0.mk (Kd.R_elder' (rr_ HO148) (Kd.R_base ho0) hb); have n6_ := Aside0.mk (Kd.R_elder' (rr_ HO154) (Kd.R_base ho0) hb); have n7_ := Aside0.mk (Kd.R_lower (Kd.R_new' (Kd.R_new' (Kd.R_new' (Kd.R_new' (Kd.R_new' ho0 (Kd.R_lt (rr_ HO135))) (Kd.R_lt (rr_ HO139))) (Kd.R_lt (rr_ HO144))) (Kd.R_lt (rr_ HO148))) (Kd.R_lt (rr_ HO154))) (below_size (bb_ HB))); have n8_ := Aside0.mk (below_step (bb_ HB) hb); clear HO127; clear HO130; clear HO135; clear HO139; clear HO144; clear HO148; clear HO154; clear HB; have HO127 := n0_; have HO130 := n1_; have HO135 := n2_; have HO139 := n3_; have HO144 := n4_; have HO148 := n5_; have HO154 := n6_; have HO159 := n7_; have HB := n8_; clear n0_ n1_ n2_ n3_ n4_ n5_ n6_ n7_ n8_; (try clear hb); (try clear hb2); (try clear hk); (try clear hi); (try clear ho0)) | ((with_reducible refine gate_dst (N := 77) rfl ?_); (try (refine gate_guard (by rfl) ?_; dsimp only)); refine Kd.R_lit (Kd.int .i64) _ 3 ?hg (N := 77) ?hd (xs := ([0] : List Int)) (inner := [.int .i64 0]) (ok := fun _ => True) (okp := fun _ => True) ?hr ?hp (fun _ hk => hk) trivial (Below.refl _ _) (Nat.le_refl _) (by simp) ?_; (case hd => rfl); (case hg => rfl); (case hr => first | (go_simp; done) | (go_simp; rfl)); (case hp => exact (Reps.one (show Kd.M (Kd.int .i64) _ _ _ 0 [.int .i64 0] from rfl) (Reps.none _ _))); intro v161 w58 ho59 hb hg_ hnew_; clear hg_ hnew_; (first | rw [← Ny160.out] at ho59 | (simp only [Int.reduceToNat] at ho59; rw [← Ny160.out] at ho59)); have n0_ := Aside0.mk (Kd.R_below (rr_ HO127) hb); have n1_ := Aside0.mk (Kd.R_below (rr_ HO130) hb); have n2_ := Aside0.mk (Kd.R_elder' (rr_ HO135) (Kd.R_base ho59) hb); have n3_ := Aside0.mk (Kd.R_elder' (rr_ HO139) (Kd.R_base ho59) hb); have n4_ := Aside0.mk (Kd.R_elder' (rr_ HO144) (Kd.R_base ho59) hb); have n5_ := Aside0.mk (Kd.R_elder' (rr_ HO148) (Kd.R_base ho59) hb); have n6_ := Aside0.mk (Kd.R_elder' (rr_ HO154) (Kd.R_base ho59) hb); have n7_ := Aside0.mk (Kd.R_elder' (rr_ HO159) (Kd.R_base ho59) hb); have n8_ := Aside0.mk (Kd.R_lower (Kd.R_new' (Kd.R_new' (Kd.R_new' (Kd.R_new' (Kd.R_new' (Kd.R_new' ho59 (Kd.R_lt (rr_ HO135))) (Kd.R_lt (rr_ HO139))) (Kd.R_lt (rr_ HO144))) (Kd.R_lt (rr_ HO148))) (Kd.R_lt (rr_ HO154))) (Kd.R_lt (rr_ HO159))) (below_size (bb_ HB))); have n9_ := Aside0.mk (below_step (bb_ HB) hb); clear HO127; clear HO130; clear HO135; clear HO139; clear HO144; clear HO148; clear HO154; clear HO159; clear HB; have HO127 := n0_; have HO130 := n1_; have HO135 := n2_; have HO139 := n3_; have HO144 := n4_; have HO148 := n5_; have HO154 := n6_; have HO159 := n7_; have HO162 := n8_; have HB := n9_; clear n0_ n1_ n2_ n3_ n4_ n5_ n6_ n7_ n8_ n9_; clear hb ho59; obtain ⟨Ao60, co60, eo60⟩ := Kd.R_slice HO135.out; subst eo60; obtain ⟨Ao61, co61, eo61⟩ := Kd.R_slice HO162.out; subst eo61) | (go_at_call 15; (with_reducible refine (cohousingref30_Same.calls k _ _ t131 _ _ y160 true _ ?side1 ?side2 ?side3 ?side4 A11.out).mono ?_); (case side1 => exact cc_ ((Kd.R_reads' HO135.out).2.2)); (case side2 => exact (Kd.R_reads' HO135.out).2.1); (case side3 => exact cc_ ((Kd.R_reads' HO162.out).2.2)); (case side4 => exact (Kd.R_reads' HO162.out).2.1); rintro e w' ⟨rfl, ⟨nd, rfl⟩⟩) | ((with_reducible refine gate_dst (N := 86) rfl ?_); (try (refine gate_guard (by rfl) ?_; dsimp only)); refine Kd.R_lit (Kd.int .i64) _ 3 ?hg (N := 86) ?hd (xs := ([0] : List Int)) (inner := [.int .i64 0]) (ok := fun _ => True) (okp := fun _ => True) ?hr ?hp (fun _ hk => hk) trivial (Below.refl _ _) (Nat.le_refl _) (by simp) ?_; (case hd => rfl); (case hg => rfl); (case hr => first | (go_simp; done) | (go_simp; rfl)); (case hp => exact (Reps.one (show Kd.M (Kd.int .i64) _ _ _ 0 [.int .i64 0] from rfl) (Reps.none _ _))); intro v165 w62 ho63 hb hg_ hnew_; clear hg_ hnew_; (first | rw [← Ny164.out] at ho63 | (simp only [Int.reduceToNat] at ho63; rw [← Ny164.out] at ho63)); have n0_ := Aside0.mk (Kd.R_below (rr_ HO127) hb); have n1_ := Aside0.mk (Kd.R_below (rr_ HO130) hb); have n2_ := Aside0.mk (Kd.R_elder' (rr_ HO135) (Kd.R_base ho63) hb); have n3_ := Aside0.mk (Kd.R_elder' (rr_ HO139) (Kd.R_base ho63) hb); have n4_ := Aside0.mk (Kd.R_elder' (rr_ HO144) (Kd.R_base ho63) hb); have n5_ := Aside0.mk (Kd.R_elder' (rr_ HO148) (Kd.R_base ho63) hb); have n6_ := Aside0.mk (Kd.R_elder' (rr_ HO154) (Kd.R_base ho63) hb); have n7_ := Aside0.mk (Kd.R_elder' (rr_ HO159) (Kd.R_base ho63) hb); have n8_ := Aside0.mk (Kd.R_elder' (rr_ HO162) (Kd.R_base ho63) hb); have n9_ := Aside0.mk (Kd.R_lower (Kd.R_new' (Kd.R_new' (Kd.R_new' (Kd.R_new' (Kd.R_new' (Kd.R_new' (Kd.R_new' ho63 (Kd.R_lt (rr_ HO135))) (Kd.R_lt (rr_ HO139))) (Kd.R_lt (rr_ HO144))) (Kd.R_lt (rr_ HO148))) (Kd.R_lt (rr_ HO154))) (Kd.R_lt (rr_ HO159))) (Kd.R_lt (rr_ HO162))) (below_size (bb_ HB))); have n10_ := Aside0.mk (below_step (bb_ HB) hb); clear HO127; clear HO130; clear HO135; clear HO139; clear HO144; clear HO148; clear HO154; clear HO159; clear HO162; clear HB; have HO127 := n0_; have HO130 := n1_; have HO135 := n2_; have HO139 := n3_; have HO144 := n4_; have HO148 := n5_; have HO154 := n6_; have HO159 := n7_; have HO162 := n8_; have HO166 := n9_; have HB := n10_; clear n0_ n1_ n2_ n3_ n4_ n5_ n6_ n7_ n8_ n9_ n10_; clear hb ho63; obtain ⟨Ao64, co64, eo64⟩ := Kd.R_slice HO139.out; subst eo64; obtain ⟨Ao65, co65, eo65⟩ := Kd.R_slice HO166.out; subst eo65) | (go_at_call 15; (with_reducible refine (cohousingref30_Same.calls k _ _ t136 _ _ y164 true _ ?side1 ?side2 ?side3 ?side4 A14.out).mono ?_); (case side1 => exact cc_ ((Kd.R_reads' HO139.out).2.2)); (case side2 => exact (Kd.R_reads' HO139.out).2.1); (case side3 => exact cc_ ((Kd.R_reads' HO166.out).2.2)); (case side4 => exact (Kd.R_reads' HO166.out).2.1); rintro e w' ⟨rfl, ⟨nd, rfl⟩⟩; obtain ⟨Ao66, co66, eo66⟩ := Kd.R_slice HO154.out; subst eo66))
             go_ret
             exact ⟨ew_, by repeat (first | (with_reducible first | exact HB.out | apply below_alloc | apply pw_below_drewN | apply below_drew1) | exact HB.out)⟩
            ·rw [if_neg c43] at H
             have c43b0 : ((t150.length : Int) == 0) = false := beq_eq_false_iff_ne.mpr c43
             have c43b1 : ((t150.length : Int) != 0) = true := bne_iff_ne.mpr c43
             have c43b2 : ¬ (t150 = []) := fun h_ => c43 (by rw [h_]; rfl)
             exact absurd (Option.some.inj H) (by decide)
           ·replace c42 := Bool.eq_false_iff.mpr c42
            subst c42
            have H1 : (some false) = some true := by rw [if_neg (show ¬ (false = true) by decide)] at H; exact H
            clear H
            have H := H1
            clear H1
            exact absurd (Option.some.inj H) (by decide)
          ·rw [if_neg c41] at H
           have c41b0 : (t152 == 0) = false := beq_eq_false_iff_ne.mpr c41
           have c41b1 : (t152 != 0) = true := bne_iff_ne.mpr c41
           exact absurd (Option.some.inj H) (by decide)
         ·rw [if_neg c40] at H
          have c40b0 : (t146 == 4) = false := beq_eq_false_iff_ne.mpr c40
          have c40b1 : (t146 != 4) = true := bne_iff_ne.mpr c40
          exact absurd (Option.some.inj H) (by decide)
       ·rw [if_neg c16] at H
        have c16b0 : (t142 == 0) = false := beq_eq_false_iff_ne.mpr c16
        have c16b1 : (t142 != 0) = true := bne_iff_ne.mpr c16
        exact absurd (Option.some.inj H) (by decide)
      ·replace c15 := Bool.eq_false_iff.mpr c15
       subst c15
       have H1 : (some false) = some true := by rw [if_neg (show ¬ (false = true) by decide)] at H; exact H
       clear H
       have H := H1
       clear H1
       exact absurd (Option.some.inj H) (by decide)
     ·rw [if_neg c13] at H
      have c13b0 : (t137 == 0) = false := beq_eq_false_iff_ne.mpr c13
      have c13b1 : (t137 != 0) = true := bne_iff_ne.mpr c13
      exact absurd (Option.some.inj H) (by decide)
    ·replace c12 := Bool.eq_false_iff.mpr c12
     subst c12
     have H1 : (some false) = some true := by rw [if_neg (show ¬ (false = true) by decide)] at H; exact H
     clear H
     have H := H1
     clear H1
     exact absurd (Option.some.inj H) (by decide)
   ·replace c10 := Bool.eq_false_iff.mpr c10
    subst c10
    have H1 : (some false) = some true := by rw [if_neg (show ¬ (false = true) by decide)] at H; exact H
    clear H
    have H := H1
    clear H1
    exact absurd (Option.some.inj H) (by decide)
  ·rw [if_neg c9] at H
   have c9b0 : (t133 == 0) = false := beq_eq_false_iff_ne.mpr c9
   have c9b1 : (t133 != 0) = true := bne_iff_ne.mpr c9
   exact absurd (Option.some.inj H) (by decide)
 ·rw [if_neg c5] at H
  exact absurd H (by simp)
end
section
def cohousingref30_Few.f (l0 : List (S44)) (l1 : List (S46)) : Option (Bool) := if (l0.length : Int) ≤ 12 then (some (decide ((l1.length : Int) ≤ 20))) else (some false)
theorem cohousingref30_Few.calls (A0 : Option Addr) (c0 : Nat) (l0 : List (S44)) (A1 : Option Addr) (c1 : Nat) (l1 : List (S46)) (r : Bool) (w : World) (hr0 : Kd.C k44 w A0 l0.length l0) (hc0 : l0.length ≤ c0) (hr1 : Kd.C k46 w A1 l1.length l1) (hc1 : l1.length ≤ c1) (h : cohousingref30_Few.f l0 l1 = some r) :
  Calls Try.prog 12 #[.slice A0 l0.length c0, .slice A1 l1.length c1] w fun e w' => e = .returned (.bool r) ∧ Drawn0 w w' := by
 have HR0 := Aside0.mk hr0
 have HC0 := Aside0.mk hc0
 clear hr0 hc0
 have HR1 := Aside0.mk hr1
 have HC1 := Aside0.mk hc1
 clear hr1 hc1
 have H : (if (l0.length : Int) ≤ 12 then (some (decide ((l1.length : Int) ≤ 20))) else (some false)) = some r := h
 clear h
 by_cases c3 : (l0.length : Int) ≤ 12
 ·rw [if_pos c3] at H
  have c3b0 : decide ((l0.length : Int) ≤ 12) = true := decide_eq_true c3
  have c3b1 : decide (l0.length ≤ 12) = true := decide_eq_true (by omega)
  clear c3
  obtain rfl := Option.some.inj H
  go_enter Try.func12, Try.ntmps12
  go_wp2
  go_ret
  exact ⟨by first | rfl | (simp; done) | (simp [*]; done), by repeat (first | exact Drawn0.refl _ | apply Drawn0.step)⟩
 ·rw [if_neg c3] at H
  have c3b0 : decide ((l0.length : Int) ≤ 12) = false := decide_eq_false c3
  have c3b1 : decide (l0.length ≤ 12) = false := decide_eq_false (by omega)
  clear c3
  obtain rfl := Option.some.inj H
  go_enter Try.func12, Try.ntmps12
  go_wp2
  go_ret
  exact ⟨by first | rfl | (simp; done) | (simp [*]; done), by repeat (first | exact Drawn0.refl _ | apply Drawn0.step)⟩
end
section
def cohousingref28_At.l0 : Nat → List (S44) → Int → Int → Option (Int)
 | 0, _, _, _ => none
 | k + 1, x0, x1, x5 => if x5 < (x0.length : Int) then (if 0 ≤ x5 then (if ((rd_T44 x0 x5).f0) = x1 then (some x5) else (cohousingref28_At.l0 k x0 x1 (wrap64 (x5 + 1)))) else (none)) else (some (-1))
def cohousingref28_At.f (k : Nat) (l0 : List (S44)) (a1 : Int) : Option (Int) := cohousingref28_At.l0 k l0 a1 0
theorem cohousingref28_At.mono_l : ∀ k, (∀ y0 y1 y2, LeO (cohousingref28_At.l0 k y0 y1 y2) (cohousingref28_At.l0 (k + 1) y0 y1 y2))
 | 0 => fun _ _ _ r h => by simp [cohousingref28_At.l0] at h
 | k + 1 => by
  have ih0 := cohousingref28_At.mono_l k
  ·intro y0 y1 y2
   unfold cohousingref28_At.l0
   repeat' first
   | (with_reducible exact ih0 _ _ _)
   | (with_reducible exact LeO.refl _)
   | (with_reducible exact LeO.none _)
   | (with_reducible refine LeO.ite ?_ ?_)
   | (with_reducible refine LeO.bind ?_ (fun _ => ?_))
   | exact ih0 _ _ _
   | exact LeO.none _
   | refine LeO.ite ?_ ?_
   | refine LeO.bind ?_ (fun _ => ?_)
theorem cohousingref28_At.mono : ∀ a0 a1 k, LeO (cohousingref28_At.f k a0 a1) (cohousingref28_At.f (k + 1) a0 a1) := by
 intro a0 a1 k
 have ih0 := cohousingref28_At.mono_l k
 unfold cohousingref28_At.f
 repeat' first
   | (with_reducible exact ih0 _ _ _)
   | (with_reducible exact LeO.refl _)
   | (with_reducible exact LeO.none _)
   | (with_reducible refine LeO.ite ?_ ?_)
   | (with_reducible refine LeO.bind ?_ (fun _ => ?_))
   | exact ih0 _ _ _
   | exact LeO.none _
   | refine LeO.ite ?_ ?_
   | refine LeO.bind ?_ (fun _ => ?_)
theorem cohousingref28_At.calls (k : Nat) (A0 : Option Addr) (c0 : Nat) (l0 : List (S44)) (a1 : Int) (r : Int) (w : World) (hr0 : Kd.C k44 w A0 l0.length l0) (hc0 : l0.length ≤ c0) (h : cohousingref28_At.f k l0 a1 = some r) :
  Calls Try.prog 25 #[.slice A0 l0.length c0, .int .i64 a1] w fun e w' => e = .returned (.int .i64 r) ∧ Drawn0 w w' := by
 have HR0 := Aside0.mk hr0
 have HC0 := Aside0.mk hc0
 clear hr0 hc0
 have H : (cohousingref28_At.l0 k l0 a1 0) = some r := h
 clear h
 have H' := Aside0.mk H
 clear H
 go_enter Try.func25, Try.ntmps25
 go_wp2
 go_loopg [5] k (fun kq v5 w' => ∃ (x5_1 : Int), v5 = .int .i64 x5_1 ∧ Aside0 (cohousingref28_At.l0 kq l0 a1 x5_1 = some r) ∧ Aside0 (kq ≤ k) ∧ Drawn0 w w')
 case atStart => exact ⟨(0), sd_, H', ⟨Nat.le_refl _⟩, by repeat (first | exact Drawn0.refl _ | apply Drawn0.step)⟩
 case round =>
  clear H'
  try clear c2
  try clear p2
  obtain ⟨x5_1, rfl, HA, HK1, ⟨m1, rfl⟩⟩ := hrel
  cases gk with
  | zero => exact absurd HA.out (by simp [cohousingref28_At.l0])
  | succ k1 =>
   have H := HA.out
   clear HA
   simp only [cohousingref28_At.l0] at H
   by_cases c3 : x5_1 < (l0.length : Int)
   ·rw [if_pos c3] at H
    have c3b0 : decide (x5_1 < (l0.length : Int)) = true := decide_eq_true c3
    clear c3
    by_cases c4 : 0 ≤ x5_1
    ·rw [if_pos c4] at H
     have c4b0 : decide (0 ≤ x5_1) = true := decide_eq_true c4
     clear c4
     by_cases c5 : ((rd_T44 l0 x5_1).f0) = a1
     ·rw [if_pos c5] at H
      have c5b0 : (((rd_T44 l0 x5_1).f0) == a1) = true := beq_iff_eq.mpr c5
      have c5b1 : (((rd_T44 l0 x5_1).f0) != a1) = false := bne_eq_false_iff_eq.mpr c5
      clear c5
      obtain rfl := Option.some.inj H
      have p168 : 0 ≤ (x5_1 : Int) := od_
      have q168 : x5_1 < (l0.length : Int) := od_
      obtain ⟨ad168, e168, hx168_0, hx168_1, hx168_2⟩ := at_T44 HR0.out x5_1 p168 q168
      cases e168
      replace p168 := eq_true p168
      replace q168 := eq_true q168
      go_wp2
      go_ret
      exact ⟨by first | rfl | (simp; done) | (simp [*]; done), by repeat (first | exact Drawn0.refl _ | apply Drawn0.step)⟩
     ·rw [if_neg c5] at H
      have c5b0 : (((rd_T44 l0 x5_1).f0) == a1) = false := beq_eq_false_iff_ne.mpr c5
      have c5b1 : (((rd_T44 l0 x5_1).f0) != a1) = true := bne_iff_ne.mpr c5
      have H' := Aside0.mk H
      clear H
      have p168 : 0 ≤ (x5_1 : Int) := od_
      have q168 : x5_1 < (l0.length : Int) := od_
      obtain ⟨ad168, e168, hx168_0, hx168_1, hx168_2⟩ := at_T44 HR0.out x5_1 p168 q168
      cases e168
      replace p168 := eq_true p168
      replace q168 := eq_true q168
      go_wp2
      go_roundg k1
      case measure => have := HK1.out; omega
      case rel => exact ⟨(wrap64 (x5_1 + 1)), sd_, H', ⟨by have := HK1.out; omega⟩, by repeat (first | exact Drawn0.refl _ | apply Drawn0.step)⟩
    ·rw [if_neg c4] at H
     exact absurd H (by simp)
   ·rw [if_neg c3] at H
    have c3b0 : decide (x5_1 < (l0.length : Int)) = false := decide_eq_false c3
    clear c3
    obtain rfl := Option.some.inj H
    go_wp2
    go_ret
    exact ⟨by first | rfl | (simp; done) | (simp [*]; done), by repeat (first | exact Drawn0.refl _ | apply Drawn0.step)⟩
end
section
def cohousingref28_Volume.f (a0 : Int) : Option (Bool) := if a0 ≥ 0 then (some (decide (a0 ≤ 1000000000))) else (some false)
theorem cohousingref28_Volume.calls (a0 : Int) (r : Bool) (w : World) (h : cohousingref28_Volume.f a0 = some r) :
  Calls Try.prog 40 #[.int .i64 a0] w fun e w' => e = .returned (.bool r) ∧ Drawn0 w w' := by
 have H : (if a0 ≥ 0 then (some (decide (a0 ≤ 1000000000))) else (some false)) = some r := h
 clear h
 by_cases c2 : a0 ≥ 0
 ·rw [if_pos c2] at H
  have c2b0 : decide (0 ≤ a0) = true := decide_eq_true c2
  clear c2
  obtain rfl := Option.some.inj H
  go_enter Try.func40, Try.ntmps40
  go_wp2
  go_ret
  exact ⟨by first | rfl | (simp; done) | (simp [*]; done), by repeat (first | exact Drawn0.refl _ | apply Drawn0.step)⟩
 ·rw [if_neg c2] at H
  have c2b0 : decide (0 ≤ a0) = false := decide_eq_false c2
  clear c2
  obtain rfl := Option.some.inj H
  go_enter Try.func40, Try.ntmps40
  go_wp2
  go_ret
  exact ⟨by first | rfl | (simp; done) | (simp [*]; done), by repeat (first | exact Drawn0.refl _ | apply Drawn0.step)⟩
end
section
mutual
def cohousingref28_Valid.l0 : Nat → List (S44) → Int → Option (Bool)
 | 0, _, _ => none
 | k + 1, x0, x3 => if x3 < (x0.length : Int) then (if 0 ≤ x3 then (if ((rd_T44 x0 x3).f0) < 1 then (cohousingref28_Valid.j1 k x0 x3 true) else (if x3 > 0 then (if 0 ≤ (wrap64 (x3 - 1)) then (if (wrap64 (x3 - 1)) < (x0.length : Int) then (if ((rd_T44 x0 x3).f0) ≤ ((rd_T44 x0 (wrap64 (x3 - 1))).f0) then (cohousingref28_Valid.j1 k x0 x3 true) else ((cohousingref28_Volume.f ((rd_T44 x0 x3).f2)).bind fun t173 => (cohousingref28_Valid.j1 k x0 x3 (!t173)))) else (none)) else (none)) else ((cohousingref28_Volume.f ((rd_T44 x0 x3).f2)).bind fun t175 => (cohousingref28_Valid.j1 k x0 x3 (!t175))))) else (none)) else (some (decide ((x0.length : Int) ≤ 200)))
def cohousingref28_Valid.j1 : Nat → List (S44) → Int → Bool → Option (Bool)
 | 0, _, _, _ => none
 | k + 1, x0, x3, x42 => if x42 = true then (some false) else (if 0 ≤ x3 then (if x3 < (x0.length : Int) then (if ((rd_T44 x0 x3).f1) = 0 then (cohousingref28_Valid.l0 k x0 (wrap64 (x3 + 1))) else (if x3 ≤ (x0.length : Int) then ((cohousingref28_At.f k (x0.take (x3 : Int).toNat) ((rd_T44 x0 x3).f1)).bind fun t182 => (if t182 < 0 then (some false) else (cohousingref28_Valid.l0 k x0 (wrap64 (x3 + 1))))) else (none))) else (none)) else (none))
end
def cohousingref28_Valid.f (k : Nat) (l0 : List (S44)) : Option (Bool) := cohousingref28_Valid.l0 k l0 0
theorem cohousingref28_Valid.mono_l : ∀ k, (∀ y0 y1, LeO (cohousingref28_Valid.l0 k y0 y1) (cohousingref28_Valid.l0 (k + 1) y0 y1)) ∧ (∀ y0 y1 y2, LeO (cohousingref28_Valid.j1 k y0 y1 y2) (cohousingref28_Valid.j1 (k + 1) y0 y1 y2))
 | 0 => ⟨fun _ _ r h => by simp [cohousingref28_Valid.l0] at h, fun _ _ _ r h => by simp [cohousingref28_Valid.j1] at h⟩
 | k + 1 => by
  obtain ⟨ih0, ih1⟩ := cohousingref28_Valid.mono_l k
  refine ⟨?_, ?_⟩
  ·intro y0 y1
   unfold cohousingref28_Valid.l0
   repeat' first
   | (with_reducible exact ih0 _ _)
   | (with_reducible exact ih1 _ _ _)
   | (with_reducible exact cohousingref28_At.mono _ _ _)
   | (with_reducible exact LeO.refl _)
   | (with_reducible exact LeO.none _)
   | (with_reducible refine LeO.ite ?_ ?_)
   | (with_reducible refine LeO.bind ?_ (fun _ => ?_))
   | exact ih0 _ _
   | exact ih1 _ _ _
   | exact cohousingref28_At.mono _ _ _
   | exact LeO.none _
   | refine LeO.ite ?_ ?_
   | refine LeO.bind ?_ (fun _ => ?_)
  ·intro y0 y1 y2
   unfold cohousingref28_Valid.j1
   repeat' first
   | (with_reducible exact ih0 _ _)
   | (with_reducible exact ih1 _ _ _)
   | (with_reducible exact cohousingref28_At.mono _ _ _)
   | (with_reducible exact LeO.refl _)
   | (with_reducible exact LeO.none _)
   | (with_reducible refine LeO.ite ?_ ?_)
   | (with_reducible refine LeO.bind ?_ (fun _ => ?_))
   | exact ih0 _ _
   | exact ih1 _ _ _
   | exact cohousingref28_At.mono _ _ _
   | exact LeO.none _
   | refine LeO.ite ?_ ?_
   | refine LeO.bind ?_ (fun _ => ?_)
theorem cohousingref28_Valid.mono : ∀ a0 k, LeO (cohousingref28_Valid.f k a0) (cohousingref28_Valid.f (k + 1) a0) := by
 intro a0 k
 obtain ⟨ih0, ih1⟩ := cohousingref28_Valid.mono_l k
 unfold cohousingref28_Valid.f
 repeat' first
   | (with_reducible exact ih0 _ _)
   | (with_reducible exact ih1 _ _ _)
   | (with_reducible exact cohousingref28_At.mono _ _ _)
   | (with_reducible exact LeO.refl _)
   | (with_reducible exact LeO.none _)
   | (with_reducible refine LeO.ite ?_ ?_)
   | (with_reducible refine LeO.bind ?_ (fun _ => ?_))
   | exact ih0 _ _
   | exact ih1 _ _ _
   | exact cohousingref28_At.mono _ _ _
   | exact LeO.none _
   | refine LeO.ite ?_ ?_
   | refine LeO.bind ?_ (fun _ => ?_)
def cohousingref28_Valid.T4 : Bool × List (List Nat × List Nat) := (true, [([], []), ([], []), ([0, 1], [0, 1]), ([2], [2]), ([3], [3]), ([4], [4]), ([5], [5]), ([6], [6]), ([7, 6], [6, 7]), ([8, 6, 6], [6, 8]), ([9], [9]), ([9], [9]), ([10, 11, 9], [9, 10, 11]), ([12, 9], [9, 12]), ([13, 9], [9, 13]), ([9], [9]), ([9], [9]), ([16, 9], [9, 16]), ([15, 17, 9], [9, 15, 17]), ([18, 9], [9, 18]), ([19, 9], [9, 19]), ([14, 20, 9], [9, 14, 20]), ([9, 21, 6], [6, 9, 21]), ([6, 22], [6, 22]), ([23, 9], [23]), ([24], [24]), ([24], [24]), ([25, 26, 24], [24, 25, 26]), ([27, 24], [24, 27]), ([28, 24], [24, 28]), ([29, 24, 24], [24, 29]), ([30, 24], [24, 30]), ([24, 31], [24, 31])])
def cohousingref28_Valid.B4 : List Nat := [0, 0, 3, 7, 15, 31, 63, 127, 255, 511, 1023, 1023, 4095, 8191, 16383, 1023, 1023, 66559, 230399, 492543, 1016831, 2097151, 4194303, 8388607, 16777215, 33554431, 33554431, 134217727, 268435455, 536870911, 1073741823, 2147483647, 4294967295]
theorem cohousingref28_Valid.tab4 : rtab .any (opsOf Try.f23 4) = cohousingref28_Valid.T4 := by kernel_rfl
theorem cohousingref28_Valid.bits4 : waitsOk cohousingref28_Valid.T4.2 cohousingref28_Valid.B4 = true := by kernel_rfl
def cohousingref28_Valid.T6 : Bool × List (List Nat × List Nat) := (true, [([], []), ([], []), ([0, 1], [0, 1]), ([2], [2]), ([3], [3]), ([4], [4]), ([5], [5]), ([6], [6]), ([6], [6]), ([7, 8, 6], [6, 7, 8]), ([6], [6]), ([6], [6]), ([10, 11, 6], [6, 10, 11]), ([12, 6], [6, 12]), ([13, 6], [6, 13]), ([9, 14, 6, 6], [6, 9, 14]), ([15, 6], [6, 15]), ([6, 16], [6, 16])])
def cohousingref28_Valid.B6 : List Nat := [0, 0, 3, 7, 15, 31, 63, 127, 127, 511, 127, 127, 3199, 7295, 15487, 32767, 65535, 131071]
theorem cohousingref28_Valid.tab6 : rtab .any (opsOf Try.f23 6) = cohousingref28_Valid.T6 := by kernel_rfl
theorem cohousingref28_Valid.bits6 : waitsOk cohousingref28_Valid.T6.2 cohousingref28_Valid.B6 = true := by kernel_rfl
theorem cohousingref28_Valid.calls (k : Nat) (A0 : Option Addr) (c0 : Nat) (l0 : List (S44)) (r : Bool) (w : World) (hr0 : Kd.C k44 w A0 l0.length l0) (hc0 : l0.length ≤ c0) (h : cohousingref28_Valid.f k l0 = some r) :
  Calls Try.prog 23 #[.slice A0 l0.length c0] w fun e w' => e = .returned (.bool r) ∧ Below w.heap.size w w' := by
 have HR0 := Aside0.mk hr0
 have HC0 := Aside0.mk hc0
 clear hr0 hc0
 have HB := Aside0.mk (Below.refl w.heap.size w)
 have H : (cohousingref28_Valid.l0 k l0 0) = some r := h
 clear h
 have H' := Aside0.mk H
 clear H
 go_enter Try.func23, Try.ntmps23
 go_wp2
 go_loopg [3] k (fun kq v3 w' => ∃ (x3_1 : Int), v3 = .int .i64 x3_1 ∧ Aside0 (cohousingref28_Valid.l0 kq l0 x3_1 = some r) ∧ Aside0 (kq ≤ k) ∧ Aside0 (Below w.heap.size w w'))
 case atStart => exact ⟨(0), sd_, H', ⟨Nat.le_refl _⟩, ⟨by repeat (first | (with_reducible first | exact HB.out | apply below_alloc | apply pw_below_drewN | apply below_drew1) | exact HB.out)⟩⟩
 case round =>
  clear H'
  obtain ⟨x3_1, rfl, HA, HK1, HB⟩ := hrel
  cases gk with
  | zero => exact absurd HA.out (by simp [cohousingref28_Valid.l0])
  | succ k1 =>
   have H := HA.out
   clear HA
   simp only [cohousingref28_Valid.l0] at H
   by_cases c2 : x3_1 < (l0.length : Int)
   ·rw [if_pos c2] at H
    have c2b0 : decide (x3_1 < (l0.length : Int)) = true := decide_eq_true c2
    clear c2
    have HC3 := Aside0.mk H
    clear H
    go_upto_region 4 with (fail)
    go_cut [42] (fun v42 wc => ∃ (kq : Nat) (x42_2 : Bool), v42 = .bool x42_2 ∧ Aside0 (cohousingref28_Valid.j1 kq l0 x3_1 x42_2 = some r) ∧ Aside0 (kq ≤ k1) ∧ Aside0 (Below w.heap.size w wc))
    case first =>
     have H := HC3.out
     clear HC3
     by_cases c4 : 0 ≤ x3_1
     ·rw [if_pos c4] at H
      have c4b0 : decide (0 ≤ x3_1) = true := decide_eq_true c4
      clear c4
      (first | rw [c4b0] | (simp only [i64_w, i32_w]; rw [c4b0]) | skip)
      by_cases c5 : ((rd_T44 l0 x3_1).f0) < 1
      ·rw [if_pos c5] at H
       have c5b0 : decide (((rd_T44 l0 x3_1).f0) < 1) = true := decide_eq_true c5
       clear c5
       have H' := Aside0.mk H
       clear H
       try go_wp2
       have n0_ := Aside0.mk (below_drew1 HB.out)
       clear HB
       have HB := n0_
       clear n0_
       have p169 : 0 ≤ (x3_1 : Int) := od_
       have q169 : x3_1 < (l0.length : Int) := od_
       obtain ⟨ad169, e169, hx169_0, hx169_1, hx169_2⟩ := at_T44 HR0.out x3_1 p169 q169
       have hw169_2 := hx169_2
       have hw169_1 := hx169_1
       have hw169_0 := hx169_0
       cases e169
       replace hx169_0 := (HB.out.cell (World.block_lt_of_cell? w _ hx169_0)).trans hx169_0
       replace hx169_1 := (HB.out.cell (World.block_lt_of_cell? w _ hx169_1)).trans hx169_1
       replace hx169_2 := (HB.out.cell (World.block_lt_of_cell? w _ hx169_2)).trans hx169_2
       replace p169 := eq_true p169
       replace q169 := eq_true q169
       refine start_ (n := 33) (S := fun w' => w'.cell? (ad169.add ((x3_1).toNat * 3)) = some (.int .i64 ((rd_T44 l0 x3_1).f0)) ∧ w'.cell? ⟨(ad169.add ((x3_1).toNat * 3)).block, (ad169.add ((x3_1).toNat * 3)).off + 1, none⟩ = some (.int .i64 ((rd_T44 l0 x3_1).f1)) ∧ w'.cell? ⟨(ad169.add ((x3_1).toNat * 3)).block, (ad169.add ((x3_1).toNat * 3)).off + 2, none⟩ = some (.int .i64 ((rd_T44 l0 x3_1).f2))) (ds := []) #[n_, n_, n_, n_, n_, n_, n_, n_, n_, n_, n_, n_, n_, n_, n_, n_, n_, n_, n_, n_, n_, n_, n_, n_, n_, n_, n_, n_, n_, n_, n_, n_, n_] (by kernel_rfl) rfl rfl ⟨((HB.out.cell (World.block_lt_of_cell? w _ hw169_0)).trans hw169_0), ((HB.out.cell (World.block_lt_of_cell? w _ hw169_1)).trans hw169_1), ((HB.out.cell (World.block_lt_of_cell? w _ hw169_2)).trans hw169_2)⟩ (fun hHeld => ?_); refine with_tabW cohousingref28_Valid.tab4 cohousingref28_Valid.bits4 (fun HT_ HW_ => ?_)
       generalize wr.drew = w6 at HB hx169_0 hx169_1 hx169_2 hHeld ⊢
       refine pu_ 0 10 (w_ 33 1) rfl HT_ ?_
       refine pu_ 1 11 (w_ 33 3) rfl HT_ ?_
       refine pu_ 2 12 (w_ 33 7) rfl HT_ ?_
       refine pu_ 3 13 (w_ 33 15) rfl HT_ ?_
       refine ta_ 4 14 (w_ 33 31) rfl HT_ HW_ hHeld (by rintro w' ⟨s0, s1, s2⟩; go_simp; with_reducible rfl) ?_
       refine pu_ 5 15 (w_ 33 63) rfl HT_ ?_
       refine pu_ 6 16 (w_ 33 127) rfl HT_ ?_
       refine pn_ 7 17 (w_ 33 255) rfl HT_ ?_
       refine pn_ 8 18 (w_ 33 511) rfl HT_ ?_
       refine pn_ 9 19 (w_ 33 1023) rfl HT_ ?_
       refine pn_ 10 20 (w_ 33 2047) rfl HT_ ?_
       refine pn_ 11 21 (w_ 33 4095) rfl HT_ ?_
       refine pn_ 12 22 (w_ 33 8191) rfl HT_ ?_
       refine pn_ 13 23 (w_ 33 16383) rfl HT_ ?_
       refine pn_ 14 24 (w_ 33 32767) rfl HT_ ?_
       refine pn_ 15 25 (w_ 33 65535) rfl HT_ ?_
       refine pn_ 16 26 (w_ 33 131071) rfl HT_ ?_
       refine pn_ 17 27 (w_ 33 262143) rfl HT_ ?_
       refine pn_ 18 28 (w_ 33 524287) rfl HT_ ?_
       refine pn_ 19 29 (w_ 33 1048575) rfl HT_ ?_
       refine pn_ 20 30 (w_ 33 2097151) rfl HT_ ?_
       refine pn_ 21 31 (w_ 33 4194303) rfl HT_ ?_
       refine pn_ 22 32 (w_ 33 8388607) rfl HT_ ?_
       refine pu_ 23 33 (w_ 33 16777215) rfl HT_ ?_
       refine pu_ 24 34 (w_ 33 33554431) rfl HT_ ?_
       refine pn_ 25 35 (w_ 33 67108863) rfl HT_ ?_
       refine pn_ 26 36 (w_ 33 134217727) rfl HT_ ?_
       refine pn_ 27 37 (w_ 33 268435455) rfl HT_ ?_
       refine pn_ 28 38 (w_ 33 536870911) rfl HT_ ?_
       refine pn_ 29 39 (w_ 33 1073741823) rfl HT_ ?_
       refine pn_ 30 40 (w_ 33 2147483647) rfl HT_ ?_
       refine pn_ 31 41 (w_ 33 4294967295) rfl HT_ ?_
       refine pu_ 32 42 (w_ 33 8589934591) rfl HT_ ?_
       refine done_ (done_of HT_.out (by kernel_rfl)) ?_
       try go_wp2
       go_meet
       case rel => exact ⟨_, (true), sd_, H', ⟨by have := HK1.out; first | omega | exact Nat.le_refl _⟩, ⟨by repeat (first | (with_reducible first | exact HB.out | apply below_alloc | apply pw_below_drewN | apply below_drew1) | exact HB.out)⟩⟩
      ·rw [if_neg c5] at H
       have c5b0 : decide (((rd_T44 l0 x3_1).f0) < 1) = false := decide_eq_false c5
       clear c5
       by_cases c7 : x3_1 > 0
       ·rw [if_pos c7] at H
        have c7b0 : decide (0 < x3_1) = true := decide_eq_true c7
        clear c7
        obtain ⟨ji8, hji8⟩ : ∃ j_ : Int, (wrap64 (x3_1 - 1)) = j_ := ⟨_, rfl⟩
        replace H : (if 0 ≤ (ji8) then (if (ji8) < (l0.length : Int) then (if ((rd_T44 l0 x3_1).f0) ≤ ((rd_T44 l0 (ji8)).f0) then (cohousingref28_Valid.j1 k1 l0 x3_1 true) else ((cohousingref28_Volume.f ((rd_T44 l0 x3_1).f2)).bind fun t173 => (cohousingref28_Valid.j1 k1 l0 x3_1 (!t173)))) else (none)) else (none)) = some r := by first | (rw [hji8] at H; exact H) | (simp only [hji8] at H ⊢; exact H)
        have hji8w : (IntKind.i64.wrap (x3_1 - 1)) = ji8 := (i64_w _).trans hji8
        by_cases c9 : 0 ≤ (ji8)
        ·rw [if_pos c9] at H
         have c9b0 : decide (0 ≤ (ji8)) = true := decide_eq_true c9
         clear c9
         by_cases c10 : (ji8) < (l0.length : Int)
         ·rw [if_pos c10] at H
          have c10b0 : decide ((ji8) < (l0.length : Int)) = true := decide_eq_true c10
          clear c10
          by_cases c11 : ((rd_T44 l0 x3_1).f0) ≤ ((rd_T44 l0 (ji8)).f0)
          ·rw [if_pos c11] at H
           have c11b0 : decide (((rd_T44 l0 x3_1).f0) ≤ ((rd_T44 l0 (ji8)).f0)) = true := decide_eq_true c11
           clear c11
           have H' := Aside0.mk H
           clear H
           try go_wp2
           have n0_ := Aside0.mk (below_drew1 HB.out)
           clear HB
           have HB := n0_
           clear n0_
           have p169 : 0 ≤ (x3_1 : Int) := od_
           have q169 : x3_1 < (l0.length : Int) := od_
           obtain ⟨ad169, e169, hx169_0, hx169_1, hx169_2⟩ := at_T44 HR0.out x3_1 p169 q169
           have hw169_2 := hx169_2
           have hw169_1 := hx169_1
           have hw169_0 := hx169_0
           cases e169
           replace hx169_0 := (HB.out.cell (World.block_lt_of_cell? w _ hx169_0)).trans hx169_0
           replace hx169_1 := (HB.out.cell (World.block_lt_of_cell? w _ hx169_1)).trans hx169_1
           replace hx169_2 := (HB.out.cell (World.block_lt_of_cell? w _ hx169_2)).trans hx169_2
           replace p169 := eq_true p169
           replace q169 := eq_true q169
           have p170 : 0 ≤ (x3_1 : Int) := od_
           have q170 : x3_1 < (l0.length : Int) := od_
           obtain ⟨ad170, e170, hx170_0, hx170_1, hx170_2⟩ := at_T44 HR0.out x3_1 p170 q170
           have hw170_2 := hx170_2
           have hw170_1 := hx170_1
           have hw170_0 := hx170_0
           obtain rfl : ad169 = ad170 := (by injection e170)
           replace hx170_0 := (HB.out.cell (World.block_lt_of_cell? w _ hx170_0)).trans hx170_0
           replace hx170_1 := (HB.out.cell (World.block_lt_of_cell? w _ hx170_1)).trans hx170_1
           replace hx170_2 := (HB.out.cell (World.block_lt_of_cell? w _ hx170_2)).trans hx170_2
           replace p170 := eq_true p170
           replace q170 := eq_true q170
           have p171 : 0 ≤ ((ji8) : Int) := od_
           have q171 : (ji8) < (l0.length : Int) := od_
           obtain ⟨ad171, e171, hx171_0, hx171_1, hx171_2⟩ := at_T44 HR0.out (ji8) p171 q171
           have hw171_2 := hx171_2
           have hw171_1 := hx171_1
           have hw171_0 := hx171_0
           obtain rfl : ad169 = ad171 := (by injection e171)
           replace hx171_0 := (HB.out.cell (World.block_lt_of_cell? w _ hx171_0)).trans hx171_0
           replace hx171_1 := (HB.out.cell (World.block_lt_of_cell? w _ hx171_1)).trans hx171_1
           replace hx171_2 := (HB.out.cell (World.block_lt_of_cell? w _ hx171_2)).trans hx171_2
           replace p171 := eq_true p171
           replace q171 := eq_true q171
           refine start_ (n := 33) (S := fun w' => w'.cell? (ad169.add ((x3_1).toNat * 3)) = some (.int .i64 ((rd_T44 l0 x3_1).f0)) ∧ w'.cell? ⟨(ad169.add ((x3_1).toNat * 3)).block, (ad169.add ((x3_1).toNat * 3)).off + 1, none⟩ = some (.int .i64 ((rd_T44 l0 x3_1).f1)) ∧ w'.cell? ⟨(ad169.add ((x3_1).toNat * 3)).block, (ad169.add ((x3_1).toNat * 3)).off + 2, none⟩ = some (.int .i64 ((rd_T44 l0 x3_1).f2)) ∧ w'.cell? (ad169.add ((x3_1).toNat * 3)) = some (.int .i64 ((rd_T44 l0 x3_1).f0)) ∧ w'.cell? ⟨(ad169.add ((x3_1).toNat * 3)).block, (ad169.add ((x3_1).toNat * 3)).off + 1, none⟩ = some (.int .i64 ((rd_T44 l0 x3_1).f1)) ∧ w'.cell? ⟨(ad169.add ((x3_1).toNat * 3)).block, (ad169.add ((x3_1).toNat * 3)).off + 2, none⟩ = some (.int .i64 ((rd_T44 l0 x3_1).f2)) ∧ w'.cell? (ad169.add (((ji8)).toNat * 3)) = some (.int .i64 ((rd_T44 l0 (ji8)).f0)) ∧ w'.cell? ⟨(ad169.add (((ji8)).toNat * 3)).block, (ad169.add (((ji8)).toNat * 3)).off + 1, none⟩ = some (.int .i64 ((rd_T44 l0 (ji8)).f1)) ∧ w'.cell? ⟨(ad169.add (((ji8)).toNat * 3)).block, (ad169.add (((ji8)).toNat * 3)).off + 2, none⟩ = some (.int .i64 ((rd_T44 l0 (ji8)).f2))) (ds := []) #[n_, n_, n_, n_, n_, n_, n_, n_, n_, n_, n_, n_, n_, n_, n_, n_, n_, n_, n_, n_, n_, n_, n_, n_, n_, n_, n_, n_, n_, n_, n_, n_, n_] (by kernel_rfl) rfl rfl ⟨((HB.out.cell (World.block_lt_of_cell? w _ hw169_0)).trans hw169_0), ((HB.out.cell (World.block_lt_of_cell? w _ hw169_1)).trans hw169_1), ((HB.out.cell (World.block_lt_of_cell? w _ hw169_2)).trans hw169_2), ((HB.out.cell (World.block_lt_of_cell? w _ hw170_0)).trans hw170_0), ((HB.out.cell (World.block_lt_of_cell? w _ hw170_1)).trans hw170_1), ((HB.out.cell (World.block_lt_of_cell? w _ hw170_2)).trans hw170_2), ((HB.out.cell (World.block_lt_of_cell? w _ hw171_0)).trans hw171_0), ((HB.out.cell (World.block_lt_of_cell? w _ hw171_1)).trans hw171_1), ((HB.out.cell (World.block_lt_of_cell? w _ hw171_2)).trans hw171_2)⟩ (fun hHeld => ?_); refine with_tabW cohousingref28_Valid.tab4 cohousingref28_Valid.bits4 (fun HT_ HW_ => ?_)
           generalize wr.drew = w12 at HB hx169_0 hx169_1 hx169_2 hx170_0 hx170_1 hx170_2 hx171_0 hx171_1 hx171_2 hHeld ⊢
           refine pu_ 0 10 (w_ 33 1) rfl HT_ ?_
           refine pu_ 1 11 (w_ 33 3) rfl HT_ ?_
           refine pu_ 2 12 (w_ 33 7) rfl HT_ ?_
           refine pu_ 3 13 (w_ 33 15) rfl HT_ ?_
           refine ta_ 4 14 (w_ 33 31) rfl HT_ HW_ hHeld (by rintro w' ⟨s0, s1, s2, s3, s4, s5, s6, s7, s8⟩; go_simp; with_reducible rfl) ?_
           refine pu_ 5 15 (w_ 33 63) rfl HT_ ?_
           refine pu_ 6 16 (w_ 33 127) rfl HT_ ?_
           refine pu_ 7 17 (w_ 33 255) rfl HT_ ?_
           refine pu_ 8 18 (w_ 33 511) rfl HT_ ?_
           refine pu_ 9 19 (w_ 33 1023) rfl HT_ ?_
           refine pu_ 10 20 (w_ 33 2047) rfl HT_ ?_
           refine pu_ 11 21 (w_ 33 4095) rfl HT_ ?_
           refine pu_ 12 22 (w_ 33 8191) rfl HT_ ?_
           refine pu_ 13 23 (w_ 33 16383) rfl HT_ ?_
           refine pu_ 15 25 (w_ 33 49151) rfl HT_ ?_
           refine pu_ 16 26 (w_ 33 114687) rfl HT_ ?_
           refine pu_ 17 27 (w_ 33 245759) rfl HT_ ?_
           refine pu_ 18 28 (w_ 33 507903) rfl HT_ ?_
           refine pu_ 19 29 (w_ 33 1032191) rfl HT_ ?_
           refine ta_ 14 24 (w_ 33 1048575) rfl HT_ HW_ hHeld (by rintro w' ⟨s0, s1, s2, s3, s4, s5, s6, s7, s8⟩; go_simp; with_reducible rfl) ?_
           refine ta_ 20 30 (w_ 33 2097151) rfl HT_ HW_ hHeld (by rintro w' ⟨s0, s1, s2, s3, s4, s5, s6, s7, s8⟩; go_simp; with_reducible rfl) ?_
           refine pu_ 21 31 (w_ 33 4194303) rfl HT_ ?_
           refine pu_ 22 32 (w_ 33 8388607) rfl HT_ ?_
           refine pu_ 23 33 (w_ 33 16777215) rfl HT_ ?_
           refine pu_ 24 34 (w_ 33 33554431) rfl HT_ ?_
           refine pn_ 25 35 (w_ 33 67108863) rfl HT_ ?_
           refine pn_ 26 36 (w_ 33 134217727) rfl HT_ ?_
           refine pn_ 27 37 (w_ 33 268435455) rfl HT_ ?_
           refine pn_ 28 38 (w_ 33 536870911) rfl HT_ ?_
           refine pn_ 29 39 (w_ 33 1073741823) rfl HT_ ?_
           refine pn_ 30 40 (w_ 33 2147483647) rfl HT_ ?_
           refine pn_ 31 41 (w_ 33 4294967295) rfl HT_ ?_
           refine pu_ 32 42 (w_ 33 8589934591) rfl HT_ ?_
           refine done_ (done_of HT_.out (by kernel_rfl)) ?_
           try go_wp2
           go_meet
           case rel => exact ⟨_, (true), sd_, H', ⟨by have := HK1.out; first | omega | exact Nat.le_refl _⟩, ⟨by repeat (first | (with_reducible first | exact HB.out | apply below_alloc | apply pw_below_drewN | apply below_drew1) | exact HB.out)⟩⟩
          ·rw [if_neg c11] at H
           have c11b0 : decide (((rd_T44 l0 x3_1).f0) ≤ ((rd_T44 l0 (ji8)).f0)) = false := decide_eq_false c11
           clear c11
           replace H := Option.bind_eq_some_iff.mp H
           obtain ⟨t173, A130, H⟩ := H
           replace H : (cohousingref28_Valid.j1 k1 l0 x3_1 (!t173)) = some r := H
           have A13 := Aside0.mk A130
           clear A130
           have H' := Aside0.mk H
           clear H
           try go_wp2
           have n0_ := Aside0.mk (below_drew1 HB.out)
           clear HB
           have HB := n0_
           clear n0_
           have p169 : 0 ≤ (x3_1 : Int) := od_
           have q169 : x3_1 < (l0.length : Int) := od_
           obtain ⟨ad169, e169, hx169_0, hx169_1, hx169_2⟩ := at_T44 HR0.out x3_1 p169 q169
           have hw169_2 := hx169_2
           have hw169_1 := hx169_1
           have hw169_0 := hx169_0
           cases e169
           replace hx169_0 := (HB.out.cell (World.block_lt_of_cell? w _ hx169_0)).trans hx169_0
           replace hx169_1 := (HB.out.cell (World.block_lt_of_cell? w _ hx169_1)).trans hx169_1
           replace hx169_2 := (HB.out.cell (World.block_lt_of_cell? w _ hx169_2)).trans hx169_2
           replace p169 := eq_true p169
           replace q169 := eq_true q169
           have p170 : 0 ≤ (x3_1 : Int) := od_
           have q170 : x3_1 < (l0.length : Int) := od_
           obtain ⟨ad170, e170, hx170_0, hx170_1, hx170_2⟩ := at_T44 HR0.out x3_1 p170 q170
           have hw170_2 := hx170_2
           have hw170_1 := hx170_1
           have hw170_0 := hx170_0
           obtain rfl : ad169 = ad170 := (by injection e170)
           replace hx170_0 := (HB.out.cell (World.block_lt_of_cell? w _ hx170_0)).trans hx170_0
           replace hx170_1 := (HB.out.cell (World.block_lt_of_cell? w _ hx170_1)).trans hx170_1
           replace hx170_2 := (HB.out.cell (World.block_lt_of_cell? w _ hx170_2)).trans hx170_2
           replace p170 := eq_true p170
           replace q170 := eq_true q170
           have p171 : 0 ≤ ((ji8) : Int) := od_
           have q171 : (ji8) < (l0.length : Int) := od_
           obtain ⟨ad171, e171, hx171_0, hx171_1, hx171_2⟩ := at_T44 HR0.out (ji8) p171 q171
           have hw171_2 := hx171_2
           have hw171_1 := hx171_1
           have hw171_0 := hx171_0
           obtain rfl : ad169 = ad171 := (by injection e171)
           replace hx171_0 := (HB.out.cell (World.block_lt_of_cell? w _ hx171_0)).trans hx171_0
           replace hx171_1 := (HB.out.cell (World.block_lt_of_cell? w _ hx171_1)).trans hx171_1
           replace hx171_2 := (HB.out.cell (World.block_lt_of_cell? w _ hx171_2)).trans hx171_2
           replace p171 := eq_true p171
           replace q171 := eq_true q171
           have p172 : 0 ≤ (x3_1 : Int) := od_
           have q172 : x3_1 < (l0.length : Int) := od_
           obtain ⟨ad172, e172, hx172_0, hx172_1, hx172_2⟩ := at_T44 HR0.out x3_1 p172 q172
           have hw172_2 := hx172_2
           have hw172_1 := hx172_1
           have hw172_0 := hx172_0
           obtain rfl : ad169 = ad172 := (by injection e172)
           replace hx172_0 := (HB.out.cell (World.block_lt_of_cell? w _ hx172_0)).trans hx172_0
           replace hx172_1 := (HB.out.cell (World.block_lt_of_cell? w _ hx172_1)).trans hx172_1
           replace hx172_2 := (HB.out.cell (World.block_lt_of_cell? w _ hx172_2)).trans hx172_2
           replace p172 := eq_true p172
           replace q172 := eq_true q172
           refine start_ (n := 33) (S := fun w' => w'.cell? (ad169.add ((x3_1).toNat * 3)) = some (.int .i64 ((rd_T44 l0 x3_1).f0)) ∧ w'.cell? ⟨(ad169.add ((x3_1).toNat * 3)).block, (ad169.add ((x3_1).toNat * 3)).off + 1, none⟩ = some (.int .i64 ((rd_T44 l0 x3_1).f1)) ∧ w'.cell? ⟨(ad169.add ((x3_1).toNat * 3)).block, (ad169.add ((x3_1).toNat * 3)).off + 2, none⟩ = some (.int .i64 ((rd_T44 l0 x3_1).f2)) ∧ w'.cell? (ad169.add ((x3_1).toNat * 3)) = some (.int .i64 ((rd_T44 l0 x3_1).f0)) ∧ w'.cell? ⟨(ad169.add ((x3_1).toNat * 3)).block, (ad169.add ((x3_1).toNat * 3)).off + 1, none⟩ = some (.int .i64 ((rd_T44 l0 x3_1).f1)) ∧ w'.cell? ⟨(ad169.add ((x3_1).toNat * 3)).block, (ad169.add ((x3_1).toNat * 3)).off + 2, none⟩ = some (.int .i64 ((rd_T44 l0 x3_1).f2)) ∧ w'.cell? (ad169.add (((ji8)).toNat * 3)) = some (.int .i64 ((rd_T44 l0 (ji8)).f0)) ∧ w'.cell? ⟨(ad169.add (((ji8)).toNat * 3)).block, (ad169.add (((ji8)).toNat * 3)).off + 1, none⟩ = some (.int .i64 ((rd_T44 l0 (ji8)).f1)) ∧ w'.cell? ⟨(ad169.add (((ji8)).toNat * 3)).block, (ad169.add (((ji8)).toNat * 3)).off + 2, none⟩ = some (.int .i64 ((rd_T44 l0 (ji8)).f2)) ∧ w'.cell? (ad169.add ((x3_1).toNat * 3)) = some (.int .i64 ((rd_T44 l0 x3_1).f0)) ∧ w'.cell? ⟨(ad169.add ((x3_1).toNat * 3)).block, (ad169.add ((x3_1).toNat * 3)).off + 1, none⟩ = some (.int .i64 ((rd_T44 l0 x3_1).f1)) ∧ w'.cell? ⟨(ad169.add ((x3_1).toNat * 3)).block, (ad169.add ((x3_1).toNat * 3)).off + 2, none⟩ = some (.int .i64 ((rd_T44 l0 x3_1).f2))) (ds := []) #[n_, n_, n_, n_, n_, n_, n_, n_, n_, n_, n_, n_, n_, n_, n_, n_, n_, n_, n_, n_, n_, n_, n_, n_, n_, n_, n_, n_, n_, n_, n_, n_, n_] (by kernel_rfl) rfl rfl ⟨((HB.out.cell (World.block_lt_of_cell? w _ hw169_0)).trans hw169_0), ((HB.out.cell (World.block_lt_of_cell? w _ hw169_1)).trans hw169_1), ((HB.out.cell (World.block_lt_of_cell? w _ hw169_2)).trans hw169_2), ((HB.out.cell (World.block_lt_of_cell? w _ hw170_0)).trans hw170_0), ((HB.out.cell (World.block_lt_of_cell? w _ hw170_1)).trans hw170_1), ((HB.out.cell (World.block_lt_of_cell? w _ hw170_2)).trans hw170_2), ((HB.out.cell (World.block_lt_of_cell? w _ hw171_0)).trans hw171_0), ((HB.out.cell (World.block_lt_of_cell? w _ hw171_1)).trans hw171_1), ((HB.out.cell (World.block_lt_of_cell? w _ hw171_2)).trans hw171_2), ((HB.out.cell (World.block_lt_of_cell? w _ hw172_0)).trans hw172_0), ((HB.out.cell (World.block_lt_of_cell? w _ hw172_1)).trans hw172_1), ((HB.out.cell (World.block_lt_of_cell? w _ hw172_2)).trans hw172_2)⟩ (fun hHeld => ?_); refine with_tabW cohousingref28_Valid.tab4 cohousingref28_Valid.bits4 (fun HT_ HW_ => ?_)
           generalize wr.drew = w14 at HB hx169_0 hx169_1 hx169_2 hx170_0 hx170_1 hx170_2 hx171_0 hx171_1 hx171_2 hx172_0 hx172_1 hx172_2 hHeld ⊢
           refine pu_ 0 10 (w_ 33 1) rfl HT_ ?_
           refine pu_ 1 11 (w_ 33 3) rfl HT_ ?_
           refine pu_ 2 12 (w_ 33 7) rfl HT_ ?_
           refine pu_ 3 13 (w_ 33 15) rfl HT_ ?_
           refine ta_ 4 14 (w_ 33 31) rfl HT_ HW_ hHeld (by rintro w' ⟨s0, s1, s2, s3, s4, s5, s6, s7, s8, s9, s10, s11⟩; go_simp; with_reducible rfl) ?_
           refine pu_ 5 15 (w_ 33 63) rfl HT_ ?_
           refine pu_ 6 16 (w_ 33 127) rfl HT_ ?_
           refine pu_ 7 17 (w_ 33 255) rfl HT_ ?_
           refine pu_ 8 18 (w_ 33 511) rfl HT_ ?_
           refine pu_ 9 19 (w_ 33 1023) rfl HT_ ?_
           refine pu_ 10 20 (w_ 33 2047) rfl HT_ ?_
           refine pu_ 11 21 (w_ 33 4095) rfl HT_ ?_
           refine pu_ 12 22 (w_ 33 8191) rfl HT_ ?_
           refine pu_ 13 23 (w_ 33 16383) rfl HT_ ?_
           refine pu_ 15 25 (w_ 33 49151) rfl HT_ ?_
           refine pu_ 16 26 (w_ 33 114687) rfl HT_ ?_
           refine pu_ 17 27 (w_ 33 245759) rfl HT_ ?_
           refine pu_ 18 28 (w_ 33 507903) rfl HT_ ?_
           refine pu_ 19 29 (w_ 33 1032191) rfl HT_ ?_
           refine ta_ 14 24 (w_ 33 1048575) rfl HT_ HW_ hHeld (by rintro w' ⟨s0, s1, s2, s3, s4, s5, s6, s7, s8, s9, s10, s11⟩; go_simp; with_reducible rfl) ?_
           refine ta_ 20 30 (w_ 33 2097151) rfl HT_ HW_ hHeld (by rintro w' ⟨s0, s1, s2, s3, s4, s5, s6, s7, s8, s9, s10, s11⟩; go_simp; with_reducible rfl) ?_
           refine pu_ 21 31 (w_ 33 4194303) rfl HT_ ?_
           refine pu_ 22 32 (w_ 33 8388607) rfl HT_ ?_
           refine pu_ 23 33 (w_ 33 16777215) rfl HT_ ?_
           refine pu_ 24 34 (w_ 33 33554431) rfl HT_ ?_
           refine pu_ 25 35 (w_ 33 67108863) rfl HT_ ?_
           refine pu_ 26 36 (w_ 33 134217727) rfl HT_ ?_
           refine pu_ 27 37 (w_ 33 268435455) rfl HT_ ?_
           refine pu_ 28 38 (w_ 33 536870911) rfl HT_ ?_
           refine ta_ 29 39 (w_ 33 1073741823) rfl HT_ HW_ hHeld (by rintro w' ⟨s0, s1, s2, s3, s4, s5, s6, s7, s8, s9, s10, s11⟩; go_simp; with_reducible rfl) ?_
           refine one_ (i := 30) (N := some 40) (w_ 33 2147483647) rfl rfl (one_of HT_.out (by kernel_rfl)) (by decide) (fun K hK => ?_)
           refine goes_ Try.func40 (by kernel_rfl) rfl #[.int .i64 ((rd_T44 l0 x3_1).f2)] (by rfl) rfl rfl (by (try simp only [List.map_toArray, List.map_cons, List.map_nil]); first | done | rfl | (simp only [List.length_drop, List.length_take]; rfl)) ?_
           with_reducible refine (cohousingref28_Volume.calls ((rd_T44 l0 x3_1).f2) t173 _ A13.out).mono ?_
           rintro e w' ⟨rfl, ⟨nd, rfl⟩⟩
           refine ⟨_, rfl, ?_⟩
           refine hK.out _ _ ⟨((HB.out.cell (World.block_lt_of_cell? w _ hw169_0)).trans hw169_0), ((HB.out.cell (World.block_lt_of_cell? w _ hw169_1)).trans hw169_1), ((HB.out.cell (World.block_lt_of_cell? w _ hw169_2)).trans hw169_2), ((HB.out.cell (World.block_lt_of_cell? w _ hw170_0)).trans hw170_0), ((HB.out.cell (World.block_lt_of_cell? w _ hw170_1)).trans hw170_1), ((HB.out.cell (World.block_lt_of_cell? w _ hw170_2)).trans hw170_2), ((HB.out.cell (World.block_lt_of_cell? w _ hw171_0)).trans hw171_0), ((HB.out.cell (World.block_lt_of_cell? w _ hw171_1)).trans hw171_1), ((HB.out.cell (World.block_lt_of_cell? w _ hw171_2)).trans hw171_2), ((HB.out.cell (World.block_lt_of_cell? w _ hw172_0)).trans hw172_0), ((HB.out.cell (World.block_lt_of_cell? w _ hw172_1)).trans hw172_1), ((HB.out.cell (World.block_lt_of_cell? w _ hw172_2)).trans hw172_2)⟩ (fun hHeld => ?_)
           clear hK K
           refine norm_ (a' := ?_) ?_ ?_
           rotate_left
           ·show Act.put _ (some 40) _ = _
            simp only [Act.put, sI_, s0_, sS_, i64_w, i32_w]
            rfl
           refine pu_ 31 41 (w_ 33 4294967295) rfl HT_ ?_
           refine pu_ 32 42 (w_ 33 8589934591) rfl HT_ ?_
           refine done_ (done_of HT_.out (by kernel_rfl)) ?_
           try go_wp2
           go_meet
           case rel => exact ⟨_, (!t173), sd_, H', ⟨by have := HK1.out; first | omega | exact Nat.le_refl _⟩, ⟨by repeat (first | (with_reducible first | exact HB.out | apply below_alloc | apply pw_below_drewN | apply below_drew1) | exact HB.out)⟩⟩
         ·rw [if_neg c10] at H
          exact absurd H (by simp)
        ·rw [if_neg c9] at H
         exact absurd H (by simp)
       ·rw [if_neg c7] at H
        have c7b0 : decide (0 < x3_1) = false := decide_eq_false c7
        clear c7
        replace H := Option.bind_eq_some_iff.mp H
        obtain ⟨t175, A150, H⟩ := H
        replace H : (cohousingref28_Valid.j1 k1 l0 x3_1 (!t175)) = some r := H
        have A15 := Aside0.mk A150
        clear A150
        have H' := Aside0.mk H
        clear H
        try go_wp2
        have n0_ := Aside0.mk (below_drew1 HB.out)
        clear HB
        have HB := n0_
        clear n0_
        have p169 : 0 ≤ (x3_1 : Int) := od_
        have q169 : x3_1 < (l0.length : Int) := od_
        obtain ⟨ad169, e169, hx169_0, hx169_1, hx169_2⟩ := at_T44 HR0.out x3_1 p169 q169
        have hw169_2 := hx169_2
        have hw169_1 := hx169_1
        have hw169_0 := hx169_0
        cases e169
        replace hx169_0 := (HB.out.cell (World.block_lt_of_cell? w _ hx169_0)).trans hx169_0
        replace hx169_1 := (HB.out.cell (World.block_lt_of_cell? w _ hx169_1)).trans hx169_1
        replace hx169_2 := (HB.out.cell (World.block_lt_of_cell? w _ hx169_2)).trans hx169_2
        replace p169 := eq_true p169
        replace q169 := eq_true q169
        have p174 : 0 ≤ (x3_1 : Int) := od_
        have q174 : x3_1 < (l0.length : Int) := od_
        obtain ⟨ad174, e174, hx174_0, hx174_1, hx174_2⟩ := at_T44 HR0.out x3_1 p174 q174
        have hw174_2 := hx174_2
        have hw174_1 := hx174_1
        have hw174_0 := hx174_0
        obtain rfl : ad169 = ad174 := (by injection e174)
        replace hx174_0 := (HB.out.cell (World.block_lt_of_cell? w _ hx174_0)).trans hx174_0
        replace hx174_1 := (HB.out.cell (World.block_lt_of_cell? w _ hx174_1)).trans hx174_1
        replace hx174_2 := (HB.out.cell (World.block_lt_of_cell? w _ hx174_2)).trans hx174_2
        replace p174 := eq_true p174
        replace q174 := eq_true q174
        refine start_ (n := 33) (S := fun w' => w'.cell? (ad169.add ((x3_1).toNat * 3)) = some (.int .i64 ((rd_T44 l0 x3_1).f0)) ∧ w'.cell? ⟨(ad169.add ((x3_1).toNat * 3)).block, (ad169.add ((x3_1).toNat * 3)).off + 1, none⟩ = some (.int .i64 ((rd_T44 l0 x3_1).f1)) ∧ w'.cell? ⟨(ad169.add ((x3_1).toNat * 3)).block, (ad169.add ((x3_1).toNat * 3)).off + 2, none⟩ = some (.int .i64 ((rd_T44 l0 x3_1).f2)) ∧ w'.cell? (ad169.add ((x3_1).toNat * 3)) = some (.int .i64 ((rd_T44 l0 x3_1).f0)) ∧ w'.cell? ⟨(ad169.add ((x3_1).toNat * 3)).block, (ad169.add ((x3_1).toNat * 3)).off + 1, none⟩ = some (.int .i64 ((rd_T44 l0 x3_1).f1)) ∧ w'.cell? ⟨(ad169.add ((x3_1).toNat * 3)).block, (ad169.add ((x3_1).toNat * 3)).off + 2, none⟩ = some (.int .i64 ((rd_T44 l0 x3_1).f2))) (ds := []) #[n_, n_, n_, n_, n_, n_, n_, n_, n_, n_, n_, n_, n_, n_, n_, n_, n_, n_, n_, n_, n_, n_, n_, n_, n_, n_, n_, n_, n_, n_, n_, n_, n_] (by kernel_rfl) rfl rfl ⟨((HB.out.cell (World.block_lt_of_cell? w _ hw169_0)).trans hw169_0), ((HB.out.cell (World.block_lt_of_cell? w _ hw169_1)).trans hw169_1), ((HB.out.cell (World.block_lt_of_cell? w _ hw169_2)).trans hw169_2), ((HB.out.cell (World.block_lt_of_cell? w _ hw174_0)).trans hw174_0), ((HB.out.cell (World.block_lt_of_cell? w _ hw174_1)).trans hw174_1), ((HB.out.cell (World.block_lt_of_cell? w _ hw174_2)).trans hw174_2)⟩ (fun hHeld => ?_); refine with_tabW cohousingref28_Valid.tab4 cohousingref28_Valid.bits4 (fun HT_ HW_ => ?_)
        generalize wr.drew = w16 at HB hx169_0 hx169_1 hx169_2 hx174_0 hx174_1 hx174_2 hHeld ⊢
        refine pu_ 0 10 (w_ 33 1) rfl HT_ ?_
        refine pu_ 1 11 (w_ 33 3) rfl HT_ ?_
        refine pu_ 2 12 (w_ 33 7) rfl HT_ ?_
        refine pu_ 3 13 (w_ 33 15) rfl HT_ ?_
        refine ta_ 4 14 (w_ 33 31) rfl HT_ HW_ hHeld (by rintro w' ⟨s0, s1, s2, s3, s4, s5⟩; go_simp; with_reducible rfl) ?_
        refine pu_ 5 15 (w_ 33 63) rfl HT_ ?_
        refine pu_ 6 16 (w_ 33 127) rfl HT_ ?_
        refine pu_ 7 17 (w_ 33 255) rfl HT_ ?_
        refine pu_ 8 18 (w_ 33 511) rfl HT_ ?_
        refine pu_ 9 19 (w_ 33 1023) rfl HT_ ?_
        refine pn_ 10 20 (w_ 33 2047) rfl HT_ ?_
        refine pn_ 11 21 (w_ 33 4095) rfl HT_ ?_
        refine pn_ 12 22 (w_ 33 8191) rfl HT_ ?_
        refine pn_ 13 23 (w_ 33 16383) rfl HT_ ?_
        refine pn_ 14 24 (w_ 33 32767) rfl HT_ ?_
        refine pn_ 15 25 (w_ 33 65535) rfl HT_ ?_
        refine pn_ 16 26 (w_ 33 131071) rfl HT_ ?_
        refine pn_ 17 27 (w_ 33 262143) rfl HT_ ?_
        refine pn_ 18 28 (w_ 33 524287) rfl HT_ ?_
        refine pn_ 19 29 (w_ 33 1048575) rfl HT_ ?_
        refine pn_ 20 30 (w_ 33 2097151) rfl HT_ ?_
        refine pn_ 21 31 (w_ 33 4194303) rfl HT_ ?_
        refine pu_ 22 32 (w_ 33 8388607) rfl HT_ ?_
        refine pu_ 23 33 (w_ 33 16777215) rfl HT_ ?_
        refine pu_ 24 34 (w_ 33 33554431) rfl HT_ ?_
        refine pu_ 25 35 (w_ 33 67108863) rfl HT_ ?_
        refine pu_ 26 36 (w_ 33 134217727) rfl HT_ ?_
        refine pu_ 27 37 (w_ 33 268435455) rfl HT_ ?_
        refine pu_ 28 38 (w_ 33 536870911) rfl HT_ ?_
        refine ta_ 29 39 (w_ 33 1073741823) rfl HT_ HW_ hHeld (by rintro w' ⟨s0, s1, s2, s3, s4, s5⟩; go_simp; with_reducible rfl) ?_
        refine one_ (i := 30) (N := some 40) (w_ 33 2147483647) rfl rfl (one_of HT_.out (by kernel_rfl)) (by decide) (fun K hK => ?_)
        refine goes_ Try.func40 (by kernel_rfl) rfl #[.int .i64 ((rd_T44 l0 x3_1).f2)] (by rfl) rfl rfl (by (try simp only [List.map_toArray, List.map_cons, List.map_nil]); first | done | rfl | (simp only [List.length_drop, List.length_take]; rfl)) ?_
        with_reducible refine (cohousingref28_Volume.calls ((rd_T44 l0 x3_1).f2) t175 _ A15.out).mono ?_
        rintro e w' ⟨rfl, ⟨nd, rfl⟩⟩
        refine ⟨_, rfl, ?_⟩
        refine hK.out _ _ ⟨((HB.out.cell (World.block_lt_of_cell? w _ hw169_0)).trans hw169_0), ((HB.out.cell (World.block_lt_of_cell? w _ hw169_1)).trans hw169_1), ((HB.out.cell (World.block_lt_of_cell? w _ hw169_2)).trans hw169_2), ((HB.out.cell (World.block_lt_of_cell? w _ hw174_0)).trans hw174_0), ((HB.out.cell (World.block_lt_of_cell? w _ hw174_1)).trans hw174_1), ((HB.out.cell (World.block_lt_of_cell? w _ hw174_2)).trans hw174_2)⟩ (fun hHeld => ?_)
        clear hK K
        refine norm_ (a' := ?_) ?_ ?_
        rotate_left
        ·show Act.put _ (some 40) _ = _
         simp only [Act.put, sI_, s0_, sS_, i64_w, i32_w]
         rfl
        refine pu_ 31 41 (w_ 33 4294967295) rfl HT_ ?_
        refine pu_ 32 42 (w_ 33 8589934591) rfl HT_ ?_
        refine done_ (done_of HT_.out (by kernel_rfl)) ?_
        try go_wp2
        go_meet
        case rel => exact ⟨_, (!t175), sd_, H', ⟨by have := HK1.out; first | omega | exact Nat.le_refl _⟩, ⟨by repeat (first | (with_reducible first | exact HB.out | apply below_alloc | apply pw_below_drewN | apply below_drew1) | exact HB.out)⟩⟩
     ·rw [if_neg c4] at H
      exact absurd H (by simp)
    case rest =>
     clear HC3
     try clear c1
     try clear p1
     try clear q1
     try clear hx1
     try clear p2
     try clear c4
     try clear c7
     try clear c7b0
     try clear c9
     try clear c10
     try clear p16
     try clear q16
     try clear hx16
     try clear hx169_0
     try clear hx169_1
     try clear hx169_2
     try clear hx170_0
     try clear hx170_1
     try clear hx170_2
     try clear hx171_0
     try clear hx171_1
     try clear hx171_2
     try clear hx172_0
     try clear hx172_1
     try clear hx172_2
     try clear hx174_0
     try clear hx174_1
     try clear hx174_2
     try clear p169
     try clear p170
     try clear p171
     try clear p172
     try clear p174
     try clear q169
     try clear q170
     try clear q171
     try clear q172
     try clear q174
     obtain ⟨kq, x42_2, rfl, HA, HJ2, HB⟩ := hcut
     cases kq with
     | zero => exact absurd HA.out (by simp [cohousingref28_Valid.j1])
     | succ kj2 =>
      have H := HA.out
      clear HA
      simp only [cohousingref28_Valid.j1] at H
      by_cases c17 : x42_2 = true
      ·subst c17
       have H1 : (some false) = some r := by rw [if_pos rfl] at H; exact H
       clear H
       have H := H1
       clear H1
       obtain rfl := Option.some.inj H
       go_wp2
       go_ret
       exact ⟨ew_, by repeat (first | (with_reducible first | exact HB.out | apply below_alloc | apply pw_below_drewN | apply below_drew1) | exact HB.out)⟩
      ·replace c17 := Bool.eq_false_iff.mpr c17
       subst c17
       have H1 : (if 0 ≤ x3_1 then (if x3_1 < (l0.length : Int) then (if ((rd_T44 l0 x3_1).f1) = 0 then (cohousingref28_Valid.l0 kj2 l0 (wrap64 (x3_1 + 1))) else (if x3_1 ≤ (l0.length : Int) then ((cohousingref28_At.f kj2 (l0.take (x3_1 : Int).toNat) ((rd_T44 l0 x3_1).f1)).bind fun t182 => (if t182 < 0 then (some false) else (cohousingref28_Valid.l0 kj2 l0 (wrap64 (x3_1 + 1))))) else (none))) else (none)) else (none)) = some r := by rw [if_neg (show ¬ (false = true) by decide)] at H; exact H
       clear H
       have H := H1
       clear H1
       by_cases c18 : 0 ≤ x3_1
       ·rw [if_pos c18] at H
        have c18b0 : decide (0 ≤ x3_1) = true := decide_eq_true c18
        clear c18
        by_cases c19 : x3_1 < (l0.length : Int)
        ·rw [if_pos c19] at H
         have c19b0 : decide (x3_1 < (l0.length : Int)) = true := decide_eq_true c19
         clear c19
         by_cases c20 : ((rd_T44 l0 x3_1).f1) = 0
         ·rw [if_pos c20] at H
          have c20b0 : (((rd_T44 l0 x3_1).f1) == 0) = true := beq_iff_eq.mpr c20
          have c20b1 : (((rd_T44 l0 x3_1).f1) != 0) = false := bne_eq_false_iff_eq.mpr c20
          clear c20
          have H' := Aside0.mk H
          clear H
          try go_wp2
          have n0_ := Aside0.mk (below_drew1 HB.out)
          clear HB
          have HB := n0_
          clear n0_
          have p176 : 0 ≤ (x3_1 : Int) := od_
          have q176 : x3_1 < (l0.length : Int) := od_
          obtain ⟨ad176, e176, hx176_0, hx176_1, hx176_2⟩ := at_T44 HR0.out x3_1 p176 q176
          have hw176_2 := hx176_2
          have hw176_1 := hx176_1
          have hw176_0 := hx176_0
          cases e176
          replace hx176_0 := (HB.out.cell (World.block_lt_of_cell? w _ hx176_0)).trans hx176_0
          replace hx176_1 := (HB.out.cell (World.block_lt_of_cell? w _ hx176_1)).trans hx176_1
          replace hx176_2 := (HB.out.cell (World.block_lt_of_cell? w _ hx176_2)).trans hx176_2
          replace p176 := eq_true p176
          replace q176 := eq_true q176
          refine start_ (n := 18) (S := fun w' => w'.cell? (ad176.add ((x3_1).toNat * 3)) = some (.int .i64 ((rd_T44 l0 x3_1).f0)) ∧ w'.cell? ⟨(ad176.add ((x3_1).toNat * 3)).block, (ad176.add ((x3_1).toNat * 3)).off + 1, none⟩ = some (.int .i64 ((rd_T44 l0 x3_1).f1)) ∧ w'.cell? ⟨(ad176.add ((x3_1).toNat * 3)).block, (ad176.add ((x3_1).toNat * 3)).off + 2, none⟩ = some (.int .i64 ((rd_T44 l0 x3_1).f2))) (ds := []) #[n_, n_, n_, n_, n_, n_, n_, n_, n_, n_, n_, n_, n_, n_, n_, n_, n_, n_] (by kernel_rfl) rfl rfl ⟨((HB.out.cell (World.block_lt_of_cell? w _ hw176_0)).trans hw176_0), ((HB.out.cell (World.block_lt_of_cell? w _ hw176_1)).trans hw176_1), ((HB.out.cell (World.block_lt_of_cell? w _ hw176_2)).trans hw176_2)⟩ (fun hHeld => ?_); refine with_tabW cohousingref28_Valid.tab6 cohousingref28_Valid.bits6 (fun HT_ HW_ => ?_)
          generalize wc.drew = w21 at HB hx176_0 hx176_1 hx176_2 hHeld ⊢
          refine pu_ 0 43 (w_ 18 1) rfl HT_ ?_
          refine pu_ 1 44 (w_ 18 3) rfl HT_ ?_
          refine pu_ 2 45 (w_ 18 7) rfl HT_ ?_
          refine pu_ 3 46 (w_ 18 15) rfl HT_ ?_
          refine ta_ 4 47 (w_ 18 31) rfl HT_ HW_ hHeld (by rintro w' ⟨s0, s1, s2⟩; go_simp; with_reducible rfl) ?_
          refine pu_ 5 48 (w_ 18 63) rfl HT_ ?_
          refine pu_ 6 49 (w_ 18 127) rfl HT_ ?_
          refine pn_ 7 50 (w_ 18 255) rfl HT_ ?_
          refine pn_ 8 51 (w_ 18 511) rfl HT_ ?_
          refine pn_ 9 52 (w_ 18 1023) rfl HT_ ?_
          refine pn_ 10 53 (w_ 18 2047) rfl HT_ ?_
          refine pn_ 11 54 (w_ 18 4095) rfl HT_ ?_
          refine pn_ 12 55 (w_ 18 8191) rfl HT_ ?_
          refine pn_ 13 56 (w_ 18 16383) rfl HT_ ?_
          refine pn_ 14 57 (w_ 18 32767) rfl HT_ ?_
          refine pn_ 15 58 (w_ 18 65535) rfl HT_ ?_
          refine pn_ 16 59 (w_ 18 131071) rfl HT_ ?_
          refine pu_ 17 60 (w_ 18 262143) rfl HT_ ?_
          refine done_ (done_of HT_.out (by kernel_rfl)) ?_
          try go_wp2
          go_roundg kj2
          case measure => have := HK1.out; have := HJ2.out; omega
          case rel => exact ⟨(wrap64 (x3_1 + 1)), sd_, H', ⟨by have := HK1.out; have := HJ2.out; omega⟩, ⟨by repeat (first | (with_reducible first | exact HB.out | apply below_alloc | apply pw_below_drewN | apply below_drew1) | exact HB.out)⟩⟩
         ·rw [if_neg c20] at H
          have c20b0 : (((rd_T44 l0 x3_1).f1) == 0) = false := beq_eq_false_iff_ne.mpr c20
          have c20b1 : (((rd_T44 l0 x3_1).f1) != 0) = true := bne_iff_ne.mpr c20
          have c22b0 := eq_true (od_ : 0 ≤ x3_1)
          by_cases c23 : x3_1 ≤ (l0.length : Int)
          ·rw [if_pos c23] at H
           have c23b0 := eq_true c23
           have c23b1 : decide (x3_1 ≤ (l0.length : Int)) = true := decide_eq_true c23
           clear c23
           obtain ⟨y177, hy177⟩ : ∃ y_ : List (S44), y_ = (l0.take (x3_1 : Int).toNat) := ⟨_, rfl⟩
           replace H : ((cohousingref28_At.f kj2 y177 ((rd_T44 l0 x3_1).f1)).bind fun t182 => (if t182 < 0 then (some false) else (cohousingref28_Valid.l0 kj2 l0 (wrap64 (x3_1 + 1))))) = some r := by first | (rw [hy177]; with_reducible exact H) | (have H2_ := (Option.bind_some _ _).symm.trans H; rw [hy177]; with_reducible exact H2_) | (have H2_ := (Option.bind_some _ _).symm.trans H; with_reducible exact H2_) | with_reducible exact H | (rw [hy177]; exact H) | exact H
           have Ny177 := Aside0.mk hy177
           clear hy177
           replace H := Option.bind_eq_some_iff.mp H
           obtain ⟨t182, A240, H⟩ := H
           replace H : (if t182 < 0 then (some false) else (cohousingref28_Valid.l0 kj2 l0 (wrap64 (x3_1 + 1)))) = some r := H
           have A24 := Aside0.mk A240
           clear A240
           by_cases c25 : t182 < 0
           ·rw [if_pos c25] at H
            have c25b0 : decide (t182 < 0) = true := decide_eq_true c25
            clear c25
            obtain rfl := Option.some.inj H
            try go_wp2
            have n0_ := Aside0.mk (below_drew1 HB.out)
            clear HB
            have HB := n0_
            clear n0_
            have p176 : 0 ≤ (x3_1 : Int) := od_
            have q176 : x3_1 < (l0.length : Int) := od_
            obtain ⟨ad176, e176, hx176_0, hx176_1, hx176_2⟩ := at_T44 HR0.out x3_1 p176 q176
            have hw176_2 := hx176_2
            have hw176_1 := hx176_1
            have hw176_0 := hx176_0
            cases e176
            replace hx176_0 := (HB.out.cell (World.block_lt_of_cell? w _ hx176_0)).trans hx176_0
            replace hx176_1 := (HB.out.cell (World.block_lt_of_cell? w _ hx176_1)).trans hx176_1
            replace hx176_2 := (HB.out.cell (World.block_lt_of_cell? w _ hx176_2)).trans hx176_2
            replace p176 := eq_true p176
            replace q176 := eq_true q176
            have q27 : (x3_1 : Int) ≤ ((l0.length : Int) : Int) := od_
            obtain ⟨i027, hi027, _, hsz27, _⟩ := info_parts info44
            have hroom27 : l0.length ≤ c0 := HC0.out
            have hC27 : Kd.C k44 _ (some ad176) l0.length l0 := HR0.out
            have hcut27 := cut_to (P := Try.prog) 22 44 .i64 Try.underlying22 hi027 (some ad176) l0.length c0 x3_1 (od_) q27 hroom27
            have hr27 := Kd.C_take (m := (x3_1 : Int).toNat) hC27 (by omega)
            have hy27 : y177.length = (x3_1 : Int).toNat := (by rw [Ny177.out, List.length_take]; omega)
            rw [← Ny177.out] at hr27
            rw [← hy27] at hcut27
            have HR180 := Aside0.mk hr27
            have HC180 := Aside0.mk (show y177.length ≤ c0 from by omega)
            clear hr27 hC27 hroom27 hi027 hsz27
            have KY27 := Aside0.mk hy27
            clear hy27
            replace q27 := eq_true q27
            have p181 : 0 ≤ (x3_1 : Int) := od_
            have q181 : x3_1 < (l0.length : Int) := od_
            obtain ⟨ad181, e181, hx181_0, hx181_1, hx181_2⟩ := at_T44 HR0.out x3_1 p181 q181
            have hw181_2 := hx181_2
            have hw181_1 := hx181_1
            have hw181_0 := hx181_0
            obtain rfl : ad176 = ad181 := (by injection e181)
            replace hx181_0 := (HB.out.cell (World.block_lt_of_cell? w _ hx181_0)).trans hx181_0
            replace hx181_1 := (HB.out.cell (World.block_lt_of_cell? w _ hx181_1)).trans hx181_1
            replace hx181_2 := (HB.out.cell (World.block_lt_of_cell? w _ hx181_2)).trans hx181_2
            replace p181 := eq_true p181
            replace q181 := eq_true q181
            refine start_ (n := 18) (S := fun w' => w'.cell? (ad176.add ((x3_1).toNat * 3)) = some (.int .i64 ((rd_T44 l0 x3_1).f0)) ∧ w'.cell? ⟨(ad176.add ((x3_1).toNat * 3)).block, (ad176.add ((x3_1).toNat * 3)).off + 1, none⟩ = some (.int .i64 ((rd_T44 l0 x3_1).f1)) ∧ w'.cell? ⟨(ad176.add ((x3_1).toNat * 3)).block, (ad176.add ((x3_1).toNat * 3)).off + 2, none⟩ = some (.int .i64 ((rd_T44 l0 x3_1).f2)) ∧ w'.cell? (ad176.add ((x3_1).toNat * 3)) = some (.int .i64 ((rd_T44 l0 x3_1).f0)) ∧ w'.cell? ⟨(ad176.add ((x3_1).toNat * 3)).block, (ad176.add ((x3_1).toNat * 3)).off + 1, none⟩ = some (.int .i64 ((rd_T44 l0 x3_1).f1)) ∧ w'.cell? ⟨(ad176.add ((x3_1).toNat * 3)).block, (ad176.add ((x3_1).toNat * 3)).off + 2, none⟩ = some (.int .i64 ((rd_T44 l0 x3_1).f2))) (ds := []) #[n_, n_, n_, n_, n_, n_, n_, n_, n_, n_, n_, n_, n_, n_, n_, n_, n_, n_] (by kernel_rfl) rfl rfl ⟨((HB.out.cell (World.block_lt_of_cell? w _ hw176_0)).trans hw176_0), ((HB.out.cell (World.block_lt_of_cell? w _ hw176_1)).trans hw176_1), ((HB.out.cell (World.block_lt_of_cell? w _ hw176_2)).trans hw176_2), ((HB.out.cell (World.block_lt_of_cell? w _ hw181_0)).trans hw181_0), ((HB.out.cell (World.block_lt_of_cell? w _ hw181_1)).trans hw181_1), ((HB.out.cell (World.block_lt_of_cell? w _ hw181_2)).trans hw181_2)⟩ (fun hHeld => ?_); refine with_tabW cohousingref28_Valid.tab6 cohousingref28_Valid.bits6 (fun HT_ HW_ => ?_)
            generalize wc.drew = w26 at HB HR180 hx176_0 hx176_1 hx176_2 hx181_0 hx181_1 hx181_2 hHeld ⊢
            refine pu_ 0 43 (w_ 18 1) rfl HT_ ?_
            refine pu_ 1 44 (w_ 18 3) rfl HT_ ?_
            refine pu_ 2 45 (w_ 18 7) rfl HT_ ?_
            refine pu_ 3 46 (w_ 18 15) rfl HT_ ?_
            refine ta_ 4 47 (w_ 18 31) rfl HT_ HW_ hHeld (by rintro w' ⟨s0, s1, s2, s3, s4, s5⟩; go_simp; with_reducible rfl) ?_
            refine pu_ 5 48 (w_ 18 63) rfl HT_ ?_
            refine pu_ 6 49 (w_ 18 127) rfl HT_ ?_
            refine pu_ 7 50 (w_ 18 255) rfl HT_ ?_
            refine pu_ 8 51 (w_ 18 511) rfl HT_ ?_
            refine pu_ 9 52 (w_ 18 1023) rfl HT_ ?_
            refine pu_ 10 53 (w_ 18 2047) rfl HT_ ?_
            refine pu_ 11 54 (w_ 18 4095) rfl HT_ ?_
            refine pu_ 12 55 (w_ 18 8191) rfl HT_ ?_
            refine pu_ 13 56 (w_ 18 16383) rfl HT_ ?_
            refine ta_ 14 57 (w_ 18 32767) rfl HT_ HW_ hHeld (by rintro w' ⟨s0, s1, s2, s3, s4, s5⟩; go_simp; with_reducible rfl) ?_
            refine one_ (i := 15) (N := some 58) (w_ 18 65535) rfl rfl (one_of HT_.out (by kernel_rfl)) (by decide) (fun K hK => ?_)
            refine goes_ Try.func25 (by kernel_rfl) rfl #[.slice (some ad176) y177.length c0, .int .i64 ((rd_T44 l0 x3_1).f1)] (by rfl) rfl rfl (by (try simp only [List.map_toArray, List.map_cons, List.map_nil]); first | done | rfl | (simp only [List.length_drop, List.length_take]; rfl)) ?_
            with_reducible refine (cohousingref28_At.calls kj2 _ _ y177 ((rd_T44 l0 x3_1).f1) t182 _ ?side1 ?side2 A24.out).mono ?_
            (case side1 => exact cc_ ((Kd.C_below HR180.out HB.out)))
            (case side2 => exact HC180.out)
            rintro e w' ⟨rfl, ⟨nd, rfl⟩⟩
            refine ⟨_, rfl, ?_⟩
            refine hK.out _ _ ⟨((HB.out.cell (World.block_lt_of_cell? w _ hw176_0)).trans hw176_0), ((HB.out.cell (World.block_lt_of_cell? w _ hw176_1)).trans hw176_1), ((HB.out.cell (World.block_lt_of_cell? w _ hw176_2)).trans hw176_2), ((HB.out.cell (World.block_lt_of_cell? w _ hw181_0)).trans hw181_0), ((HB.out.cell (World.block_lt_of_cell? w _ hw181_1)).trans hw181_1), ((HB.out.cell (World.block_lt_of_cell? w _ hw181_2)).trans hw181_2)⟩ (fun hHeld => ?_)
            clear hK K
            refine norm_ (a' := ?_) ?_ ?_
            rotate_left
            ·show Act.put _ (some 58) _ = _
             simp only [Act.put, sI_, s0_, sS_, i64_w, i32_w]
             rfl
            refine pu_ 16 59 (w_ 18 131071) rfl HT_ ?_
            refine pu_ 17 60 (w_ 18 262143) rfl HT_ ?_
            refine done_ (done_of HT_.out (by kernel_rfl)) ?_
            try go_wp2
            go_ret
            exact ⟨ew_, by repeat (first | (with_reducible first | exact HB.out | apply below_alloc | apply pw_below_drewN | apply below_drew1) | exact HB.out)⟩
           ·rw [if_neg c25] at H
            have c25b0 : decide (t182 < 0) = false := decide_eq_false c25
            clear c25
            have H' := Aside0.mk H
            clear H
            try go_wp2
            have n0_ := Aside0.mk (below_drew1 HB.out)
            clear HB
            have HB := n0_
            clear n0_
            have p176 : 0 ≤ (x3_1 : Int) := od_
            have q176 : x3_1 < (l0.length : Int) := od_
            obtain ⟨ad176, e176, hx176_0, hx176_1, hx176_2⟩ := at_T44 HR0.out x3_1 p176 q176
            have hw176_2 := hx176_2
            have hw176_1 := hx176_1
            have hw176_0 := hx176_0
            cases e176
            replace hx176_0 := (HB.out.cell (World.block_lt_of_cell? w _ hx176_0)).trans hx176_0
            replace hx176_1 := (HB.out.cell (World.block_lt_of_cell? w _ hx176_1)).trans hx176_1
            replace hx176_2 := (HB.out.cell (World.block_lt_of_cell? w _ hx176_2)).trans hx176_2
            replace p176 := eq_true p176
            replace q176 := eq_true q176
            have q29 : (x3_1 : Int) ≤ ((l0.length : Int) : Int) := od_
            obtain ⟨i029, hi029, _, hsz29, _⟩ := info_parts info44
            have hroom29 : l0.length ≤ c0 := HC0.out
            have hC29 : Kd.C k44 _ (some ad176) l0.length l0 := HR0.out
            have hcut29 := cut_to (P := Try.prog) 22 44 .i64 Try.underlying22 hi029 (some ad176) l0.length c0 x3_1 (od_) q29 hroom29
            have hr29 := Kd.C_take (m := (x3_1 : Int).toNat) hC29 (by omega)
            have hy29 : y177.length = (x3_1 : Int).toNat := (by rw [Ny177.out, List.length_take]; omega)
            rw [← Ny177.out] at hr29
            rw [← hy29] at hcut29
            have HR180 := Aside0.mk hr29
            have HC180 := Aside0.mk (show y177.length ≤ c0 from by omega)
            clear hr29 hC29 hroom29 hi029 hsz29
            have KY29 := Aside0.mk hy29
            clear hy29
            replace q29 := eq_true q29
            have p181 : 0 ≤ (x3_1 : Int) := od_
            have q181 : x3_1 < (l0.length : Int) := od_
            obtain ⟨ad181, e181, hx181_0, hx181_1, hx181_2⟩ := at_T44 HR0.out x3_1 p181 q181
            have hw181_2 := hx181_2
            have hw181_1 := hx181_1
            have hw181_0 := hx181_0
            obtain rfl : ad176 = ad181 := (by injection e181)
            replace hx181_0 := (HB.out.cell (World.block_lt_of_cell? w _ hx181_0)).trans hx181_0
            replace hx181_1 := (HB.out.cell (World.block_lt_of_cell? w _ hx181_1)).trans hx181_1
            replace hx181_2 := (HB.out.cell (World.block_lt_of_cell? w _ hx181_2)).trans hx181_2
            replace p181 := eq_true p181
            replace q181 := eq_true q181
            refine start_ (n := 18) (S := fun w' => w'.cell? (ad176.add ((x3_1).toNat * 3)) = some (.int .i64 ((rd_T44 l0 x3_1).f0)) ∧ w'.cell? ⟨(ad176.add ((x3_1).toNat * 3)).block, (ad176.add ((x3_1).toNat * 3)).off + 1, none⟩ = some (.int .i64 ((rd_T44 l0 x3_1).f1)) ∧ w'.cell? ⟨(ad176.add ((x3_1).toNat * 3)).block, (ad176.add ((x3_1).toNat * 3)).off + 2, none⟩ = some (.int .i64 ((rd_T44 l0 x3_1).f2)) ∧ w'.cell? (ad176.add ((x3_1).toNat * 3)) = some (.int .i64 ((rd_T44 l0 x3_1).f0)) ∧ w'.cell? ⟨(ad176.add ((x3_1).toNat * 3)).block, (ad176.add ((x3_1).toNat * 3)).off + 1, none⟩ = some (.int .i64 ((rd_T44 l0 x3_1).f1)) ∧ w'.cell? ⟨(ad176.add ((x3_1).toNat * 3)).block, (ad176.add ((x3_1).toNat * 3)).off + 2, none⟩ = some (.int .i64 ((rd_T44 l0 x3_1).f2))) (ds := []) #[n_, n_, n_, n_, n_, n_, n_, n_, n_, n_, n_, n_, n_, n_, n_, n_, n_, n_] (by kernel_rfl) rfl rfl ⟨((HB.out.cell (World.block_lt_of_cell? w _ hw176_0)).trans hw176_0), ((HB.out.cell (World.block_lt_of_cell? w _ hw176_1)).trans hw176_1), ((HB.out.cell (World.block_lt_of_cell? w _ hw176_2)).trans hw176_2), ((HB.out.cell (World.block_lt_of_cell? w _ hw181_0)).trans hw181_0), ((HB.out.cell (World.block_lt_of_cell? w _ hw181_1)).trans hw181_1), ((HB.out.cell (World.block_lt_of_cell? w _ hw181_2)).trans hw181_2)⟩ (fun hHeld => ?_); refine with_tabW cohousingref28_Valid.tab6 cohousingref28_Valid.bits6 (fun HT_ HW_ => ?_)
            generalize wc.drew = w28 at HB HR180 hx176_0 hx176_1 hx176_2 hx181_0 hx181_1 hx181_2 hHeld ⊢
            refine pu_ 0 43 (w_ 18 1) rfl HT_ ?_
            refine pu_ 1 44 (w_ 18 3) rfl HT_ ?_
            refine pu_ 2 45 (w_ 18 7) rfl HT_ ?_
            refine pu_ 3 46 (w_ 18 15) rfl HT_ ?_
            refine ta_ 4 47 (w_ 18 31) rfl HT_ HW_ hHeld (by rintro w' ⟨s0, s1, s2, s3, s4, s5⟩; go_simp; with_reducible rfl) ?_
            refine pu_ 5 48 (w_ 18 63) rfl HT_ ?_
            refine pu_ 6 49 (w_ 18 127) rfl HT_ ?_
            refine pu_ 7 50 (w_ 18 255) rfl HT_ ?_
            refine pu_ 8 51 (w_ 18 511) rfl HT_ ?_
            refine pu_ 9 52 (w_ 18 1023) rfl HT_ ?_
            refine pu_ 10 53 (w_ 18 2047) rfl HT_ ?_
            refine pu_ 11 54 (w_ 18 4095) rfl HT_ ?_
            refine pu_ 12 55 (w_ 18 8191) rfl HT_ ?_
            refine pu_ 13 56 (w_ 18 16383) rfl HT_ ?_
            refine ta_ 14 57 (w_ 18 32767) rfl HT_ HW_ hHeld (by rintro w' ⟨s0, s1, s2, s3, s4, s5⟩; go_simp; with_reducible rfl) ?_
            refine one_ (i := 15) (N := some 58) (w_ 18 65535) rfl rfl (one_of HT_.out (by kernel_rfl)) (by decide) (fun K hK => ?_)
            refine goes_ Try.func25 (by kernel_rfl) rfl #[.slice (some ad176) y177.length c0, .int .i64 ((rd_T44 l0 x3_1).f1)] (by rfl) rfl rfl (by (try simp only [List.map_toArray, List.map_cons, List.map_nil]); first | done | rfl | (simp only [List.length_drop, List.length_take]; rfl)) ?_
            with_reducible refine (cohousingref28_At.calls kj2 _ _ y177 ((rd_T44 l0 x3_1).f1) t182 _ ?side1 ?side2 A24.out).mono ?_
            (case side1 => exact cc_ ((Kd.C_below HR180.out HB.out)))
            (case side2 => exact HC180.out)
            rintro e w' ⟨rfl, ⟨nd, rfl⟩⟩
            refine ⟨_, rfl, ?_⟩
            refine hK.out _ _ ⟨((HB.out.cell (World.block_lt_of_cell? w _ hw176_0)).trans hw176_0), ((HB.out.cell (World.block_lt_of_cell? w _ hw176_1)).trans hw176_1), ((HB.out.cell (World.block_lt_of_cell? w _ hw176_2)).trans hw176_2), ((HB.out.cell (World.block_lt_of_cell? w _ hw181_0)).trans hw181_0), ((HB.out.cell (World.block_lt_of_cell? w _ hw181_1)).trans hw181_1), ((HB.out.cell (World.block_lt_of_cell? w _ hw181_2)).trans hw181_2)⟩ (fun hHeld => ?_)
            clear hK K
            refine norm_ (a' := ?_) ?_ ?_
            rotate_left
            ·show Act.put _ (some 58) _ = _
             simp only [Act.put, sI_, s0_, sS_, i64_w, i32_w]
             rfl
            refine pu_ 16 59 (w_ 18 131071) rfl HT_ ?_
            refine pu_ 17 60 (w_ 18 262143) rfl HT_ ?_
            refine done_ (done_of HT_.out (by kernel_rfl)) ?_
            try go_wp2
            go_roundg kj2
            case measure => have := HK1.out; have := HJ2.out; omega
            case rel => exact ⟨(wrap64 (x3_1 + 1)), sd_, H', ⟨by have := HK1.out; have := HJ2.out; omega⟩, ⟨by repeat (first | (with_reducible first | exact HB.out | apply below_alloc | apply pw_below_drewN | apply below_drew1) | exact HB.out)⟩⟩
          ·rw [if_neg c23] at H
           exact absurd H (by simp)
        ·rw [if_neg c19] at H
         exact absurd H (by simp)
       ·rw [if_neg c18] at H
        exact absurd H (by simp)
   ·rw [if_neg c2] at H
    have c2b0 : decide (x3_1 < (l0.length : Int)) = false := decide_eq_false c2
    clear c2
    obtain rfl := Option.some.inj H
    go_wp2
    go_ret
    exact ⟨ew_, by repeat (first | (with_reducible first | exact HB.out | apply below_alloc | apply pw_below_drewN | apply below_drew1) | exact HB.out)⟩
end
section
open Go.Proofs.YtolmjhpapidmhaaH
theorem volume_f (n : Int) : cohousingref28_Volume.f n = some (decide (0 ≤ n ∧ n ≤ 1000000000)) := by
 unfold cohousingref28_Volume.f
 (repeat' split) <;> simp_all <;> omega
theorem volume_calls {n : Int} {b : Bool} (h : decide (0 ≤ n ∧ n ≤ 1000000000) = b) (w : World) : Calls Try.prog 40 #[.int .i64 n] w fun e w' => e = .returned (.bool b) ∧ Drawn0 w w' := cohousingref28_Volume.calls n b w (by rw [volume_f, h])
def cohousingref28_Belongs.f (l0 : List S44) (l1 : List S46) : Option Bool := if l0.length ≤ 140737488355328 ∧ l1.length ≤ 140737488355328 then some (belongsB l0.length l1) else none
theorem cohousingref28_Belongs.calls (A0 : Option Addr) (c0 : Nat) (l0 : List (S44)) (A1 : Option Addr) (c1 : Nat) (l1 : List (S46)) (r : Bool) (w : World) (hr0 : Kd.C k44 w A0 l0.length l0) (hc0 : l0.length ≤ c0) (hr1 : Kd.C k46 w A1 l1.length l1) (hc1 : l1.length ≤ c1) (h : cohousingref28_Belongs.f l0 l1 = some r) :
  Calls Try.prog 34 #[.slice A0 l0.length c0, .slice A1 l1.length c1] w fun e w' => e = .returned (.bool r) ∧ Below w.heap.size w w' := by
 unfold cohousingref28_Belongs.f at h
 by_cases hsz : l0.length ≤ 140737488355328 ∧ l1.length ≤ 140737488355328
 case neg =>
  rw [if_neg hsz] at h
  cases h
 rw [if_pos hsz] at h
 injection h with h
 subst h
 have HR1 := Aside0.mk hr1
 have HSZ := Aside0.mk hsz
 clear hr0 hr1 hc0 hc1 hsz
 have HB := Aside0.mk (Below.refl w.heap.size w)
 by_cases hl : l1.length = l0.length
 case neg =>
  have d2 : ((l1.length : Int) == (l0.length : Int)) = false := beq_eq_false_iff_ne.2 (by omega)
  have d2' : ((l1.length : Int) != (l0.length : Int)) = true := bne_iff_ne.2 (by omega)
  have HF := Aside0.mk (show belongsB l0.length l1 = false by unfold belongsB; rw [decide_eq_false hl]; rfl)
  clear hl
  go_enter Try.func34, Try.ntmps34
  go_wp2
  go_ret
  exact ⟨by rw [HF.out]; rfl, HB.out⟩
 have d2 : ((l1.length : Int) == (l0.length : Int)) = true := beq_iff_eq.2 (by omega)
 have d2' : ((l1.length : Int) != (l0.length : Int)) = false := by rw [bne, d2]; rfl
 have HL := Aside0.mk hl
 clear hl
 go_enter Try.func34, Try.ntmps34
 go_wp2
 go_loopg [5] l1.length (fun kq v5 wr => ∃ (n : Nat), v5 = .int .i64 n ∧ Aside0 (kq + n = l1.length) ∧ Aside0 (∀ j : Nat, j < n → oddR (rd_T46 l1 j) = false) ∧ Aside0 (Below w.heap.size w wr))
 case atStart => exact ⟨0, rfl, ⟨by omega⟩, ⟨fun j hj => absurd hj (Nat.not_lt_zero _)⟩, HB⟩
 case round =>
  clear HB
  obtain ⟨n, rfl, HM, HOK, HB⟩ := hrel
  by_cases hlt : n < l1.length
  case neg =>
   have q2' : decide ((n : Int) < (l1.length : Int)) = false := decide_eq_false (by omega)
   have q2'' : decide (n < l1.length) = false := decide_eq_false hlt
   have HF := Aside0.mk (show belongsB l0.length l1 = true by
    unfold belongsB
    rw [decide_eq_true HL.out, Bool.true_and, show l1.any oddR = false from ?_]
    ·rfl
    ·rw [List.any_eq_false]
     intro x hx
     obtain ⟨j, hj, rfl⟩ := List.mem_iff_getElem.1 hx
     have := HOK.out j (by have := HM.out; omega)
     simp only [rd_T46, Int.toNat_natCast, List.getD_eq_getElem?_getD, List.getElem?_eq_getElem hj, Option.getD_some] at this
     rw [this]
     decide)
   clear hlt
   go_wp2
   go_ret
   exact ⟨by rw [HF.out]; rfl, HB.out⟩
  obtain ⟨i, hi⟩ : ∃ i : Int, i = (n : Int) := ⟨_, rfl⟩
  rw [← hi]
  have HI2 := Aside0.mk (show 0 ≤ i ∧ i < l1.length ∧ i = (n : Int) from ⟨by omega, by omega, hi⟩)
  have q2' : decide (i < (l1.length : Int)) = true := decide_eq_true HI2.out.2.1
  have ci2 : (0 ≤ i) = True := eq_true HI2.out.1
  have ci3 : (i < l1.length) = True := eq_true HI2.out.2.1
  obtain ⟨ad, ea, hx0, hx1⟩ := at_T46 (Kd.C_below HR1.out HB.out.drew) i HI2.out.1 HI2.out.2.1
  subst ea
  have HBAD : oddR (rd_T46 l1 i) = true → belongsB l0.length l1 = false := fun hb => by
   unfold belongsB
   have : l1.any oddR = true := by
    rw [List.any_eq_true]
    refine ⟨l1[n], List.getElem_mem hlt, ?_⟩
    have e : i.toNat = n := by have := HI2.out; omega
    simp only [rd_T46, e, List.getD_eq_getElem?_getD, List.getElem?_eq_getElem hlt, Option.getD_some] at hb
    exact hb
   rw [this, Bool.not_true, Bool.and_false]
  have HBD := Aside0.mk HBAD
  obtain ⟨x0, hx0e⟩ : ∃ x0, x0 = (rd_T46 l1 i).f0 := ⟨_, rfl⟩
  obtain ⟨x1, hx1e⟩ : ∃ x1, x1 = (rd_T46 l1 i).f1 := ⟨_, rfl⟩
  rw [← hx0e] at hx0
  rw [← hx1e] at hx1
  have hodd : oddR (rd_T46 l1 i) = decide (¬ (0 ≤ x0 ∧ x0 ≤ 1000000000 ∧ 0 ≤ x1 ∧ x1 ≤ 1000000000 ∧ x0 ≤ x1)) := by unfold oddR; rw [hx0e, hx1e]
  have HODD := Aside0.mk hodd
  have HNI := Aside0.mk (show rd_T46 l1 i = rd_T46 l1 (n : Nat) by rw [hi])
  clear hlt hi hx0e hx1e HBAD hodd
  by_cases v0 : 0 ≤ x0 ∧ x0 ≤ 1000000000
  case neg =>
   have HV0 := Aside0.mk (decide_eq_false v0)
   have HF := Aside0.mk (show belongsB l0.length l1 = false from HBD.out (by rw [HODD.out]; exact decide_eq_true (fun h => v0 ⟨h.1, h.2.1⟩)))
   clear v0
   go_wp2
   refine start_ (n := 29) (S := fun w' => w'.cell? (ad.add (i.toNat * 2)) = some (.int .i64 x0) ∧ w'.cell? ⟨(ad.add (i.toNat * 2)).block, (ad.add (i.toNat * 2)).off + 1, none⟩ = some (.int .i64 x1)) (ds := []) #[n_, n_, n_, n_, n_, n_, n_, n_, n_, n_, n_, n_, n_, n_, n_, n_, n_, n_, n_, n_, n_, n_, n_, n_, n_, n_, n_, n_, n_] (by kernel_rfl) rfl rfl ⟨hx0, hx1⟩ (fun hHeld => ?_)
   refine pv_ 0 17 (w_ 29 1) rfl ?_
   refine pv_ 1 18 (w_ 29 3) rfl ?_
   refine pv_ 2 19 (w_ 29 7) rfl ?_
   refine pv_ 3 20 (w_ 29 15) rfl ?_
   refine tb_ 4 21 (w_ 29 31) rfl hHeld (by rintro w' ⟨s0, s1⟩; go_simp; with_reducible rfl) ?_
   refine one_ (i := 5) (N := some 22) (w_ 29 63) rfl rfl (by kernel_rfl) (by decide) (fun K hK => ?_)
   refine goes_ Try.func40 (by kernel_rfl) rfl #[.int .i64 x0] (by rfl) rfl rfl (by simp only [List.map_toArray, List.map_cons, List.map_nil]; rfl) ?_
   with_reducible refine (volume_calls HV0.out _).mono ?_
   rintro e w3 ⟨rfl, hdr⟩
   refine ⟨_, rfl, ?_⟩
   have hb := hdr.below
   have HBF := Aside0.mk (below_step (below_drew (Below.refl _ _)) hb)
   refine hK.out _ _ ⟨(hb.cell (World.block_lt_of_cell? _ _ hHeld.1)).trans hHeld.1, (hb.cell (World.block_lt_of_cell? _ _ hHeld.2)).trans hHeld.2⟩ (fun hHeld => ?_)
   clear hK K
   refine norm_ (a' := ?_) ?_ ?_
   rotate_left
   ·show Act.put _ (some 22) _ = _
    simp only [Act.put, sI_, s0_, sS_, i64_w, i32_w]
    rfl
   refine pv_ 6 23 (w_ 29 127) rfl ?_
   refine pv_ 7 24 (w_ 29 255) rfl ?_
   refine po_ 8 25 (w_ 29 511) rfl ?_
   refine po_ 9 26 (w_ 29 1023) rfl ?_
   refine po_ 10 27 (w_ 29 2047) rfl ?_
   refine po_ 11 28 (w_ 29 4095) rfl ?_
   refine po_ 12 29 (w_ 29 8191) rfl ?_
   refine po_ 13 30 (w_ 29 16383) rfl ?_
   refine po_ 14 31 (w_ 29 32767) rfl ?_
   refine pv_ 15 32 (w_ 29 65535) rfl ?_
   refine pv_ 16 33 (w_ 29 131071) rfl ?_
   refine po_ 17 34 (w_ 29 262143) rfl ?_
   refine po_ 18 35 (w_ 29 524287) rfl ?_
   refine po_ 19 36 (w_ 29 1048575) rfl ?_
   refine po_ 20 37 (w_ 29 2097151) rfl ?_
   refine po_ 21 38 (w_ 29 4194303) rfl ?_
   refine po_ 22 39 (w_ 29 8388607) rfl ?_
   refine po_ 23 40 (w_ 29 16777215) rfl ?_
   refine po_ 24 41 (w_ 29 33554431) rfl ?_
   refine po_ 25 42 (w_ 29 67108863) rfl ?_
   refine po_ 26 43 (w_ 29 134217727) rfl ?_
   refine po_ 27 44 (w_ 29 268435455) rfl ?_
   refine pv_ 28 45 (w_ 29 536870911) rfl ?_
   refine done_ (by kernel_rfl) ?_
   go_wp2
   go_ret
   exact ⟨by rw [HF.out]; rfl, HB.out.trans (HBF.out.mono HB.out.size)⟩
  have HV0 := Aside0.mk (decide_eq_true v0)
  by_cases v1 : 0 ≤ x1 ∧ x1 ≤ 1000000000
  case neg =>
   have HV1 := Aside0.mk (decide_eq_false v1)
   have HF := Aside0.mk (show belongsB l0.length l1 = false from HBD.out (by rw [HODD.out]; exact decide_eq_true (fun h => v1 ⟨h.2.2.1, h.2.2.2.1⟩)))
   clear v0 v1
   go_wp2
   refine start_ (n := 29) (S := fun w' => w'.cell? (ad.add (i.toNat * 2)) = some (.int .i64 x0) ∧ w'.cell? ⟨(ad.add (i.toNat * 2)).block, (ad.add (i.toNat * 2)).off + 1, none⟩ = some (.int .i64 x1)) (ds := []) #[n_, n_, n_, n_, n_, n_, n_, n_, n_, n_, n_, n_, n_, n_, n_, n_, n_, n_, n_, n_, n_, n_, n_, n_, n_, n_, n_, n_, n_] (by kernel_rfl) rfl rfl ⟨hx0, hx1⟩ (fun hHeld => ?_)
   refine pv_ 0 17 (w_ 29 1) rfl ?_
   refine pv_ 1 18 (w_ 29 3) rfl ?_
   refine pv_ 2 19 (w_ 29 7) rfl ?_
   refine pv_ 3 20 (w_ 29 15) rfl ?_
   refine tb_ 4 21 (w_ 29 31) rfl hHeld (by rintro w' ⟨s0, s1⟩; go_simp; with_reducible rfl) ?_
   refine one_ (i := 5) (N := some 22) (w_ 29 63) rfl rfl (by kernel_rfl) (by decide) (fun K hK => ?_)
   refine goes_ Try.func40 (by kernel_rfl) rfl #[.int .i64 x0] (by rfl) rfl rfl (by simp only [List.map_toArray, List.map_cons, List.map_nil]; rfl) ?_
   with_reducible refine (volume_calls HV0.out _).mono ?_
   rintro e w3 ⟨rfl, hdr⟩
   refine ⟨_, rfl, ?_⟩
   have hb := hdr.below
   have HB1 := Aside0.mk (below_step (below_drew (Below.refl _ _)) hb)
   refine hK.out _ _ ⟨(hb.cell (World.block_lt_of_cell? _ _ hHeld.1)).trans hHeld.1, (hb.cell (World.block_lt_of_cell? _ _ hHeld.2)).trans hHeld.2⟩ (fun hHeld => ?_)
   clear hK K
   refine norm_ (a' := ?_) ?_ ?_
   rotate_left
   ·show Act.put _ (some 22) _ = _
    simp only [Act.put, sI_, s0_, sS_, i64_w, i32_w]
    rfl
   refine pv_ 6 23 (w_ 29 127) rfl ?_
   refine pv_ 7 24 (w_ 29 255) rfl ?_
   refine pv_ 8 25 (w_ 29 511) rfl ?_
   refine pv_ 9 26 (w_ 29 1023) rfl ?_
   refine pv_ 10 27 (w_ 29 2047) rfl ?_
   refine pv_ 11 28 (w_ 29 4095) rfl ?_
   refine tb_ 12 29 (w_ 29 8191) rfl hHeld (by rintro w' ⟨s0, s1⟩; go_simp; with_reducible rfl) ?_
   refine one_ (i := 13) (N := some 30) (w_ 29 16383) rfl rfl (by kernel_rfl) (by decide) (fun K hK => ?_)
   refine goes_ Try.func40 (by kernel_rfl) rfl #[.int .i64 x1] (by rfl) rfl rfl (by simp only [List.map_toArray, List.map_cons, List.map_nil]; rfl) ?_
   with_reducible refine (volume_calls HV1.out _).mono ?_
   rintro e w3 ⟨rfl, hdr⟩
   refine ⟨_, rfl, ?_⟩
   have hb := hdr.below
   have HBF := Aside0.mk (below_step HB1.out hb)
   refine hK.out _ _ ⟨(hb.cell (World.block_lt_of_cell? _ _ hHeld.1)).trans hHeld.1, (hb.cell (World.block_lt_of_cell? _ _ hHeld.2)).trans hHeld.2⟩ (fun hHeld => ?_)
   clear hK K
   refine norm_ (a' := ?_) ?_ ?_
   rotate_left
   ·show Act.put _ (some 30) _ = _
    simp only [Act.put, sI_, s0_, sS_, i64_w, i32_w]
    rfl
   refine pv_ 14 31 (w_ 29 32767) rfl ?_
   refine pv_ 15 32 (w_ 29 65535) rfl ?_
   refine pv_ 16 33 (w_ 29 131071) rfl ?_
   refine po_ 17 34 (w_ 29 262143) rfl ?_
   refine po_ 18 35 (w_ 29 524287) rfl ?_
   refine po_ 19 36 (w_ 29 1048575) rfl ?_
   refine po_ 20 37 (w_ 29 2097151) rfl ?_
   refine po_ 21 38 (w_ 29 4194303) rfl ?_
   refine po_ 22 39 (w_ 29 8388607) rfl ?_
   refine po_ 23 40 (w_ 29 16777215) rfl ?_
   refine po_ 24 41 (w_ 29 33554431) rfl ?_
   refine po_ 25 42 (w_ 29 67108863) rfl ?_
   refine po_ 26 43 (w_ 29 134217727) rfl ?_
   refine po_ 27 44 (w_ 29 268435455) rfl ?_
   refine pv_ 28 45 (w_ 29 536870911) rfl ?_
   refine done_ (by kernel_rfl) ?_
   go_wp2
   go_ret
   exact ⟨by rw [HF.out]; rfl, HB.out.trans (HBF.out.mono HB.out.size)⟩
  have HV1 := Aside0.mk (decide_eq_true v1)
  by_cases v2 : x1 < x0
  ·have t2 : decide (x1 < x0) = true := decide_eq_true v2
   have HF := Aside0.mk (show belongsB l0.length l1 = false from HBD.out (by rw [HODD.out]; exact decide_eq_true (fun h => by omega)))
   clear v0 v1 v2
   go_wp2
   refine start_ (n := 29) (S := fun w' => w'.cell? (ad.add (i.toNat * 2)) = some (.int .i64 x0) ∧ w'.cell? ⟨(ad.add (i.toNat * 2)).block, (ad.add (i.toNat * 2)).off + 1, none⟩ = some (.int .i64 x1)) (ds := []) #[n_, n_, n_, n_, n_, n_, n_, n_, n_, n_, n_, n_, n_, n_, n_, n_, n_, n_, n_, n_, n_, n_, n_, n_, n_, n_, n_, n_, n_] (by kernel_rfl) rfl rfl ⟨hx0, hx1⟩ (fun hHeld => ?_)
   refine pv_ 0 17 (w_ 29 1) rfl ?_
   refine pv_ 1 18 (w_ 29 3) rfl ?_
   refine pv_ 2 19 (w_ 29 7) rfl ?_
   refine pv_ 3 20 (w_ 29 15) rfl ?_
   refine tb_ 4 21 (w_ 29 31) rfl hHeld (by rintro w' ⟨s0, s1⟩; go_simp; with_reducible rfl) ?_
   refine one_ (i := 5) (N := some 22) (w_ 29 63) rfl rfl (by kernel_rfl) (by decide) (fun K hK => ?_)
   refine goes_ Try.func40 (by kernel_rfl) rfl #[.int .i64 x0] (by rfl) rfl rfl (by simp only [List.map_toArray, List.map_cons, List.map_nil]; rfl) ?_
   with_reducible refine (volume_calls HV0.out _).mono ?_
   rintro e w3 ⟨rfl, hdr⟩
   refine ⟨_, rfl, ?_⟩
   have hb := hdr.below
   have HB1 := Aside0.mk (below_step (below_drew (Below.refl _ _)) hb)
   refine hK.out _ _ ⟨(hb.cell (World.block_lt_of_cell? _ _ hHeld.1)).trans hHeld.1, (hb.cell (World.block_lt_of_cell? _ _ hHeld.2)).trans hHeld.2⟩ (fun hHeld => ?_)
   clear hK K
   refine norm_ (a' := ?_) ?_ ?_
   rotate_left
   ·show Act.put _ (some 22) _ = _
    simp only [Act.put, sI_, s0_, sS_, i64_w, i32_w]
    rfl
   refine pv_ 6 23 (w_ 29 127) rfl ?_
   refine pv_ 7 24 (w_ 29 255) rfl ?_
   refine pv_ 8 25 (w_ 29 511) rfl ?_
   refine pv_ 9 26 (w_ 29 1023) rfl ?_
   refine pv_ 10 27 (w_ 29 2047) rfl ?_
   refine pv_ 11 28 (w_ 29 4095) rfl ?_
   refine tb_ 12 29 (w_ 29 8191) rfl hHeld (by rintro w' ⟨s0, s1⟩; go_simp; with_reducible rfl) ?_
   refine one_ (i := 13) (N := some 30) (w_ 29 16383) rfl rfl (by kernel_rfl) (by decide) (fun K hK => ?_)
   refine goes_ Try.func40 (by kernel_rfl) rfl #[.int .i64 x1] (by rfl) rfl rfl (by simp only [List.map_toArray, List.map_cons, List.map_nil]; rfl) ?_
   with_reducible refine (volume_calls HV1.out _).mono ?_
   rintro e w3 ⟨rfl, hdr⟩
   refine ⟨_, rfl, ?_⟩
   have hb := hdr.below
   have HBF := Aside0.mk (below_step HB1.out hb)
   refine hK.out _ _ ⟨(hb.cell (World.block_lt_of_cell? _ _ hHeld.1)).trans hHeld.1, (hb.cell (World.block_lt_of_cell? _ _ hHeld.2)).trans hHeld.2⟩ (fun hHeld => ?_)
   clear hK K
   refine norm_ (a' := ?_) ?_ ?_
   rotate_left
   ·show Act.put _ (some 30) _ = _
    simp only [Act.put, sI_, s0_, sS_, i64_w, i32_w]
    rfl
   refine pv_ 14 31 (w_ 29 32767) rfl ?_
   refine pv_ 15 32 (w_ 29 65535) rfl ?_
   refine pv_ 16 33 (w_ 29 131071) rfl ?_
   refine pv_ 17 34 (w_ 29 262143) rfl ?_
   refine pv_ 18 35 (w_ 29 524287) rfl ?_
   refine pv_ 19 36 (w_ 29 1048575) rfl ?_
   refine pv_ 20 37 (w_ 29 2097151) rfl ?_
   refine pv_ 22 39 (w_ 29 6291455) rfl ?_
   refine pv_ 23 40 (w_ 29 14680063) rfl ?_
   refine pv_ 24 41 (w_ 29 31457279) rfl ?_
   refine pv_ 25 42 (w_ 29 65011711) rfl ?_
   refine tb_ 21 38 (w_ 29 67108863) rfl hHeld (by rintro w' ⟨s0, s1⟩; go_simp; with_reducible rfl) ?_
   refine tb_ 26 43 (w_ 29 134217727) rfl hHeld (by rintro w' ⟨s0, s1⟩; go_simp; with_reducible rfl) ?_
   refine pv_ 27 44 (w_ 29 268435455) rfl ?_
   refine pv_ 28 45 (w_ 29 536870911) rfl ?_
   refine done_ (by kernel_rfl) ?_
   go_wp2
   go_ret
   exact ⟨by rw [HF.out]; rfl, HB.out.trans (HBF.out.mono HB.out.size)⟩
  have t2 : decide (x1 < x0) = false := decide_eq_false v2
  have HG := Aside0.mk (show oddR (rd_T46 l1 i) = false by rw [HODD.out]; exact decide_eq_false (fun h => h ⟨v0.1, v0.2, v1.1, v1.2, by omega⟩))
  clear v0 v1 v2
  have hz1 : i + 1 ≤ 9223372036854775807 := by have := HI2.out; have := HSZ.out; omega
  have hz2 : -9223372036854775808 ≤ i + 1 := by have := HI2.out; omega
  go_wp2
  refine start_ (n := 29) (S := fun w' => w'.cell? (ad.add (i.toNat * 2)) = some (.int .i64 x0) ∧ w'.cell? ⟨(ad.add (i.toNat * 2)).block, (ad.add (i.toNat * 2)).off + 1, none⟩ = some (.int .i64 x1)) (ds := []) #[n_, n_, n_, n_, n_, n_, n_, n_, n_, n_, n_, n_, n_, n_, n_, n_, n_, n_, n_, n_, n_, n_, n_, n_, n_, n_, n_, n_, n_] (by kernel_rfl) rfl rfl ⟨hx0, hx1⟩ (fun hHeld => ?_)
  refine pv_ 0 17 (w_ 29 1) rfl ?_
  refine pv_ 1 18 (w_ 29 3) rfl ?_
  refine pv_ 2 19 (w_ 29 7) rfl ?_
  refine pv_ 3 20 (w_ 29 15) rfl ?_
  refine tb_ 4 21 (w_ 29 31) rfl hHeld (by rintro w' ⟨s0, s1⟩; go_simp; with_reducible rfl) ?_
  refine one_ (i := 5) (N := some 22) (w_ 29 63) rfl rfl (by kernel_rfl) (by decide) (fun K hK => ?_)
  refine goes_ Try.func40 (by kernel_rfl) rfl #[.int .i64 x0] (by rfl) rfl rfl (by simp only [List.map_toArray, List.map_cons, List.map_nil]; rfl) ?_
  with_reducible refine (volume_calls HV0.out _).mono ?_
  rintro e w3 ⟨rfl, hdr⟩
  refine ⟨_, rfl, ?_⟩
  have hb := hdr.below
  have HB1 := Aside0.mk (below_step (below_drew (Below.refl _ _)) hb)
  refine hK.out _ _ ⟨(hb.cell (World.block_lt_of_cell? _ _ hHeld.1)).trans hHeld.1, (hb.cell (World.block_lt_of_cell? _ _ hHeld.2)).trans hHeld.2⟩ (fun hHeld => ?_)
  clear hK K
  refine norm_ (a' := ?_) ?_ ?_
  rotate_left
  ·show Act.put _ (some 22) _ = _
   simp only [Act.put, sI_, s0_, sS_, i64_w, i32_w]
   rfl
  refine pv_ 6 23 (w_ 29 127) rfl ?_
  refine pv_ 7 24 (w_ 29 255) rfl ?_
  refine pv_ 8 25 (w_ 29 511) rfl ?_
  refine pv_ 9 26 (w_ 29 1023) rfl ?_
  refine pv_ 10 27 (w_ 29 2047) rfl ?_
  refine pv_ 11 28 (w_ 29 4095) rfl ?_
  refine tb_ 12 29 (w_ 29 8191) rfl hHeld (by rintro w' ⟨s0, s1⟩; go_simp; with_reducible rfl) ?_
  refine one_ (i := 13) (N := some 30) (w_ 29 16383) rfl rfl (by kernel_rfl) (by decide) (fun K hK => ?_)
  refine goes_ Try.func40 (by kernel_rfl) rfl #[.int .i64 x1] (by rfl) rfl rfl (by simp only [List.map_toArray, List.map_cons, List.map_nil]; rfl) ?_
  with_reducible refine (volume_calls HV1.out _).mono ?_
  rintro e w3 ⟨rfl, hdr⟩
  refine ⟨_, rfl, ?_⟩
  have hb := hdr.below
  have HBF := Aside0.mk (below_step HB1.out hb)
  refine hK.out _ _ ⟨(hb.cell (World.block_lt_of_cell? _ _ hHeld.1)).trans hHeld.1, (hb.cell (World.block_lt_of_cell? _ _ hHeld.2)).trans hHeld.2⟩ (fun hHeld => ?_)
  clear hK K
  refine norm_ (a' := ?_) ?_ ?_
  rotate_left
  ·show Act.put _ (some 30) _ = _
   simp only [Act.put, sI_, s0_, sS_, i64_w, i32_w]
   rfl
  refine pv_ 14 31 (w_ 29 32767) rfl ?_
  refine pv_ 15 32 (w_ 29 65535) rfl ?_
  refine pv_ 16 33 (w_ 29 131071) rfl ?_
  refine pv_ 17 34 (w_ 29 262143) rfl ?_
  refine pv_ 18 35 (w_ 29 524287) rfl ?_
  refine pv_ 19 36 (w_ 29 1048575) rfl ?_
  refine pv_ 20 37 (w_ 29 2097151) rfl ?_
  refine pv_ 22 39 (w_ 29 6291455) rfl ?_
  refine pv_ 23 40 (w_ 29 14680063) rfl ?_
  refine pv_ 24 41 (w_ 29 31457279) rfl ?_
  refine pv_ 25 42 (w_ 29 65011711) rfl ?_
  refine tb_ 21 38 (w_ 29 67108863) rfl hHeld (by rintro w' ⟨s0, s1⟩; go_simp; with_reducible rfl) ?_
  refine tb_ 26 43 (w_ 29 134217727) rfl hHeld (by rintro w' ⟨s0, s1⟩; go_simp; with_reducible rfl) ?_
  refine pv_ 27 44 (w_ 29 268435455) rfl ?_
  refine pv_ 28 45 (w_ 29 536870911) rfl ?_
  refine done_ (by kernel_rfl) ?_
  go_wp2
  go_roundg (gk - 1)
  case measure => have := HM.out; have := HI2.out; omega
  case rel =>
   refine ⟨n + 1, ?_, ⟨by have := HM.out; have := HI2.out; omega⟩, ⟨fun j hj => ?_⟩, ⟨HB.out.trans (HBF.out.mono HB.out.size)⟩⟩
   ·have := HI2.out
    first | (rw [show ((n + 1 : Nat) : Int) = i + 1 from by omega]; done) | (simp; omega)
   ·by_cases hj' : j < n
    ·exact HOK.out j hj'
    ·rw [show j = n by omega, ← HNI.out]
     exact HG.out
end
section
def cohousingref30_check.j0 : Nat → List (S44) → Bool → Option (Int)
 | 0, _, _ => none
 | k + 1, x0, x23 => if x23 = true then (some 1) else (if (x0.length : Int) > 40 then (some 2) else (some 0))
def cohousingref30_check.f (k : Nat) (l0 : List (S44)) (l1 : List (S46)) (a2 : Int) : Option (Int) := (cohousingref28_Valid.f k l0).bind fun t183 => (if t183 = true then ((cohousingref28_Belongs.f l0 l1).bind fun t184 => (if t184 = true then (if a2 < 0 then (cohousingref30_check.j0 k l0 true) else (cohousingref30_check.j0 k l0 (decide (a2 > 3)))) else (cohousingref30_check.j0 k l0 true))) else (cohousingref30_check.j0 k l0 true))
theorem cohousingref30_check.mono_l : ∀ k, (∀ y0 y1, LeO (cohousingref30_check.j0 k y0 y1) (cohousingref30_check.j0 (k + 1) y0 y1))
 | 0 => fun _ _ r h => by simp [cohousingref30_check.j0] at h
 | k + 1 => by
  have ih0 := cohousingref30_check.mono_l k
  ·intro y0 y1
   unfold cohousingref30_check.j0
   repeat' first
   | (with_reducible exact ih0 _ _)
   | (with_reducible exact cohousingref28_Valid.mono _ _)
   | (with_reducible exact LeO.refl _)
   | (with_reducible exact LeO.none _)
   | (with_reducible refine LeO.ite ?_ ?_)
   | (with_reducible refine LeO.bind ?_ (fun _ => ?_))
   | exact ih0 _ _
   | exact cohousingref28_Valid.mono _ _
   | exact LeO.none _
   | refine LeO.ite ?_ ?_
   | refine LeO.bind ?_ (fun _ => ?_)
theorem cohousingref30_check.mono : ∀ a0 a1 a2 k, LeO (cohousingref30_check.f k a0 a1 a2) (cohousingref30_check.f (k + 1) a0 a1 a2) := by
 intro a0 a1 a2 k
 have ih0 := cohousingref30_check.mono_l k
 unfold cohousingref30_check.f
 repeat' first
   | (with_reducible exact ih0 _ _)
   | (with_reducible exact cohousingref28_Valid.mono _ _)
   | (with_reducible exact LeO.refl _)
   | (with_reducible exact LeO.none _)
   | (with_reducible refine LeO.ite ?_ ?_)
   | (with_reducible refine LeO.bind ?_ (fun _ => ?_))
   | exact ih0 _ _
   | exact cohousingref28_Valid.mono _ _
   | exact LeO.none _
   | refine LeO.ite ?_ ?_
   | refine LeO.bind ?_ (fun _ => ?_)
theorem cohousingref30_check.calls (k : Nat) (A0 : Option Addr) (c0 : Nat) (l0 : List (S44)) (A1 : Option Addr) (c1 : Nat) (l1 : List (S46)) (a2 : Int) (r : Int) (w : World) (hr0 : Kd.C k44 w A0 l0.length l0) (hc0 : l0.length ≤ c0) (hr1 : Kd.C k46 w A1 l1.length l1) (hc1 : l1.length ≤ c1) (h : cohousingref30_check.f k l0 l1 a2 = some r) :
  Calls Try.prog 28 #[.slice A0 l0.length c0, .slice A1 l1.length c1, .int .i64 a2] w fun e w' => e = .returned (.int .i64 r) ∧ Below w.heap.size w w' := by
 have HR0 := Aside0.mk hr0
 have HC0 := Aside0.mk hc0
 clear hr0 hc0
 have HR1 := Aside0.mk hr1
 have HC1 := Aside0.mk hc1
 clear hr1 hc1
 have HB := Aside0.mk (Below.refl w.heap.size w)
 have H : ((cohousingref28_Valid.f k l0).bind fun t183 => (if t183 = true then ((cohousingref28_Belongs.f l0 l1).bind fun t184 => (if t184 = true then (if a2 < 0 then (cohousingref30_check.j0 k l0 true) else (cohousingref30_check.j0 k l0 (decide (a2 > 3)))) else (cohousingref30_check.j0 k l0 true))) else (cohousingref30_check.j0 k l0 true))) = some r := h
 clear h
 have HC4 := Aside0.mk H
 clear H
 go_enter Try.func28, Try.ntmps28
 go_upto_region 1 with (fail)
 go_cut [23] (fun v23 wc => ∃ (kq : Nat) (x23_3 : Bool), v23 = .bool x23_3 ∧ Aside0 (cohousingref30_check.j0 kq l0 x23_3 = some r) ∧ Aside0 (kq ≤ k) ∧ Aside0 (Below w.heap.size w wc))
 case first =>
  have H := HC4.out
  clear HC4
  replace H := Option.bind_eq_some_iff.mp H
  obtain ⟨t183, A50, H⟩ := H
  replace H : (if t183 = true then ((cohousingref28_Belongs.f l0 l1).bind fun t184 => (if t184 = true then (if a2 < 0 then (cohousingref30_check.j0 k l0 true) else (cohousingref30_check.j0 k l0 (decide (a2 > 3)))) else (cohousingref30_check.j0 k l0 true))) else (cohousingref30_check.j0 k l0 true)) = some r := H
  have A5 := Aside0.mk A50
  clear A50
  by_cases c6 : t183 = true
  ·subst c6
   have H1 : ((cohousingref28_Belongs.f l0 l1).bind fun t184 => (if t184 = true then (if a2 < 0 then (cohousingref30_check.j0 k l0 true) else (cohousingref30_check.j0 k l0 (decide (a2 > 3)))) else (cohousingref30_check.j0 k l0 true))) = some r := by rw [if_pos rfl] at H; exact H
   clear H
   have H := H1
   clear H1
   replace H := Option.bind_eq_some_iff.mp H
   obtain ⟨t184, A70, H⟩ := H
   replace H : (if t184 = true then (if a2 < 0 then (cohousingref30_check.j0 k l0 true) else (cohousingref30_check.j0 k l0 (decide (a2 > 3)))) else (cohousingref30_check.j0 k l0 true)) = some r := H
   have A7 := Aside0.mk A70
   clear A70
   by_cases c8 : t184 = true
   ·subst c8
    have H1 : (if a2 < 0 then (cohousingref30_check.j0 k l0 true) else (cohousingref30_check.j0 k l0 (decide (a2 > 3)))) = some r := by rw [if_pos rfl] at H; exact H
    clear H
    have H := H1
    clear H1
    by_cases c9 : a2 < 0
    ·rw [if_pos c9] at H
     have c9b0 : decide (a2 < 0) = true := decide_eq_true c9
     clear c9
     (first | rw [c9b0] | (simp only [i64_w, i32_w]; rw [c9b0]) | skip)
     have H' := Aside0.mk H
     clear H
     go_wp2_with (first | ((with_reducible refine gate_callee (f := 23) rfl ?_); refine gl_ (some 8) Try.func23 #[.slice A0 l0.length c0] ?_; (with_reducible refine (cohousingref28_Valid.calls k _ _ l0 true _ ?side1 ?side2 A5.out).mono ?_); (case side1 => exact cc_ ((Kd.C_below HR0.out HB.out))); (case side2 => exact HC0.out); rintro e w10 ⟨rfl, hb⟩; refine ⟨_, rfl, ?_⟩; have n0_ := Aside0.mk (below_step (bb_ HB) hb); clear HB; have HB := n0_; clear n0_; (try clear hb); (try clear hb2); (try clear hk); (try clear hi)) | (go_at_call 34; (with_reducible refine (cohousingref28_Belongs.calls _ _ l0 _ _ l1 true _ ?side1 ?side2 ?side3 ?side4 A7.out).mono ?_); (case side1 => exact cc_ ((Kd.C_below HR0.out HB.out))); (case side2 => exact HC0.out); (case side3 => exact cc_ ((Kd.C_below HR1.out HB.out))); (case side4 => exact HC1.out); rintro e w11 ⟨rfl, hb⟩; have n0_ := Aside0.mk (below_step (bb_ HB) hb); clear HB; have HB := n0_; clear n0_; (try clear hb); (try clear hb2); (try clear hk); (try clear hi)))
     go_meet
     case rel => exact ⟨_, (true), sd_, H', ⟨by first | omega | exact Nat.le_refl _⟩, ⟨by repeat (first | (with_reducible first | exact HB.out | apply below_alloc | apply pw_below_drewN | apply below_drew1) | exact HB.out)⟩⟩
    ·rw [if_neg c9] at H
     have c9b0 : decide (a2 < 0) = false := decide_eq_false c9
     clear c9
     (first | rw [c9b0] | (simp only [i64_w, i32_w]; rw [c9b0]) | skip)
     have H' := Aside0.mk H
     clear H
     go_wp2_with (first | ((with_reducible refine gate_callee (f := 23) rfl ?_); refine gl_ (some 8) Try.func23 #[.slice A0 l0.length c0] ?_; (with_reducible refine (cohousingref28_Valid.calls k _ _ l0 true _ ?side1 ?side2 A5.out).mono ?_); (case side1 => exact cc_ ((Kd.C_below HR0.out HB.out))); (case side2 => exact HC0.out); rintro e w12 ⟨rfl, hb⟩; refine ⟨_, rfl, ?_⟩; have n0_ := Aside0.mk (below_step (bb_ HB) hb); clear HB; have HB := n0_; clear n0_; (try clear hb); (try clear hb2); (try clear hk); (try clear hi)) | (go_at_call 34; (with_reducible refine (cohousingref28_Belongs.calls _ _ l0 _ _ l1 true _ ?side1 ?side2 ?side3 ?side4 A7.out).mono ?_); (case side1 => exact cc_ ((Kd.C_below HR0.out HB.out))); (case side2 => exact HC0.out); (case side3 => exact cc_ ((Kd.C_below HR1.out HB.out))); (case side4 => exact HC1.out); rintro e w13 ⟨rfl, hb⟩; have n0_ := Aside0.mk (below_step (bb_ HB) hb); clear HB; have HB := n0_; clear n0_; (try clear hb); (try clear hb2); (try clear hk); (try clear hi)))
     go_meet
     case rel => exact ⟨_, (decide (a2 > 3)), sd_, H', ⟨by first | omega | exact Nat.le_refl _⟩, ⟨by repeat (first | (with_reducible first | exact HB.out | apply below_alloc | apply pw_below_drewN | apply below_drew1) | exact HB.out)⟩⟩
   ·replace c8 := Bool.eq_false_iff.mpr c8
    subst c8
    have H1 : (cohousingref30_check.j0 k l0 true) = some r := by rw [if_neg (show ¬ (false = true) by decide)] at H; exact H
    clear H
    have H := H1
    clear H1
    have H' := Aside0.mk H
    clear H
    go_wp2_with (first | ((with_reducible refine gate_callee (f := 23) rfl ?_); refine gl_ (some 8) Try.func23 #[.slice A0 l0.length c0] ?_; (with_reducible refine (cohousingref28_Valid.calls k _ _ l0 true _ ?side1 ?side2 A5.out).mono ?_); (case side1 => exact cc_ ((Kd.C_below HR0.out HB.out))); (case side2 => exact HC0.out); rintro e w14 ⟨rfl, hb⟩; refine ⟨_, rfl, ?_⟩; have n0_ := Aside0.mk (below_step (bb_ HB) hb); clear HB; have HB := n0_; clear n0_; (try clear hb); (try clear hb2); (try clear hk); (try clear hi)) | (go_at_call 34; (with_reducible refine (cohousingref28_Belongs.calls _ _ l0 _ _ l1 false _ ?side1 ?side2 ?side3 ?side4 A7.out).mono ?_); (case side1 => exact cc_ ((Kd.C_below HR0.out HB.out))); (case side2 => exact HC0.out); (case side3 => exact cc_ ((Kd.C_below HR1.out HB.out))); (case side4 => exact HC1.out); rintro e w15 ⟨rfl, hb⟩; have n0_ := Aside0.mk (below_step (bb_ HB) hb); clear HB; have HB := n0_; clear n0_; (try clear hb); (try clear hb2); (try clear hk); (try clear hi)))
    go_meet
    case rel => exact ⟨_, (true), sd_, H', ⟨by first | omega | exact Nat.le_refl _⟩, ⟨by repeat (first | (with_reducible first | exact HB.out | apply below_alloc | apply pw_below_drewN | apply below_drew1) | exact HB.out)⟩⟩
  ·replace c6 := Bool.eq_false_iff.mpr c6
   subst c6
   have H1 : (cohousingref30_check.j0 k l0 true) = some r := by rw [if_neg (show ¬ (false = true) by decide)] at H; exact H
   clear H
   have H := H1
   clear H1
   have H' := Aside0.mk H
   clear H
   go_wp2_with (first | ((with_reducible refine gate_callee (f := 23) rfl ?_); refine gl_ (some 8) Try.func23 #[.slice A0 l0.length c0] ?_; (with_reducible refine (cohousingref28_Valid.calls k _ _ l0 false _ ?side1 ?side2 A5.out).mono ?_); (case side1 => exact cc_ ((Kd.C_below HR0.out HB.out))); (case side2 => exact HC0.out); rintro e w16 ⟨rfl, hb⟩; refine ⟨_, rfl, ?_⟩; have n0_ := Aside0.mk (below_step (bb_ HB) hb); clear HB; have HB := n0_; clear n0_; (try clear hb); (try clear hb2); (try clear hk); (try clear hi)))
   go_meet
   case rel => exact ⟨_, (true), sd_, H', ⟨by first | omega | exact Nat.le_refl _⟩, ⟨by repeat (first | (with_reducible first | exact HB.out | apply below_alloc | apply pw_below_drewN | apply below_drew1) | exact HB.out)⟩⟩
 case rest =>
  clear HC4
  try clear c1
  try clear c2
  try clear p2
  try clear c6
  try clear c8
  try clear c9
  try clear c9b0
  obtain ⟨kq, x23_3, rfl, HA, HJ3, HB⟩ := hcut
  cases kq with
  | zero => exact absurd HA.out (by simp [cohousingref30_check.j0])
  | succ kj3 =>
   have H := HA.out
   clear HA
   simp only [cohousingref30_check.j0] at H
   by_cases c17 : x23_3 = true
   ·subst c17
    have H1 : (some 1) = some r := by rw [if_pos rfl] at H; exact H
    clear H
    have H := H1
    clear H1
    obtain rfl := Option.some.inj H
    go_wp2
    go_ret
    exact ⟨ew_, by repeat (first | (with_reducible first | exact HB.out | apply below_alloc | apply pw_below_drewN | apply below_drew1) | exact HB.out)⟩
   ·replace c17 := Bool.eq_false_iff.mpr c17
    subst c17
    have H1 : (if (l0.length : Int) > 40 then (some 2) else (some 0)) = some r := by rw [if_neg (show ¬ (false = true) by decide)] at H; exact H
    clear H
    have H := H1
    clear H1
    by_cases c18 : (l0.length : Int) > 40
    ·rw [if_pos c18] at H
     have c18b0 : decide (40 < (l0.length : Int)) = true := decide_eq_true c18
     have c18b1 : decide (40 < l0.length) = true := decide_eq_true (by omega)
     clear c18
     obtain rfl := Option.some.inj H
     go_wp2
     go_ret
     exact ⟨ew_, by repeat (first | (with_reducible first | exact HB.out | apply below_alloc | apply pw_below_drewN | apply below_drew1) | exact HB.out)⟩
    ·rw [if_neg c18] at H
     have c18b0 : decide (40 < (l0.length : Int)) = false := decide_eq_false c18
     have c18b1 : decide (40 < l0.length) = false := decide_eq_false (by omega)
     clear c18
     obtain rfl := Option.some.inj H
     go_wp2
     go_ret
     exact ⟨ew_, by repeat (first | (with_reducible first | exact HB.out | apply below_alloc | apply pw_below_drewN | apply below_drew1) | exact HB.out)⟩
end
section
def cohousingref30_first.l0 : Nat → Int → List Int → Int → Option (List Int)
 | 0, _, _, _ => none
 | k + 1, x0, x3, x4 => if x4 < x0 then (if x3.length < 17592186044416 then (cohousingref30_first.l0 k x0 (x3 ++ [x4]) (wrap64 (x4 + 1))) else (none)) else (some x3)
def cohousingref30_first.f (k : Nat) (a0 : Int) : Option (List Int) := cohousingref30_first.l0 k a0 ([] : List Int) 0
theorem cohousingref30_first.mono_l : ∀ k, (∀ y0 y1 y2, LeO (cohousingref30_first.l0 k y0 y1 y2) (cohousingref30_first.l0 (k + 1) y0 y1 y2))
 | 0 => fun _ _ _ r h => by simp [cohousingref30_first.l0] at h
 | k + 1 => by
  have ih0 := cohousingref30_first.mono_l k
  ·intro y0 y1 y2
   unfold cohousingref30_first.l0
   repeat' first
   | (with_reducible exact ih0 _ _ _)
   | (with_reducible exact LeO.refl _)
   | (with_reducible exact LeO.none _)
   | (with_reducible refine LeO.ite ?_ ?_)
   | (with_reducible refine LeO.bind ?_ (fun _ => ?_))
   | exact ih0 _ _ _
   | exact LeO.none _
   | refine LeO.ite ?_ ?_
   | refine LeO.bind ?_ (fun _ => ?_)
theorem cohousingref30_first.mono : ∀ a0 k, LeO (cohousingref30_first.f k a0) (cohousingref30_first.f (k + 1) a0) := by
 intro a0 k
 have ih0 := cohousingref30_first.mono_l k
 unfold cohousingref30_first.f
 repeat' first
   | (with_reducible exact ih0 _ _ _)
   | (with_reducible exact LeO.refl _)
   | (with_reducible exact LeO.none _)
   | (with_reducible refine LeO.ite ?_ ?_)
   | (with_reducible refine LeO.bind ?_ (fun _ => ?_))
   | exact ih0 _ _ _
   | exact LeO.none _
   | refine LeO.ite ?_ ?_
   | refine LeO.bind ?_ (fun _ => ?_)
theorem cohousingref30_first.calls (k : Nat) (a0 : Int) (r : List Int) (w : World) (h : cohousingref30_first.f k a0 = some r) :
  Calls Try.prog 59 #[.int .i64 a0] w fun e w' => ∃ v0_ : Value, e = .returned (v0_) ∧ Kd.R (Kd.int .i64) 3 w' w.heap.size (fun _ => True) v0_ r ∧ Below w.heap.size w w' := by
 have HB := Aside0.mk (Below.refl w.heap.size w)
 have H : (cohousingref30_first.l0 k a0 ([] : List Int) 0) = some r := h
 clear h
 have H' := Aside0.mk H
 clear H
 go_enter Try.func59, Try.ntmps59
 go_wp2
 go_loopg [3, 4] k (fun kq v3 v4 w' => ∃ (x3_1 : List Int) (x4_1 : Int), v4 = .int .i64 x4_1 ∧ Aside0 (cohousingref30_first.l0 kq a0 x3_1 x4_1 = some r) ∧ Aside0 (kq ≤ k) ∧ Aside0 (Kd.R (Kd.int .i64) 3 w' w.heap.size (fun _ => True) v3 x3_1) ∧ Aside0 (Below w.heap.size w w'))
 case atStart => exact ⟨(([] : List Int)), (0), sd_, H', ⟨Nat.le_refl _⟩, ⟨by first | exact Kd.R_nil _ _ _ _ _ | exact Kd.N_nil _ _ _ _ _ | exact Kd.V_nil _ _ _ _ _ | exact Kd.Q_nil _ _ _ _ _ | exact Kd.S_nil _ _ _ _ _⟩, ⟨by repeat (first | (with_reducible first | exact HB.out | apply below_alloc | apply pw_below_drewN | apply below_drew1) | exact HB.out)⟩⟩
 case round =>
  clear H'
  obtain ⟨x3_1, x4_1, rfl, HA, HK1, HO_3, HB⟩ := hrel
  cases gk with
  | zero => exact absurd HA.out (by simp [cohousingref30_first.l0])
  | succ k1 =>
   have H := HA.out
   clear HA
   simp only [cohousingref30_first.l0] at H
   by_cases c2 : x4_1 < a0
   ·rw [if_pos c2] at H
    have c2b0 : decide (x4_1 < a0) = true := decide_eq_true c2
    clear c2
    by_cases c3 : x3_1.length < 17592186044416
    ·rw [if_pos c3] at H
     have LMc3 := Aside0.mk c3
     clear c3
     obtain ⟨y185, hy185⟩ : ∃ y_ : List Int, y_ = (x3_1 ++ [x4_1]) := ⟨_, rfl⟩
     replace H : (cohousingref30_first.l0 k1 a0 y185 (wrap64 (x4_1 + 1))) = some r := by first | (rw [hy185]; with_reducible exact H) | (have H2_ := (Option.bind_some _ _).symm.trans H; rw [hy185]; with_reducible exact H2_) | (have H2_ := (Option.bind_some _ _).symm.trans H; with_reducible exact H2_) | with_reducible exact H | (rw [hy185]; exact H) | exact H
     have Ny185 := Aside0.mk hy185
     clear hy185
     have H' := Aside0.mk H
     clear H
     go_wp2_with (first | ((with_reducible refine gate_builtin (b := .append) (xs := #[.tmp 10, .tmp 12]) rfl ?_); at_builtin; refine Kd.R_append (Kd.int .i64) (w0 := w) w.heap.size rfl (.tmp 10) (.tmp 12) 26 3 (.int .i64 0) 8 rfl Try.underlying26 info3 rfl (by decide) (by omega) u3 x3_1 x4_1 [.int .i64 x4_1] (fun _ => True) (fun _ => False) rfl rfl ?aP (fun _ hk => hk.elim) ?aF ?aO ?aB ?aS ?aL ?_; (case aP => exact rfl); (case aB => exact (bb_ HB)); (case aF => exact (fun _ _ => trivial)); (case aO => exact (rr_ HO_3)); (case aS => exact (below_size (bb_ HB))); (case aL => have := LMc3.out; omega); intro v186 w4 ho hb hg hat; rw [← Ny185.out] at ho; have n0_ := Aside0.mk (hb); have n1_ := Aside0.mk (ho); clear HB; clear HO_3; have HB := n0_; have HO187 := n1_; clear n0_ n1_; clear ho hb hg hat))
     go_roundg k1
     case measure => have := HK1.out; omega
     case rel => exact ⟨(y185), (wrap64 (x4_1 + 1)), sd_, H', ⟨by have := HK1.out; omega⟩, ⟨by (with_reducible repeat (first | apply Kd.R_alloc | apply Kd.R_drewN | apply Kd.R_drew)); exact HO187.out⟩, ⟨by repeat (first | (with_reducible first | exact HB.out | apply below_alloc | apply pw_below_drewN | apply below_drew1) | exact HB.out)⟩⟩
    ·rw [if_neg c3] at H
     exact absurd H (by simp)
   ·rw [if_neg c2] at H
    have c2b0 : decide (x4_1 < a0) = false := decide_eq_false c2
    clear c2
    obtain rfl := Option.some.inj H
    go_wp2
    go_ret
    exact ⟨_, ew_, by (with_reducible repeat (first | apply Kd.R_alloc | apply Kd.R_drewN | apply Kd.R_drew)); exact HO_3.out, by repeat (first | (with_reducible first | exact HB.out | apply below_alloc | apply pw_below_drewN | apply below_drew1) | exact HB.out)⟩
end
section
def cohousingref30_Leaking.l0 : Nat → List Int → List (S44) → Int → Option ((List (S44)))
 | 0, _, _, _ => none
 | k + 1, x1, x5, x6 => if x6 < (x1.length : Int) then (if 0 ≤ x6 then (if 0 ≤ (rd x1 x6) then (if (rd x1 x6) < (x5.length : Int) then (cohousingref30_Leaking.l0 k x1 (x5.set ((rd x1 x6) : Int).toNat (⟨(rd_T44 x5 (rd x1 x6)).f0, (rd_T44 x5 (rd x1 x6)).f1, 1000000000⟩ : S44)) (wrap64 (x6 + 1))) else (none)) else (none)) else (none)) else (some x5)
def cohousingref30_Leaking.f (k : Nat) (l0 : List (S44)) (l1 : List Int) : Option ((List (S44))) := if ([] : List (S44)).length + l0.length < 5864062014805 then (cohousingref30_Leaking.l0 k l1 (([] : List (S44)) ++ l0) 0) else (none)
theorem cohousingref30_Leaking.mono_l : ∀ k, (∀ y0 y1 y2, LeO (cohousingref30_Leaking.l0 k y0 y1 y2) (cohousingref30_Leaking.l0 (k + 1) y0 y1 y2))
 | 0 => fun _ _ _ r h => by simp [cohousingref30_Leaking.l0] at h
 | k + 1 => by
  have ih0 := cohousingref30_Leaking.mono_l k
  ·intro y0 y1 y2
   unfold cohousingref30_Leaking.l0
   repeat' first
   | (with_reducible exact ih0 _ _ _)
   | (with_reducible exact LeO.refl _)
   | (with_reducible exact LeO.none _)
   | (with_reducible refine LeO.ite ?_ ?_)
   | (with_reducible refine LeO.bind ?_ (fun _ => ?_))
   | exact ih0 _ _ _
   | exact LeO.none _
   | refine LeO.ite ?_ ?_
   | refine LeO.bind ?_ (fun _ => ?_)
theorem cohousingref30_Leaking.mono : ∀ a0 a1 k, LeO (cohousingref30_Leaking.f k a0 a1) (cohousingref30_Leaking.f (k + 1) a0 a1) := by
 intro a0 a1 k
 have ih0 := cohousingref30_Leaking.mono_l k
 unfold cohousingref30_Leaking.f
 repeat' first
   | (with_reducible exact ih0 _ _ _)
   | (with_reducible exact LeO.refl _)
   | (with_reducible exact LeO.none _)
   | (with_reducible refine LeO.ite ?_ ?_)
   | (with_reducible refine LeO.bind ?_ (fun _ => ?_))
   | exact ih0 _ _ _
   | exact LeO.none _
   | refine LeO.ite ?_ ?_
   | refine LeO.bind ?_ (fun _ => ?_)
theorem cohousingref30_Leaking.calls (k : Nat) (A0 : Option Addr) (c0 : Nat) (l0 : List (S44)) (A1 : Option Addr) (c1 : Nat) (l1 : List Int) (r : List (S44)) (w : World) (hr0 : Kd.C k44 w A0 l0.length l0) (hc0 : l0.length ≤ c0) (hr1 : Kd.C (Kd.int .i64) w A1 l1.length l1) (hc1 : l1.length ≤ c1) (h : cohousingref30_Leaking.f k l0 l1 = some r) :
  Calls Try.prog 35 #[.slice A0 l0.length c0, .slice A1 l1.length c1] w fun e w' => ∃ v0_ : Value, e = .returned (v0_) ∧ Kd.R k44 44 w' w.heap.size (fun _ => True) v0_ r ∧ Below w.heap.size w w' := by
 have HR0 := Aside0.mk hr0
 have HC0 := Aside0.mk hc0
 clear hr0 hc0
 have HR1 := Aside0.mk hr1
 have HC1 := Aside0.mk hc1
 clear hr1 hc1
 have HB := Aside0.mk (Below.refl w.heap.size w)
 have H : (if ([] : List (S44)).length + l0.length < 5864062014805 then (cohousingref30_Leaking.l0 k l1 (([] : List (S44)) ++ l0) 0) else (none)) = some r := h
 clear h
 by_cases c3 : ([] : List (S44)).length + l0.length < 5864062014805
 ·rw [if_pos c3] at H
  have LMc3 := Aside0.mk c3
  clear c3
  obtain ⟨y188, hy188⟩ : ∃ y_ : List (S44), y_ = (([] : List (S44)) ++ l0) := ⟨_, rfl⟩
  replace H : (cohousingref30_Leaking.l0 k l1 y188 0) = some r := by first | (rw [hy188]; with_reducible exact H) | (have H2_ := (Option.bind_some _ _).symm.trans H; rw [hy188]; with_reducible exact H2_) | (have H2_ := (Option.bind_some _ _).symm.trans H; with_reducible exact H2_) | with_reducible exact H | (rw [hy188]; exact H) | exact H
  have Ny188 := Aside0.mk hy188
  clear hy188
  have H' := Aside0.mk H
  clear H
  go_enter Try.func35, Try.ntmps35
  go_wp2_with (first | ((with_reducible refine gate_builtin (b := .append) (xs := #[.tmp 7, .tmp 8]) rfl ?_); at_builtin; refine Kd.R_append_rows k44 (w0 := w) w.heap.size rfl (.tmp 7) (.tmp 8) 22 44 (.agg #[(.int .i64 0), (.int .i64 0), (.int .i64 0)]) 24 rfl Try.underlying22 info44 rfl (by decide) (by omega) (.slice none 0 0) ([] : List (S44)) l0 _ _ _ (fun _ => True) (fun _ => False) rfl rfl ?aO ?aR (fun _ _ h => h) (fun _ h => h.elim) ?aF ?aB ?aS ?aL ?_; (case aR => exact cc_ (HR0.out)); (case aB => exact (bb_ HB)); (case aF => exact (fun _ _ => trivial)); (case aO => exact ((Kd.R_nil _ _ _ _ (fun _ => True)))); (case aS => exact (below_size (bb_ HB))); (case aL => have := LMc3.out; omega); intro v189 w4 ho hb hg hat; rw [← Ny188.out] at ho; have n0_ := Aside0.mk (hb); have n1_ := Aside0.mk (ho); clear HB; have HB := n0_; have HO190 := n1_; clear n0_ n1_; clear ho hb hg hat))
  go_loopg [6] k (fun kq v6 w' => ∃ (x5_1 : List (S44)) (x6_1 : Int), v6 = .int .i64 x6_1 ∧ Aside0 (cohousingref30_Leaking.l0 kq l1 x5_1 x6_1 = some r) ∧ Aside0 (kq ≤ k) ∧ Aside0 (Kd.R k44 44 w' w.heap.size (fun _ => True) v189 x5_1) ∧ Aside0 (Below w.heap.size w w'))
  case atStart => exact ⟨(y188), (0), sd_, H', ⟨Nat.le_refl _⟩, ⟨by (with_reducible repeat (first | apply Kd.R_alloc | apply Kd.R_drewN | apply Kd.R_drew)); exact HO190.out⟩, ⟨by repeat (first | (with_reducible first | exact HB.out | apply below_alloc | apply pw_below_drewN | apply below_drew1) | exact HB.out)⟩⟩
  case round =>
   clear H'
   try clear c1
   try clear p2
   try clear c3
   obtain ⟨x5_1, x6_1, rfl, HA, HK1, HO_5, HB⟩ := hrel
   cases gk with
   | zero => exact absurd HA.out (by simp [cohousingref30_Leaking.l0])
   | succ k1 =>
    have H := HA.out
    clear HA
    simp only [cohousingref30_Leaking.l0] at H
    by_cases c5 : x6_1 < (l1.length : Int)
    ·rw [if_pos c5] at H
     have c5b0 : decide (x6_1 < (l1.length : Int)) = true := decide_eq_true c5
     clear c5
     by_cases c6 : 0 ≤ x6_1
     ·rw [if_pos c6] at H
      have c6b0 : decide (0 ≤ x6_1) = true := decide_eq_true c6
      clear c6
      by_cases c7 : 0 ≤ (rd l1 x6_1)
      ·rw [if_pos c7] at H
       have c7b0 : decide (0 ≤ (rd l1 x6_1)) = true := decide_eq_true c7
       clear c7
       by_cases c8 : (rd l1 x6_1) < (x5_1.length : Int)
       ·rw [if_pos c8] at H
        have c8b0 : decide ((rd l1 x6_1) < (x5_1.length : Int)) = true := decide_eq_true c8
        clear c8
        obtain ⟨y192, hy192⟩ : ∃ y_ : List (S44), y_ = (x5_1.set ((rd l1 x6_1) : Int).toNat (⟨(rd_T44 x5_1 (rd l1 x6_1)).f0, (rd_T44 x5_1 (rd l1 x6_1)).f1, 1000000000⟩ : S44)) := ⟨_, rfl⟩
        replace H : (cohousingref30_Leaking.l0 k1 l1 y192 (wrap64 (x6_1 + 1))) = some r := by first | (rw [hy192]; with_reducible exact H) | (have H2_ := (Option.bind_some _ _).symm.trans H; rw [hy192]; with_reducible exact H2_) | (have H2_ := (Option.bind_some _ _).symm.trans H; with_reducible exact H2_) | with_reducible exact H | (rw [hy192]; exact H) | exact H
        have Ny192 := Aside0.mk hy192
        clear hy192
        have H' := Aside0.mk H
        clear H
        have p191 : 0 ≤ (x6_1 : Int) := od_
        have q191 : x6_1 < (l1.length : Int) := od_
        obtain ⟨ad191, e191, hx191_0⟩ := Kd.at_int HR1.out x6_1 p191 q191
        cases e191
        replace hx191_0 := (HB.out.cell (World.block_lt_of_cell? w _ hx191_0)).trans hx191_0
        replace p191 := eq_true p191
        replace q191 := eq_true q191
        have p9 : 0 ≤ ((rd l1 x6_1) : Int) := od_
        have q9 : ((rd l1 x6_1) : Int) < ((x5_1.length : Int) : Int) := od_
        obtain ⟨go9, co9, eo9, gb9, gl9, cl9, HG9⟩ := Kd.R_form HO_5.out (by omega)
        (first | cases eo9 | (injection eo9 with ea_ en_ ec_; (first | subst ea_ | (injection ea_ with ea_; subst ea_)); subst ec_; clear en_))
        have GB9 := Aside0.mk gb9
        have GG9 := Aside0.mk HG9
        clear gb9 gl9 HG9
        obtain ⟨ce9, hcl9, hM9, hcc9, hfr9⟩ := Kd.R_elem HO_5.out z44 ((rd l1 x6_1) : Int) p9 q9
        obtain rfl := k44_openM hM9
        have hx9_0 : wr.cell? ⟨go9, ((rd l1 x6_1) : Int).toNat * 3, none⟩ = some (.int .i64 ((rd_T44 x5_1 (rd l1 x6_1)).f0)) := hcc9 0 _ rfl
        have hx9_1 : wr.cell? ⟨go9, ((rd l1 x6_1) : Int).toNat * 3 + 1, none⟩ = some (.int .i64 ((rd_T44 x5_1 (rd l1 x6_1)).f1)) := hcc9 1 _ rfl
        have hx9_2 : wr.cell? ⟨go9, ((rd l1 x6_1) : Int).toNat * 3 + 2, none⟩ = some (.int .i64 ((rd_T44 x5_1 (rd l1 x6_1)).f2)) := hcc9 2 _ rfl
        have hf9_0 : wr.frozen? ⟨go9, ((rd l1 x6_1) : Int).toNat * 3, none⟩ = false := hfr9 0
        have hf9_1 : wr.frozen? ⟨go9, ((rd l1 x6_1) : Int).toNat * 3 + 1, none⟩ = false := hfr9 1
        have hf9_2 : wr.frozen? ⟨go9, ((rd l1 x6_1) : Int).toNat * 3 + 2, none⟩ = false := hfr9 2
        clear hcl9 hcc9 hfr9 hM9
        replace p9 := eq_true p9
        replace q9 := eq_true q9
        have HX10 := Aside0.mk (show Kd.R k44 44 wr w.heap.size (fun _ => True) (.slice (some ⟨go9, 0, none⟩) x5_1.length co9) x5_1 from (rr_ HO_5))
        obtain ⟨ce10, hcl10, hM10, hcc10, hfr10⟩ := Kd.R_elem HX10.out z44 ((rd l1 x6_1) : Int) (od_) (by have h_ : ((rd l1 x6_1) : Int) < ((x5_1.length : Int) : Int) := od_; first | exact h_ | (have e_ := (Kd.R_reads' HO_5.out).1; omega) | simpa using h_)
        obtain rfl := k44_openM hM10
        have HP10 := Kd.R_seg HX10.out ((rd l1 x6_1) : Int) (od_) (by have h_ : ((rd l1 x6_1) : Int) < ((x5_1.length : Int) : Int) := od_; first | exact h_ | (have e_ := (Kd.R_reads' HO_5.out).1; omega) | simpa using h_) (seg := [.int .i64 1000000000]) (j := 2) hcl10 hcc10 (show 3 ≤ 3 from by decide) (x' := (⟨(rd_T44 x5_1 (rd l1 x6_1)).f0, (rd_T44 x5_1 (rd l1 x6_1)).f1, 1000000000⟩ : S44)) (k44_mkM _ _ _ (⟨(rd_T44 x5_1 (rd l1 x6_1)).f0, (rd_T44 x5_1 (rd l1 x6_1)).f1, 1000000000⟩ : S44) ) (fun _ hk => hk)
        have hx10_2 := hcc10 2 _ rfl
        (try simp only [show (k44).sz = 3 from rfl, Nat.mul_one, Nat.add_zero] at hx10_2)
        have hf10_2 := hfr10 2
        (try simp only [show (k44).sz = 3 from rfl, Nat.mul_one, Nat.add_zero] at hf10_2)
        clear hcl10 hcc10 hfr10 hM10
        go_wp2_with (first | ((with_reducible refine gate_store (t := 3) (p := 22) rfl ?_); refine store_event (t := 3) (p := 22) (v := ?vo_w11) (w1 := (wr.setCell ⟨go9, ((rd l1 x6_1) : Int).toNat * 3 + 2, none⟩ (.int .i64 1000000000))) ?hg ?ho ?hn ?hr ?_; (case ho => rfl); (case hg => rfl); (case hn => rfl); (case hr => first | (go_simp; done) | (go_simp; rfl)); intro w11 hw; have hg : wr.grownBy w11 (some go9) := (by rw [hw]; exact HP10.2); have hp_ : Kd.R k44 44 w11 w.heap.size (fun _ => True) (.slice (some ⟨go9, 0, none⟩) x5_1.length co9) y192 := (by rw [hw, Ny192.out]; exact HP10.1); clear HP10; have n0_ := Aside0.mk (hp_); have n1_ := Aside0.mk ((by rw [hw]; exact below_set (HB.out) GB9.out : Below w.heap.size w w11)); clear HO_5; clear HB; have HO_5 := n0_; have HB := n1_; clear n0_ n1_; clear hg hw hp_))
        go_roundg k1
        case measure => have := HK1.out; omega
        case rel => exact ⟨(y192), (wrap64 (x6_1 + 1)), sd_, H', ⟨by have := HK1.out; omega⟩, ⟨by (with_reducible repeat (first | apply Kd.R_alloc | apply Kd.R_drewN | apply Kd.R_drew)); exact HO_5.out⟩, ⟨by repeat (first | (with_reducible first | exact HB.out | apply below_alloc | apply pw_below_drewN | apply below_drew1) | exact HB.out)⟩⟩
       ·rw [if_neg c8] at H
        exact absurd H (by simp)
      ·rw [if_neg c7] at H
       exact absurd H (by simp)
     ·rw [if_neg c6] at H
      exact absurd H (by simp)
    ·rw [if_neg c5] at H
     have c5b0 : decide (x6_1 < (l1.length : Int)) = false := decide_eq_false c5
     clear c5
     obtain rfl := Option.some.inj H
     go_wp2
     go_ret
     exact ⟨_, ew_, by (with_reducible repeat (first | apply Kd.R_alloc | apply Kd.R_drewN | apply Kd.R_drew)); exact HO_5.out, by repeat (first | (with_reducible first | exact HB.out | apply below_alloc | apply pw_below_drewN | apply below_drew1) | exact HB.out)⟩
 ·rw [if_neg c3] at H
  exact absurd H (by simp)
end
section
def cohousingref28_empty.l0 : Nat → List (S46) → Int → Option (Bool)
 | 0, _, _ => none
 | k + 1, x0, x3 => if x3 < (x0.length : Int) then (if 0 ≤ x3 then (if ((rd_T46 x0 x3).f0) > ((rd_T46 x0 x3).f1) then (some true) else (cohousingref28_empty.l0 k x0 (wrap64 (x3 + 1)))) else (none)) else (some false)
def cohousingref28_empty.f (k : Nat) (l0 : List (S46)) : Option (Bool) := cohousingref28_empty.l0 k l0 0
theorem cohousingref28_empty.mono_l : ∀ k, (∀ y0 y1, LeO (cohousingref28_empty.l0 k y0 y1) (cohousingref28_empty.l0 (k + 1) y0 y1))
 | 0 => fun _ _ r h => by simp [cohousingref28_empty.l0] at h
 | k + 1 => by
  have ih0 := cohousingref28_empty.mono_l k
  ·intro y0 y1
   unfold cohousingref28_empty.l0
   repeat' first
   | (with_reducible exact ih0 _ _)
   | (with_reducible exact LeO.refl _)
   | (with_reducible exact LeO.none _)
   | (with_reducible refine LeO.ite ?_ ?_)
   | (with_reducible refine LeO.bind ?_ (fun _ => ?_))
   | exact ih0 _ _
   | exact LeO.none _
   | refine LeO.ite ?_ ?_
   | refine LeO.bind ?_ (fun _ => ?_)
theorem cohousingref28_empty.mono : ∀ a0 k, LeO (cohousingref28_empty.f k a0) (cohousingref28_empty.f (k + 1) a0) := by
 intro a0 k
 have ih0 := cohousingref28_empty.mono_l k
 unfold cohousingref28_empty.f
 repeat' first
   | (with_reducible exact ih0 _ _)
   | (with_reducible exact LeO.refl _)
   | (with_reducible exact LeO.none _)
   | (with_reducible refine LeO.ite ?_ ?_)
   | (with_reducible refine LeO.bind ?_ (fun _ => ?_))
   | exact ih0 _ _
   | exact LeO.none _
   | refine LeO.ite ?_ ?_
   | refine LeO.bind ?_ (fun _ => ?_)
theorem cohousingref28_empty.calls (k : Nat) (A0 : Option Addr) (c0 : Nat) (l0 : List (S46)) (r : Bool) (w : World) (hr0 : Kd.C k46 w A0 l0.length l0) (hc0 : l0.length ≤ c0) (h : cohousingref28_empty.f k l0 = some r) :
  Calls Try.prog 74 #[.slice A0 l0.length c0] w fun e w' => e = .returned (.bool r) ∧ Drawn0 w w' := by
 have HR0 := Aside0.mk hr0
 have HC0 := Aside0.mk hc0
 clear hr0 hc0
 have H : (cohousingref28_empty.l0 k l0 0) = some r := h
 clear h
 have H' := Aside0.mk H
 clear H
 go_enter Try.func74, Try.ntmps74
 go_wp2
 repeat (go_quiet (fail); try go_wp2)
 go_loopg [3] k (fun kq v3 w' => ∃ (x3_1 : Int), v3 = .int .i64 x3_1 ∧ Aside0 (cohousingref28_empty.l0 kq l0 x3_1 = some r) ∧ Aside0 (kq ≤ k) ∧ Drawn0 w w')
 case atStart => exact ⟨(0), sd_, H', ⟨Nat.le_refl _⟩, by repeat (first | exact Drawn0.refl _ | apply Drawn0.step)⟩
 case round =>
  clear H'
  obtain ⟨x3_1, rfl, HA, HK1, ⟨m1, rfl⟩⟩ := hrel
  cases gk with
  | zero => exact absurd HA.out (by simp [cohousingref28_empty.l0])
  | succ k1 =>
   have H := HA.out
   clear HA
   simp only [cohousingref28_empty.l0] at H
   by_cases c2 : x3_1 < (l0.length : Int)
   ·rw [if_pos c2] at H
    have c2b0 : decide (x3_1 < (l0.length : Int)) = true := decide_eq_true c2
    clear c2
    by_cases c3 : 0 ≤ x3_1
    ·rw [if_pos c3] at H
     have c3b0 : decide (0 ≤ x3_1) = true := decide_eq_true c3
     clear c3
     by_cases c4 : ((rd_T46 l0 x3_1).f0) > ((rd_T46 l0 x3_1).f1)
     ·rw [if_pos c4] at H
      have c4b0 : decide (((rd_T46 l0 x3_1).f1) < ((rd_T46 l0 x3_1).f0)) = true := decide_eq_true c4
      clear c4
      obtain rfl := Option.some.inj H
      have p198 : 0 ≤ (x3_1 : Int) := od_
      have q198 : x3_1 < (l0.length : Int) := od_
      obtain ⟨ad198, e198, hx198_0, hx198_1⟩ := at_T46 HR0.out x3_1 p198 q198
      cases e198
      replace p198 := eq_true p198
      replace q198 := eq_true q198
      have p199 : 0 ≤ (x3_1 : Int) := od_
      have q199 : x3_1 < (l0.length : Int) := od_
      obtain ⟨ad199, e199, hx199_0, hx199_1⟩ := at_T46 HR0.out x3_1 p199 q199
      obtain rfl : ad198 = ad199 := (by injection e199)
      replace p199 := eq_true p199
      replace q199 := eq_true q199
      go_wp2
      repeat (go_quiet (fail); try go_wp2)
      go_ret
      exact ⟨by first | rfl | (simp; done) | (simp [*]; done), by repeat (first | exact Drawn0.refl _ | apply Drawn0.step)⟩
     ·rw [if_neg c4] at H
      have c4b0 : decide (((rd_T46 l0 x3_1).f1) < ((rd_T46 l0 x3_1).f0)) = false := decide_eq_false c4
      clear c4
      have H' := Aside0.mk H
      clear H
      have p198 : 0 ≤ (x3_1 : Int) := od_
      have q198 : x3_1 < (l0.length : Int) := od_
      obtain ⟨ad198, e198, hx198_0, hx198_1⟩ := at_T46 HR0.out x3_1 p198 q198
      cases e198
      replace p198 := eq_true p198
      replace q198 := eq_true q198
      have p199 : 0 ≤ (x3_1 : Int) := od_
      have q199 : x3_1 < (l0.length : Int) := od_
      obtain ⟨ad199, e199, hx199_0, hx199_1⟩ := at_T46 HR0.out x3_1 p199 q199
      obtain rfl : ad198 = ad199 := (by injection e199)
      replace p199 := eq_true p199
      replace q199 := eq_true q199
      go_wp2
      repeat (go_quiet (fail); try go_wp2)
      go_roundg k1
      case measure => have := HK1.out; omega
      case rel => exact ⟨(wrap64 (x3_1 + 1)), sd_, H', ⟨by have := HK1.out; omega⟩, by repeat (first | exact Drawn0.refl _ | apply Drawn0.step)⟩
    ·rw [if_neg c3] at H
     exact absurd H (by simp)
   ·rw [if_neg c2] at H
    have c2b0 : decide (x3_1 < (l0.length : Int)) = false := decide_eq_false c2
    clear c2
    obtain rfl := Option.some.inj H
    go_wp2
    repeat (go_quiet (fail); try go_wp2)
    go_ret
    exact ⟨by first | rfl | (simp; done) | (simp [*]; done), by repeat (first | exact Drawn0.refl _ | apply Drawn0.step)⟩
end
section
def cohousingref28_below.l0 : Nat → List (S44) → Int → List Int → Int → Option (List Int)
 | 0, _, _, _, _ => none
 | k + 1, x0, x1, x5, x6 => if x6 < (x0.length : Int) then (if 0 ≤ x6 then (if 0 ≤ x1 then (if x1 < (x0.length : Int) then (if ((rd_T44 x0 x6).f1) = ((rd_T44 x0 x1).f0) then (if x5.length < 17592186044416 then (cohousingref28_below.l0 k x0 x1 (x5 ++ [x6]) (wrap64 (x6 + 1))) else (none)) else (cohousingref28_below.l0 k x0 x1 x5 (wrap64 (x6 + 1)))) else (none)) else (none)) else (none)) else (some x5)
def cohousingref28_below.f (k : Nat) (l0 : List (S44)) (a1 : Int) : Option (List Int) := cohousingref28_below.l0 k l0 a1 ([] : List Int) (wrap64 (a1 + 1))
theorem cohousingref28_below.mono_l : ∀ k, (∀ y0 y1 y2 y3, LeO (cohousingref28_below.l0 k y0 y1 y2 y3) (cohousingref28_below.l0 (k + 1) y0 y1 y2 y3))
 | 0 => fun _ _ _ _ r h => by simp [cohousingref28_below.l0] at h
 | k + 1 => by
  have ih0 := cohousingref28_below.mono_l k
  ·intro y0 y1 y2 y3
   unfold cohousingref28_below.l0
   repeat' first
   | (with_reducible exact ih0 _ _ _ _)
   | (with_reducible exact LeO.refl _)
   | (with_reducible exact LeO.none _)
   | (with_reducible refine LeO.ite ?_ ?_)
   | (with_reducible refine LeO.bind ?_ (fun _ => ?_))
   | exact ih0 _ _ _ _
   | exact LeO.none _
   | refine LeO.ite ?_ ?_
   | refine LeO.bind ?_ (fun _ => ?_)
theorem cohousingref28_below.mono : ∀ a0 a1 k, LeO (cohousingref28_below.f k a0 a1) (cohousingref28_below.f (k + 1) a0 a1) := by
 intro a0 a1 k
 have ih0 := cohousingref28_below.mono_l k
 unfold cohousingref28_below.f
 repeat' first
   | (with_reducible exact ih0 _ _ _ _)
   | (with_reducible exact LeO.refl _)
   | (with_reducible exact LeO.none _)
   | (with_reducible refine LeO.ite ?_ ?_)
   | (with_reducible refine LeO.bind ?_ (fun _ => ?_))
   | exact ih0 _ _ _ _
   | exact LeO.none _
   | refine LeO.ite ?_ ?_
   | refine LeO.bind ?_ (fun _ => ?_)
theorem cohousingref28_below.calls (k : Nat) (A0 : Option Addr) (c0 : Nat) (l0 : List (S44)) (a1 : Int) (r : List Int) (w : World) (hr0 : Kd.C k44 w A0 l0.length l0) (hc0 : l0.length ≤ c0) (h : cohousingref28_below.f k l0 a1 = some r) :
  Calls Try.prog 41 #[.slice A0 l0.length c0, .int .i64 a1] w fun e w' => ∃ v0_ : Value, e = .returned (v0_) ∧ Kd.R (Kd.int .i64) 3 w' w.heap.size (fun _ => True) v0_ r ∧ Below w.heap.size w w' := by
 have HR0 := Aside0.mk hr0
 have HC0 := Aside0.mk hc0
 clear hr0 hc0
 have HB := Aside0.mk (Below.refl w.heap.size w)
 have H : (cohousingref28_below.l0 k l0 a1 ([] : List Int) (wrap64 (a1 + 1))) = some r := h
 clear h
 have H' := Aside0.mk H
 clear H
 go_enter Try.func41, Try.ntmps41
 go_wp2
 repeat (go_quiet (fail); try go_wp2)
 go_loopg [5, 6] k (fun kq v5 v6 w' => ∃ (x5_1 : List Int) (x6_1 : Int), v6 = .int .i64 x6_1 ∧ Aside0 (cohousingref28_below.l0 kq l0 a1 x5_1 x6_1 = some r) ∧ Aside0 (kq ≤ k) ∧ Aside0 (Kd.R (Kd.int .i64) 3 w' w.heap.size (fun _ => True) v5 x5_1) ∧ Aside0 (Below w.heap.size w w'))
 case atStart => exact ⟨(([] : List Int)), (wrap64 (a1 + 1)), sd_, H', ⟨Nat.le_refl _⟩, ⟨by first | exact Kd.R_nil _ _ _ _ _ | exact Kd.N_nil _ _ _ _ _ | exact Kd.V_nil _ _ _ _ _ | exact Kd.Q_nil _ _ _ _ _ | exact Kd.S_nil _ _ _ _ _⟩, ⟨by repeat (first | (with_reducible first | exact HB.out | apply below_alloc | apply pw_below_drewN | apply below_drew1) | exact HB.out)⟩⟩
 case round =>
  clear H'
  try clear p2
  obtain ⟨x5_1, x6_1, rfl, HA, HK1, HO_5, HB⟩ := hrel
  cases gk with
  | zero => exact absurd HA.out (by simp [cohousingref28_below.l0])
  | succ k1 =>
   have H := HA.out
   clear HA
   simp only [cohousingref28_below.l0] at H
   by_cases c3 : x6_1 < (l0.length : Int)
   ·rw [if_pos c3] at H
    have c3b0 : decide (x6_1 < (l0.length : Int)) = true := decide_eq_true c3
    clear c3
    by_cases c4 : 0 ≤ x6_1
    ·rw [if_pos c4] at H
     have c4b0 : decide (0 ≤ x6_1) = true := decide_eq_true c4
     clear c4
     by_cases c5 : 0 ≤ a1
     ·rw [if_pos c5] at H
      have c5b0 : decide (0 ≤ a1) = true := decide_eq_true c5
      clear c5
      by_cases c6 : a1 < (l0.length : Int)
      ·rw [if_pos c6] at H
       have c6b0 : decide (a1 < (l0.length : Int)) = true := decide_eq_true c6
       clear c6
       by_cases c7 : ((rd_T44 l0 x6_1).f1) = ((rd_T44 l0 a1).f0)
       ·rw [if_pos c7] at H
        have c7b0 : (((rd_T44 l0 x6_1).f1) == ((rd_T44 l0 a1).f0)) = true := beq_iff_eq.mpr c7
        have c7b1 : (((rd_T44 l0 x6_1).f1) != ((rd_T44 l0 a1).f0)) = false := bne_eq_false_iff_eq.mpr c7
        clear c7
        by_cases c8 : x5_1.length < 17592186044416
        ·rw [if_pos c8] at H
         have LMc8 := Aside0.mk c8
         clear c8
         obtain ⟨y195, hy195⟩ : ∃ y_ : List Int, y_ = (x5_1 ++ [x6_1]) := ⟨_, rfl⟩
         replace H : (cohousingref28_below.l0 k1 l0 a1 y195 (wrap64 (x6_1 + 1))) = some r := by first | (rw [hy195]; with_reducible exact H) | (have H2_ := (Option.bind_some _ _).symm.trans H; rw [hy195]; with_reducible exact H2_) | (have H2_ := (Option.bind_some _ _).symm.trans H; with_reducible exact H2_) | with_reducible exact H | (rw [hy195]; exact H) | exact H
         have Ny195 := Aside0.mk hy195
         clear hy195
         have H' := Aside0.mk H
         clear H
         have p193 : 0 ≤ (x6_1 : Int) := od_
         have q193 : x6_1 < (l0.length : Int) := od_
         obtain ⟨ad193, e193, hx193_0, hx193_1, hx193_2⟩ := at_T44 HR0.out x6_1 p193 q193
         cases e193
         replace hx193_0 := (HB.out.cell (World.block_lt_of_cell? w _ hx193_0)).trans hx193_0
         replace hx193_1 := (HB.out.cell (World.block_lt_of_cell? w _ hx193_1)).trans hx193_1
         replace hx193_2 := (HB.out.cell (World.block_lt_of_cell? w _ hx193_2)).trans hx193_2
         replace p193 := eq_true p193
         replace q193 := eq_true q193
         have p194 : 0 ≤ (a1 : Int) := od_
         have q194 : a1 < (l0.length : Int) := od_
         obtain ⟨ad194, e194, hx194_0, hx194_1, hx194_2⟩ := at_T44 HR0.out a1 p194 q194
         obtain rfl : ad193 = ad194 := (by injection e194)
         replace hx194_0 := (HB.out.cell (World.block_lt_of_cell? w _ hx194_0)).trans hx194_0
         replace hx194_1 := (HB.out.cell (World.block_lt_of_cell? w _ hx194_1)).trans hx194_1
         replace hx194_2 := (HB.out.cell (World.block_lt_of_cell? w _ hx194_2)).trans hx194_2
         replace p194 := eq_true p194
         replace q194 := eq_true q194
         go_wp2_with (first | ((with_reducible refine gate_builtin (b := .append) (xs := #[.tmp 26, .tmp 28]) rfl ?_); at_builtin; refine Kd.R_append (Kd.int .i64) (w0 := w) w.heap.size rfl (.tmp 26) (.tmp 28) 26 3 (.int .i64 0) 8 rfl Try.underlying26 info3 rfl (by decide) (by omega) u5 x5_1 x6_1 [.int .i64 x6_1] (fun _ => True) (fun _ => False) rfl rfl ?aP (fun _ hk => hk.elim) ?aF ?aO ?aB ?aS ?aL ?_; (case aP => exact rfl); (case aB => exact (bb_ HB)); (case aF => exact (fun _ _ => trivial)); (case aO => exact (rr_ HO_5)); (case aS => exact (below_size (bb_ HB))); (case aL => have := LMc8.out; omega); intro v196 w9 ho hb hg hat; rw [← Ny195.out] at ho; have n0_ := Aside0.mk (hb); have n1_ := Aside0.mk (ho); clear HB; clear HO_5; have HB := n0_; have HO197 := n1_; clear n0_ n1_; clear ho hb hg hat))
         repeat (go_quiet (first | ((with_reducible refine gate_builtin (b := .append) (xs := #[.tmp 26, .tmp 28]) rfl ?_); at_builtin; refine Kd.R_append (Kd.int .i64) (w0 := w) w.heap.size rfl (.tmp 26) (.tmp 28) 26 3 (.int .i64 0) 8 rfl Try.underlying26 info3 rfl (by decide) (by omega) u5 x5_1 x6_1 [.int .i64 x6_1] (fun _ => True) (fun _ => False) rfl rfl ?aP (fun _ hk => hk.elim) ?aF ?aO ?aB ?aS ?aL ?_; (case aP => exact rfl); (case aB => exact (bb_ HB)); (case aF => exact (fun _ _ => trivial)); (case aO => exact (rr_ HO_5)); (case aS => exact (below_size (bb_ HB))); (case aL => have := LMc8.out; omega); intro v196 w9 ho hb hg hat; rw [← Ny195.out] at ho; have n0_ := Aside0.mk (hb); have n1_ := Aside0.mk (ho); clear HB; clear HO_5; have HB := n0_; have HO197 := n1_; clear n0_ n1_; clear ho hb hg hat)); try go_wp2_with (first | ((with_reducible refine gate_builtin (b := .append) (xs := #[.tmp 26, .tmp 28]) rfl ?_); at_builtin; refine Kd.R_append (Kd.int .i64) (w0 := w) w.heap.size rfl (.tmp 26) (.tmp 28) 26 3 (.int .i64 0) 8 rfl Try.underlying26 info3 rfl (by decide) (by omega) u5 x5_1 x6_1 [.int .i64 x6_1] (fun _ => True) (fun _ => False) rfl rfl ?aP (fun _ hk => hk.elim) ?aF ?aO ?aB ?aS ?aL ?_; (case aP => exact rfl); (case aB => exact (bb_ HB)); (case aF => exact (fun _ _ => trivial)); (case aO => exact (rr_ HO_5)); (case aS => exact (below_size (bb_ HB))); (case aL => have := LMc8.out; omega); intro v196 w9 ho hb hg hat; rw [← Ny195.out] at ho; have n0_ := Aside0.mk (hb); have n1_ := Aside0.mk (ho); clear HB; clear HO_5; have HB := n0_; have HO197 := n1_; clear n0_ n1_; clear ho hb hg hat)))
         go_roundg k1
         case measure => have := HK1.out; omega
         case rel => exact ⟨(y195), (wrap64 (x6_1 + 1)), sd_, H', ⟨by have := HK1.out; omega⟩, ⟨by (with_reducible repeat (first | apply Kd.R_alloc | apply Kd.R_drewN | apply Kd.R_drew)); exact HO197.out⟩, ⟨by repeat (first | (with_reducible first | exact HB.out | apply below_alloc | apply pw_below_drewN | apply below_drew1) | exact HB.out)⟩⟩
        ·rw [if_neg c8] at H
         exact absurd H (by simp)
       ·rw [if_neg c7] at H
        have c7b0 : (((rd_T44 l0 x6_1).f1) == ((rd_T44 l0 a1).f0)) = false := beq_eq_false_iff_ne.mpr c7
        have c7b1 : (((rd_T44 l0 x6_1).f1) != ((rd_T44 l0 a1).f0)) = true := bne_iff_ne.mpr c7
        have H' := Aside0.mk H
        clear H
        have p193 : 0 ≤ (x6_1 : Int) := od_
        have q193 : x6_1 < (l0.length : Int) := od_
        obtain ⟨ad193, e193, hx193_0, hx193_1, hx193_2⟩ := at_T44 HR0.out x6_1 p193 q193
        cases e193
        replace hx193_0 := (HB.out.cell (World.block_lt_of_cell? w _ hx193_0)).trans hx193_0
        replace hx193_1 := (HB.out.cell (World.block_lt_of_cell? w _ hx193_1)).trans hx193_1
        replace hx193_2 := (HB.out.cell (World.block_lt_of_cell? w _ hx193_2)).trans hx193_2
        replace p193 := eq_true p193
        replace q193 := eq_true q193
        have p194 : 0 ≤ (a1 : Int) := od_
        have q194 : a1 < (l0.length : Int) := od_
        obtain ⟨ad194, e194, hx194_0, hx194_1, hx194_2⟩ := at_T44 HR0.out a1 p194 q194
        obtain rfl : ad193 = ad194 := (by injection e194)
        replace hx194_0 := (HB.out.cell (World.block_lt_of_cell? w _ hx194_0)).trans hx194_0
        replace hx194_1 := (HB.out.cell (World.block_lt_of_cell? w _ hx194_1)).trans hx194_1
        replace hx194_2 := (HB.out.cell (World.block_lt_of_cell? w _ hx194_2)).trans hx194_2
        replace p194 := eq_true p194
        replace q194 := eq_true q194
        go_wp2
        repeat (go_quiet (fail); try go_wp2)
        go_roundg k1
        case measure => have := HK1.out; omega
        case rel => exact ⟨(x5_1), (wrap64 (x6_1 + 1)), sd_, H', ⟨by have := HK1.out; omega⟩, ⟨by (with_reducible repeat (first | apply Kd.R_alloc | apply Kd.R_drewN | apply Kd.R_drew)); exact HO_5.out⟩, ⟨by repeat (first | (with_reducible first | exact HB.out | apply below_alloc | apply pw_below_drewN | apply below_drew1) | exact HB.out)⟩⟩
      ·rw [if_neg c6] at H
       exact absurd H (by simp)
     ·rw [if_neg c5] at H
      exact absurd H (by simp)
    ·rw [if_neg c4] at H
     exact absurd H (by simp)
   ·rw [if_neg c3] at H
    have c3b0 : decide (x6_1 < (l0.length : Int)) = false := decide_eq_false c3
    clear c3
    obtain rfl := Option.some.inj H
    go_wp2
    repeat (go_quiet (fail); try go_wp2)
    go_ret
    exact ⟨_, ew_, by (with_reducible repeat (first | apply Kd.R_alloc | apply Kd.R_drewN | apply Kd.R_drew)); exact HO_5.out, by repeat (first | (with_reducible first | exact HB.out | apply below_alloc | apply pw_below_drewN | apply below_drew1) | exact HB.out)⟩
end
section
def cohousingref28_narrow.f (a0_0 : Int) (a0_1 : Int) (a1 : Int) (a2 : Int) : Option (Int × Int) := some (mx a0_0 a1, mn a0_1 a2)
theorem cohousingref28_narrow.calls (a0_0 : Int) (a0_1 : Int) (a1 : Int) (a2 : Int) (r1 : Int) (r2 : Int) (w : World) (h : cohousingref28_narrow.f a0_0 a0_1 a1 a2 = some (r1, r2)) :
  Calls Try.prog 77 #[.agg #[.int .i64 a0_0, .int .i64 a0_1], .int .i64 a1, .int .i64 a2] w fun e w' => e = .returned (.agg #[.int .i64 r1, .int .i64 r2]) ∧ Below w.heap.size w w' := by
 have hu46 := Try.underlying46
 have HB := Aside0.mk (Below.refl w.heap.size w)
 have H : (some (mx a0_0 a1, mn a0_1 a2)) = some (r1, r2) := h
 clear h
 obtain ⟨ji4, hji4⟩ : ∃ j_ : Int, (mx a0_0 a1) = j_ := ⟨_, rfl⟩
 replace H : (some (ji4, mn a0_1 a2)) = some (r1, r2) := by first | (rw [hji4] at H; exact H) | (simp only [hji4] at H ⊢; exact H)
 have hji4_ : (if a0_0 < a1 then a1 else a0_0) = ji4 := hji4
 obtain ⟨ji5, hji5⟩ : ∃ j_ : Int, (mn a0_1 a2) = j_ := ⟨_, rfl⟩
 replace H : (some (ji4, ji5)) = some (r1, r2) := by first | (rw [hji5] at H; exact H) | (simp only [hji5] at H ⊢; exact H)
 have hji5_ : (if a2 < a0_1 then a2 else a0_1) = ji5 := hji5
 simp only [Option.some.injEq, Prod.mk.injEq] at H
 obtain ⟨rfl, rfl⟩ := H
 go_enter Try.func77, Try.ntmps77
 go_wp2_with (first | ((with_reducible refine gate_dst (N := 3) rfl ?_); refine box_event ?hg (N := 3) ?hd (cs := #[.int .i64 a0_0, .int .i64 a0_1]) (t := 46) ?hr ?_; (case hd => rfl); (case hg => rfl); (case hr => first | (go_simp; done) | (go_simp; rfl)); intro gb200 hg w6 hbox hb; have n0_ := Aside0.mk (below_step (bb_ HB) hb); have n1_ := Aside0.mk (hbox); have n2_ := Aside0.mk ((by rw [hg]; exact (below_size (bb_ HB)) : w.heap.size ≤ gb200)); have n3_ := Aside0.mk ((by rw [hg]; exact (below_size (bb_ HB)) : w.heap.size ≤ gb200)); clear HB; have HB := n0_; have BK200 := n1_; have GW200 := n2_; have GE200 := n3_; clear n0_ n1_ n2_ n3_; clear hb hbox hg) | ((with_reducible refine gate_dst (N := 6) rfl ?_); refine box_event ?hg (N := 6) ?hd (cs := #[.int .i64 0, .int .i64 0]) (t := 46) ?hr ?_; (case hd => rfl); (case hg => rfl); (case hr => first | (go_simp; done) | (go_simp; rfl)); intro gb201 hg w7 hbox hb; have n0_ := Aside0.mk (blk_below (g := gb200) (o := .cells #[.int .i64 a0_0, .int .i64 a0_1] 46 (0, 0)) (kk_ BK200) hb); have n1_ := Aside0.mk (below_step (bs_ HB GE200.out) hb); have n2_ := Aside0.mk (hbox); have n3_ := Aside0.mk ((by rw [hg]; exact (below_size (bs_ HB GE200.out)) : w.heap.size ≤ gb201)); have n4_ := Aside0.mk ((by rw [hg]; exact (below_size (bs_ HB GE200.out)) : w.heap.size ≤ gb201)); have n5_ := Aside0.mk ((by rw [hg]; exact Nat.ne_of_lt (blk_lt (g := gb200) (o := .cells #[.int .i64 a0_0, .int .i64 a0_1] 46 (0, 0)) (kk_ BK200)) : gb200 ≠ gb201)); have n6_ := Aside0.mk ((by rw [hg]; exact Nat.ne_of_gt (blk_lt (g := gb200) (o := .cells #[.int .i64 a0_0, .int .i64 a0_1] 46 (0, 0)) (kk_ BK200)) : gb201 ≠ gb200)); clear BK200; clear HB; have BK200 := n0_; have HB := n1_; have BK201 := n2_; have GW201 := n3_; have GE201 := n4_; have NB200_201 := n5_; have NB201_200 := n6_; clear n0_ n1_ n2_ n3_ n4_ n5_ n6_; clear hb hbox hg; have hnb8 := NB200_201.out; have hnc8 := NB201_200.out; have hcz9_0 : w7.cell? ⟨gb200, 0, none⟩ = some (.int .i64 a0_0) := (blk_cell BK200.out 0).trans rfl; have hcz9_1 : w7.cell? ⟨gb200, 1, none⟩ = some (.int .i64 a0_1) := (blk_cell BK200.out 1).trans rfl; have hfz9_0 := blk_frozen BK200.out 0; have hfz9_1 := blk_frozen BK200.out 1; have hcz10_0 : w7.cell? ⟨gb201, 0, none⟩ = some (.int .i64 0) := (blk_cell BK201.out 0).trans rfl; have hcz10_1 : w7.cell? ⟨gb201, 1, none⟩ = some (.int .i64 0) := (blk_cell BK201.out 1).trans rfl; have hfz10_0 := blk_frozen BK201.out 0; have hfz10_1 := blk_frozen BK201.out 1))
 refine bodyPost_ret (results_cell_row rfl _ _ gb201 46 #[.int .i64 ji4, .int .i64 ji5] (0, 0) _ rfl (by (with_reducible repeat (first | refine blk_drewN ?_ _ | refine blk_drew ?_ | refine blk_alloc ?_ _)); refine blk_put (cs := #[.int .i64 ji4, .int .i64 0]) ?_ 1 _ rfl; (with_reducible repeat (first | refine blk_drewN ?_ _ | refine blk_drew ?_ | refine blk_alloc ?_ _)); refine blk_put (cs := #[.int .i64 0, .int .i64 0]) ?_ 0 _ rfl; (with_reducible repeat (first | refine blk_drewN ?_ _ | refine blk_drew ?_ | refine blk_alloc ?_ _)); exact BK201.out) Try.underlying46 rfl (by kernel_rfl)) rfl ?_
 exact ⟨by first | rfl | (simp [errW_none, errW_some] <;> rfl) | (simp only [← hji4, ← hji5]; first | rfl | (simp [errW_none, errW_some] <;> rfl)) | (simp [*, errW_none, errW_some] <;> rfl), by repeat (first | (with_reducible first | exact HB.out | apply below_alloc | apply pw_below_drewN | apply below_drew1 | refine below_set ?_ GE200.out | refine below_set ?_ GE201.out) | exact HB.out)⟩
end
end Go.Proofs.Ytolmjhpapidmhaa.P
end
