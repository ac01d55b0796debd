/- Part 1 of the proof of LeakSmallest: what it alone needs. -/
import Derived.Test.YtolmjhpapidmhaaCQd
set_option linter.unusedVariables false
set_option linter.unusedSimpArgs false
section
namespace Go.Proofs.Ytolmjhpapidmhaa.P
open Go.RowKit Go.Proofs.YtolmjhpapidmhaaW.PrintWords Go.Proofs.YtolmjhpapidmhaaW.PrintLast Go.Proofs.YtolmjhpapidmhaaW.PrintMore
attribute [local go_sem] max2_int min2_int max_two min_two max_three min_three max_four min_four
set_option linter.unusedVariables false
set_option linter.unusedSimpArgs false
set_option maxHeartbeats 8000000
set_option maxRecDepth 100000
section
open Go.Proofs.YtolmjhpapidmhaaH
theorem has_l0k (l : List Int) (x : Int) (hl : l.length ≤ 140737488355328) : ∀ (d i k : Nat), i + d = l.length → d < k → cohousingref30_Has.l0 k l x (i : Int) = some ((l.drop i).contains x) := by
 intro d
 induction d with
 | zero =>
  intro i k hi hk
  obtain ⟨k, rfl⟩ : ∃ m, k = m + 1 := ⟨k - 1, by omega⟩
  simp only [cohousingref30_Has.l0]
  rw [if_neg (by omega), List.drop_of_length_le (by omega)]
  rfl
 | succ d ih =>
  intro i k hi hk
  obtain ⟨k, rfl⟩ : ∃ m, k = m + 1 := ⟨k - 1, by omega⟩
  have hlt : i < l.length := by omega
  have hd : l.drop i = rd l (i : Int) :: l.drop (i + 1) := by
   rw [List.drop_eq_getElem_cons hlt]
   congr 1
   simp [rd, List.getD_eq_getElem?_getD, hlt]
  simp only [cohousingref30_Has.l0]
  rw [if_pos (by omega), if_pos (by omega), hd, List.contains_cons]
  by_cases e : rd l (i : Int) = x
  ·rw [if_pos e, e]; simp
  ·rw [if_neg e, show wrap64 ((i : Int) + 1) = ((i + 1 : Nat) : Int) by unfold wrap64; omega, ih (i + 1) k (by omega) (by omega), beq_eq_false_iff_ne.2 (fun h => e h.symm), Bool.false_or]
theorem has_k (l : List Int) (x : Int) (hl : l.length ≤ 140737488355328) : cohousingref30_Has.f (l.length + 1) l x = some (l.contains x) := has_l0k l x hl l.length 0 (l.length + 1) (by omega) (by omega)
def choos (n : Nat) (x : Int) (i : Int) : Bool := Int.tmod (wrap64 x) ((n : Int) + 2) == i
def hitJ (n : Nat) (a b c : Int) (j : Nat) (i : Int) : Bool := ([a, b, c].take j).any (fun x => choos n x i)
def chosenN (n : Nat) (a b c : Int) (m : Nat) : List Int := (iv 0 m).filter (hitJ n a b c 3)
def cohousinglaw30_chosen.f (l0 : List S44) (a b c : Int) : Option (List Int) := if l0.length ≤ 1000000 then some (chosenN l0.length a b c l0.length) else none
theorem chosenN_succ (n : Nat) (a b c : Int) (m : Nat) : chosenN n a b c (m + 1) = if hitJ n a b c 3 (m : Int) = true then chosenN n a b c m ++ [(m : Int)] else chosenN n a b c m := by
 unfold chosenN
 rw [iv_snoc, List.filter_append, show (0 : Int) + (m : Int) = (m : Int) by omega]
 split
 ·rename_i h; rw [List.filter_cons_of_pos h]; rfl
 ·rename_i h; rw [List.filter_cons_of_neg h, List.filter_nil, List.append_nil]
theorem chosenN_not (n : Nat) (a b c : Int) (m : Nat) : (chosenN n a b c m).contains (m : Int) = false := by
 rw [Bool.eq_false_iff]
 intro h
 replace h := List.contains_iff_mem.1 h
 have := (List.mem_filter.1 h).1
 rw [iv_mem] at this
 omega
theorem chosenN_len (n : Nat) (a b c : Int) (m : Nat) : (chosenN n a b c m).length ≤ m := by
 have := List.length_filter_le (hitJ n a b c 3) (iv 0 m)
 rwa [iv_len] at this
def outJ (n : Nat) (a b c : Int) (m j : Nat) : List Int := if hitJ n a b c j (m : Int) = true then chosenN n a b c m ++ [(m : Int)] else chosenN n a b c m
theorem outJ_zero (n : Nat) (a b c : Int) (m : Nat) : outJ n a b c m 0 = chosenN n a b c m := by simp [outJ, hitJ]
theorem outJ_three (n : Nat) (a b c : Int) (m : Nat) : outJ n a b c m 3 = chosenN n a b c (m + 1) := by rw [chosenN_succ]; rfl
theorem outJ_len (n : Nat) (a b c : Int) (m j : Nat) : (outJ n a b c m j).length ≤ m + 1 := by
 have := chosenN_len n a b c m
 unfold outJ
 split
 ·rw [List.length_append]; simp; omega
 ·omega
theorem outJ_has (n : Nat) (a b c : Int) (m j : Nat) : (outJ n a b c m j).contains (m : Int) = hitJ n a b c j (m : Int) := by
 have h := chosenN_not n a b c m
 unfold outJ
 cases hh : hitJ n a b c j (m : Int) with
 | true => rw [if_pos rfl]; simp
 | false => rw [if_neg (by decide)]; exact h
theorem hitJ_succ (n : Nat) (a b c : Int) (j : Nat) (hj : j < 3) (i : Int) : hitJ n a b c (j + 1) i = (hitJ n a b c j i || choos n (rd [a, b, c] (j : Int)) i) := by
 unfold hitJ
 have e : ([a, b, c].take (j + 1)) = [a, b, c].take j ++ [rd [a, b, c] (j : Int)] := by
  match j, hj with
  | 0, _ => rfl
  | 1, _ => rfl
  | 2, _ => rfl
 rw [e, List.any_append]
 simp
theorem ixA (a b c : Int) (j : Nat) (hj : j < 3) : ∀ W : World, (Instr.index 35 (.agg #[.int .u8 a, .int .u8 b, .int .u8 c]) (.int .i64 (j : Int))).run Try.prog W = .ok (.int .u8 (rd [a, b, c] (j : Int))) W := by
 intro W
 match j, hj with
 | 0, _ => simp [Instr.index, run_underlying Try.underlying35, asIntOf, go_sem, rd]
 | 1, _ => simp [Instr.index, run_underlying Try.underlying35, asIntOf, go_sem, rd]
 | 2, _ => simp [Instr.index, run_underlying Try.underlying35, asIntOf, go_sem, rd]
theorem cohousinglaw30_chosen.calls (A0 : Option Addr) (c0 : Nat) (l0 : List (S44)) (a b c : Int) (r : List Int) (w : World) (hr0 : Kd.C k44 w A0 l0.length l0) (hc0 : l0.length ≤ c0) (h : cohousinglaw30_chosen.f l0 a b c = some r) :
  Calls Try.prog 20 #[.slice A0 l0.length c0, .agg #[.int .u8 a, .int .u8 b, .int .u8 c]] w fun e w' => ∃ v0_ : Value, e = .returned v0_ ∧ Kd.R (Kd.int .i64) 3 w' w.heap.size (fun _ => True) v0_ r ∧ Below w.heap.size w w' := by
 have hu35 := Try.underlying35
 unfold cohousinglaw30_chosen.f at h
 by_cases hg : l0.length ≤ 1000000
 case neg => rw [if_neg hg] at h; cases h
 rw [if_pos hg] at h
 have e := Option.some.inj h
 subst e
 have HG := Aside0.mk hg
 have HB := Aside0.mk (Below.refl w.heap.size w)
 obtain ⟨n0, hn0⟩ : ∃ n0 : Int, n0 = (l0.length : Int) := ⟨_, rfl⟩
 have hz1 : (l0.length : Int) + 2 ≤ 9223372036854775807 := by omega
 have hz2 : -9223372036854775808 ≤ (l0.length : Int) + 2 := by omega
 have hz3 : ((l0.length : Int) + 2 = 0) = False := eq_false (by omega)
 have hz4 : ((l0.length : Int) + 2 == 0) = false := beq_eq_false_iff_ne.2 (by omega)
 clear h hg hr0 hc0 hn0
 go_enter Try.func20, Try.ntmps20
 go_wp2_with (first | ((with_reducible refine gate_dst (N := 3) rfl ?_); refine box_event ?hg (N := 3) ?hd (cs := #[.int .u8 a, .int .u8 b, .int .u8 c]) (t := 35) ?hr ?_; (case hd => rfl); (case hg => rfl); (case hr => first | (go_simp; done) | (go_simp; rfl)); intro ga hg_A wa hbox_ hb_; have n0_ := Aside0.mk (below_step HB.out hb_); have BA := Aside0.mk hbox_; have GA := Aside0.mk (show w.heap.size ≤ ga by rw [hg_A]; exact below_size HB.out); have EA := Aside0.mk hg_A; have hcA0 : wa.cell? ⟨ga, 0, none⟩ = some (.int .u8 a) := (blk_cell hbox_ 0).trans rfl; have hfA0 := blk_frozen hbox_ 0; have hcA1 : wa.cell? ⟨ga, 1, none⟩ = some (.int .u8 b) := (blk_cell hbox_ 1).trans rfl; have hfA1 := blk_frozen hbox_ 1; have hcA2 : wa.cell? ⟨ga, 2, none⟩ = some (.int .u8 c) := (blk_cell hbox_ 2).trans rfl; have hfA2 := blk_frozen hbox_ 2; clear HB hg_A hbox_ hb_; have HB := n0_; clear n0_))
 go_loopg [11, 5] l0.length (fun kq v11 v5 wr => ∃ (m : Nat) (i : Int) (A5 : Option Addr) (c5 : Nat), v11 = .int .i64 i ∧ v5 = .slice A5 (chosenN l0.length a b c m).length c5 ∧ Aside0 (i = (m : Int) ∧ kq + m = l0.length) ∧ Aside0 (Kd.R (Kd.int .i64) 3 wr w.heap.size (fun _ => True) (.slice A5 (chosenN l0.length a b c m).length c5) (chosenN l0.length a b c m)) ∧ Aside0 (wr.heap[ga]? = some (.cells #[.int .u8 a, .int .u8 b, .int .u8 c] 35 (0, 0))) ∧ Aside0 (Below w.heap.size w wr))
 case atStart => exact ⟨0, 0, none, 0, rfl, rfl, ⟨rfl, by omega⟩, ⟨Kd.R_nil _ _ _ _ _⟩, BA, HB⟩
 case round =>
  clear BA GA EA HB hcA0 hcA1 hcA2 hfA0 hfA1 hfA2
  obtain ⟨m, i, A5, c5, rfl, rfl, HM, HR, BA, HB⟩ := hrel
  by_cases hlt : m < l0.length
  ·have d1 : decide (i < (l0.length : Int)) = true := decide_eq_true (by have := HM.out; omega)
   have hca0 : wr.cell? ⟨ga, 0, none⟩ = some (.int .u8 a) := (blk_cell BA.out 0).trans rfl
   have hca1 : wr.cell? ⟨ga, 1, none⟩ = some (.int .u8 b) := (blk_cell BA.out 1).trans rfl
   have hca2 : wr.cell? ⟨ga, 2, none⟩ = some (.int .u8 c) := (blk_cell BA.out 2).trans rfl
   have hz5 : i + 1 ≤ 9223372036854775807 := by have := HM.out; have := HG.out; omega
   have hz6 : -9223372036854775808 ≤ i + 1 := by have := HM.out; omega
   have HLT := Aside0.mk hlt
   clear hlt
   obtain ⟨ko, hko⟩ : ∃ ko, ko = gk := ⟨_, rfl⟩
   have HKO := Aside0.mk hko
   clear hko
   go_wp2
   clear hca0 hca1 hca2
   go_loopg [15, 5] 3 (fun kq v15 v5 wi => ∃ (j : Nat) (q : Int) (A6 : Option Addr) (c6 : Nat), v15 = .int .i64 q ∧ v5 = .slice A6 (outJ l0.length a b c m j).length c6 ∧ Aside0 (q = (j : Int) ∧ kq + j = 3) ∧ Aside0 (Kd.R (Kd.int .i64) 3 wi w.heap.size (fun _ => True) (.slice A6 (outJ l0.length a b c m j).length c6) (outJ l0.length a b c m j)) ∧ Aside0 (wi.heap[ga]? = some (.cells #[.int .u8 a, .int .u8 b, .int .u8 c] 35 (0, 0))) ∧ Aside0 (Below w.heap.size w wi))
   case atStart =>
    refine ⟨0, 0, A5, c5, rfl, ?_, ⟨rfl, rfl⟩, ⟨?_⟩, BA, HB⟩
    ·rw [outJ_zero]
    ·rw [outJ_zero]; exact HR.out
   case round =>
    clear HR BA HB
    obtain ⟨j, q, A6, c6, rfl, rfl, HJ, HR, BA, HB⟩ := hrel
    by_cases hj : j < 3
    ·have d2 : decide (q < (3 : Int)) = true := decide_eq_true (by have := HJ.out; omega)
     have hix : ∀ W : World, (Instr.index 35 (.agg #[.int .u8 a, .int .u8 b, .int .u8 c]) (.int .i64 q)).run Try.prog W = .ok (.int .u8 (rd [a, b, c] q)) W := by have := ixA a b c j hj; rw [← HJ.out.1] at this; exact this
     obtain ⟨x, hx⟩ : ∃ x, x = rd [a, b, c] q := ⟨_, rfl⟩
     rw [← hx] at hix
     have HX := Aside0.mk hx
     have hz7 : q + 1 ≤ 9223372036854775807 := by have := HJ.out; omega
     have hz8 : -9223372036854775808 ≤ q + 1 := by have := HJ.out; omega
     have HJ3 := Aside0.mk hj
     have hstep := hitJ_succ l0.length a b c j hj (m : Int)
     rw [← HJ.out.1, ← hx, ← HM.out.1] at hstep
     have HOL := Aside0.mk (show (outJ l0.length a b c m j).length ≤ 1000001 by have := outJ_len l0.length a b c m j; have := HLT.out; have := HG.out; omega)
     have HHAS := Aside0.mk (show cohousingref30_Has.f ((outJ l0.length a b c m j).length + 1) (outJ l0.length a b c m j) i = some (hitJ l0.length a b c j i) by rw [has_k _ _ (by have := HOL.out; omega), HM.out.1, outJ_has])
     clear hx hj
     cases ht : choos l0.length x i with
     | false =>
      rw [ht, Bool.or_false] at hstep
      have HST := Aside0.mk hstep
      have ht' : (Int.tmod (wrap64 x) ((l0.length : Int) + 2) == i) = false := ht
      have HTT := Aside0.mk ht
      clear ht hstep
      go_wp2
      go_roundg (gk - 1)
      case measure => have := HJ.out; have := HJ3.out; omega
      case rel =>
       have e : outJ l0.length a b c m (j + 1) = outJ l0.length a b c m j := by unfold outJ; rw [← HM.out.1, HST.out]
       refine ⟨j + 1, q + 1, A6, c6, ?_, ?_, ⟨by have := HJ.out; omega, by have := HJ.out; have := HJ3.out; omega⟩, ⟨?_⟩, BA, HB⟩
       ·first | rfl | (simp; done)
       ·rw [e]
       ·rw [e]; exact HR.out
     | true =>
      rw [ht, Bool.or_true] at hstep
      have HST := Aside0.mk hstep
      have ht' : (Int.tmod (wrap64 x) ((l0.length : Int) + 2) == i) = true := ht
      clear ht hstep
      cases hh : hitJ l0.length a b c j i with
      | true =>
       rw [hh] at HHAS
       have HH := Aside0.mk hh
       clear hh
       go_wp2_with (first | (go_at_call 21; (with_reducible refine (cohousingref30_Has.calls _ A6 c6 (outJ l0.length a b c m j) i _ _ (Kd.R_reads' HR.out).2.2 (Kd.R_reads' HR.out).2.1 HHAS.out).mono ?_); rintro e w7 ⟨rfl, hd_⟩; have HB7 := Aside0.mk hd_.below; clear hd_))
       go_roundg (gk - 1)
       case measure => have := HJ.out; have := HJ3.out; omega
       case rel =>
        have e : outJ l0.length a b c m (j + 1) = outJ l0.length a b c m j := by unfold outJ; rw [← HM.out.1, HST.out, HH.out]
        refine ⟨j + 1, q + 1, A6, c6, ?_, ?_, ⟨by have := HJ.out; omega, by have := HJ.out; have := HJ3.out; omega⟩, ⟨?_⟩, ⟨blk_below BA.out HB7.out⟩, ⟨below_step HB.out HB7.out⟩⟩
        ·first | rfl | (simp; done)
        ·rw [e]
        ·rw [e]; exact Kd.R_below HR.out HB7.out
      | false =>
       rw [hh] at HHAS
       have HH := Aside0.mk hh
       clear hh
       go_wp2_with (first | (go_at_call 21; (with_reducible refine (cohousingref30_Has.calls _ A6 c6 (outJ l0.length a b c m j) i _ _ (Kd.R_reads' HR.out).2.2 (Kd.R_reads' HR.out).2.1 HHAS.out).mono ?_); rintro e w7 ⟨rfl, hd_⟩; have HB7 := Aside0.mk hd_.below; clear hd_) | ((with_reducible refine gate_builtin (b := .append) (xs := #[.tmp 32, .tmp 34]) rfl ?_); at_builtin; refine Kd.R_append (Kd.int .i64) (w0 := w) w.heap.size rfl (.tmp 32) (.tmp 34) 26 3 (.int .i64 0) 8 rfl Try.underlying26 info3 rfl (by decide) (by omega) (.slice A6 (outJ l0.length a b c m j).length c6) (outJ l0.length a b c m j) i [.int .i64 i] (fun _ => True) (fun _ => False) rfl rfl rfl (fun _ hk => hk.elim) (fun _ _ => trivial) (Kd.R_below HR.out HB7.out) (below_step HB.out HB7.out) (below_size (below_step HB.out HB7.out)) (by have := HOL.out; omega) ?_; intro v8 w8 ho hb hg hat; obtain ⟨A8, c8, e8⟩ := Kd.R_slice ho; subst e8; have HR8 := Aside0.mk ho; have HB8 := Aside0.mk hb; have BA8 := Aside0.mk (blk_grown (blk_below BA.out HB7.out) hg (Kd.R_ne (Kd.R_below HR.out HB7.out) (blk_below BA.out HB7.out) (by decide))); clear ho hb hg hat))
       go_roundg (gk - 1)
       case measure => have := HJ.out; have := HJ3.out; omega
       case rel =>
        have e : outJ l0.length a b c m (j + 1) = outJ l0.length a b c m j ++ [i] := by
         unfold outJ
         rw [← HM.out.1, HST.out, HH.out, if_pos rfl, if_neg (by decide)]
        refine ⟨j + 1, q + 1, A8, c8, ?_, ?_, ⟨by have := HJ.out; omega, by have := HJ.out; have := HJ3.out; omega⟩, ⟨?_⟩, BA8, HB8⟩
        ·first | rfl | (simp; done)
        ·rw [e, List.length_append]; rfl
        ·rw [e]; exact HR8.out
    ·have d2 : decide (q < (3 : Int)) = false := decide_eq_false (by have := HJ.out; omega)
     have hj3 : j = 3 := by have := HJ.out; omega
     have HJ3 := Aside0.mk hj3
     clear hj hj3
     go_wp2
     go_roundg (ko - 1)
     case measure => have := HKO.out; have := HM.out; have := HLT.out; omega
     case rel =>
      refine ⟨m + 1, i + 1, A6, c6, ?_, ?_, ⟨by have := HM.out; omega, by have := HKO.out; have := HM.out; have := HLT.out; omega⟩, ⟨?_⟩, BA, HB⟩
      ·first | rfl | (simp; done)
      ·rw [HJ3.out, outJ_three]
      ·have := HR.out
       rw [HJ3.out, outJ_three] at this
       exact this
  ·have d1 : decide (i < (l0.length : Int)) = false := decide_eq_false (by have := HM.out; omega)
   have hm : m = l0.length := by have := HM.out; omega
   have HM2 := Aside0.mk hm
   clear hlt hm
   go_wp2
   go_ret
   have := HR.out
   rw [HM2.out] at this ⊢
   exact ⟨_, rfl, this, HB.out⟩
end
section
mutual
def cohousinglaw30_LeakSmallest.j0 : Nat → Bool → List Int → List Int → Bool → Int → Bool → Option (Bool)
 | 0, _, _, _, _, _, _ => none
 | k + 1, x9, x10, x11, x12, x13, x47 => if x47 = true then (if x9 = true then (some (x13 == 0)) else (some false)) else (if x12 = true then (cohousinglaw30_LeakSmallest.j1 k x9 x10 x11 (decide ((x10.length : Int) < (x11.length : Int)))) else (cohousinglaw30_LeakSmallest.j1 k x9 x10 x11 true))
def cohousinglaw30_LeakSmallest.j1 : Nat → Bool → List Int → List Int → Bool → Option (Bool)
 | 0, _, _, _, _ => none
 | k + 1, x9, x10, x11, x61 => if x61 = true then (some false) else (cohousinglaw30_LeakSmallest.l0 k x9 x10 x11 (x11.length : Int) 0)
def cohousinglaw30_LeakSmallest.l0 : Nat → Bool → List Int → List Int → Int → Int → Option (Bool)
 | 0, _, _, _, _, _ => none
 | k + 1, x9, x10, x11, x63, x64 => if x64 < x63 then (if (x10.length : Int) > (x11.length : Int) then (cohousinglaw30_LeakSmallest.j3 k x9 x10 x11 x64 x63 x64 true) else (if 0 ≤ x64 then (if x64 < (x10.length : Int) then (if x64 < (x11.length : Int) then (cohousinglaw30_LeakSmallest.j3 k x9 x10 x11 x64 x63 x64 (decide ((rd x10 x64) > (rd x11 x64)))) else (none)) else (none)) else (none))) else (some x9)
def cohousinglaw30_LeakSmallest.j3 : Nat → Bool → List Int → List Int → Int → Int → Int → Bool → Option (Bool)
 | 0, _, _, _, _, _, _, _ => none
 | k + 1, x9, x10, x11, x14, x63, x64, x82 => if x82 = true then (some x9) else (if 0 ≤ x14 then (if x14 < (x10.length : Int) then (if x14 < (x11.length : Int) then (if (rd x10 x14) < (rd x11 x14) then (some false) else (cohousinglaw30_LeakSmallest.l0 k x9 x10 x11 x63 (wrap64 (x64 + 1)))) else (none)) else (none)) else (none))
end
def cohousinglaw30_LeakSmallest.f (k : Nat) (l0 : List (S44)) (l1 : List (S46)) (a2 : Int) (a3_0 : Int) (a3_1 : Int) (a3_2 : Int) : Option (Bool) := (cohousinglaw30_head.f k).bind fun t406 => ((cohousinglaw30_usable.f k l0 l1 a2).bind fun t407 => (if t407 = true then ((cohousinglaw30_chosen.f l0 a3_0 a3_1 a3_2).bind fun t408 => ((leak_Explain.f l0 l1 a2).bind fun bt411 => (if bt411.2.2 = 0 then (if (t408.length : Int) > a2 then (cohousinglaw30_LeakSmallest.j0 k t406 t408 bt411.1 bt411.2.1 bt411.2.2 true) else ((cohousinglaw30_explains.f k l0 l1 t408).bind fun t416 => (cohousinglaw30_LeakSmallest.j0 k t406 t408 bt411.1 bt411.2.1 bt411.2.2 (!t416)))) else (cohousinglaw30_LeakSmallest.j0 k t406 t408 bt411.1 bt411.2.1 bt411.2.2 true)))) else (some t406)))
theorem cohousinglaw30_LeakSmallest.calls (k : Nat) (A0 : Option Addr) (c0 : Nat) (l0 : List (S44)) (A1 : Option Addr) (c1 : Nat) (l1 : List (S46)) (a2 : Int) (a3_0 : Int) (a3_1 : Int) (a3_2 : Int) (r : Bool) (w : World) (hr0 : Kd.C k44 w A0 l0.length l0) (hc0 : l0.length ≤ c0) (hr1 : Kd.C k46 w A1 l1.length l1) (hc1 : l1.length ≤ c1) (h : cohousinglaw30_LeakSmallest.f k l0 l1 a2 a3_0 a3_1 a3_2 = some r) :
  Calls Try.prog 5 #[.slice A0 l0.length c0, .slice A1 l1.length c1, .int .i64 a2, .agg #[.int .u8 a3_0, .int .u8 a3_1, .int .u8 a3_2]] w fun e w' => e = .returned (.bool r) ∧ Below w.heap.size w w' := by
 have hu35 := Try.underlying35
 have HR0 := Aside0.mk hr0
 have HC0 := Aside0.mk hc0
 clear hr0 hc0
 have HR1 := Aside0.mk hr1
 have HC1 := Aside0.mk hc1
 clear hr1 hc1
 have HB := Aside0.mk (Below.refl w.heap.size w)
 have H : ((cohousinglaw30_head.f k).bind fun t406 => ((cohousinglaw30_usable.f k l0 l1 a2).bind fun t407 => (if t407 = true then ((cohousinglaw30_chosen.f l0 a3_0 a3_1 a3_2).bind fun t408 => ((leak_Explain.f l0 l1 a2).bind fun bt411 => (if bt411.2.2 = 0 then (if (t408.length : Int) > a2 then (cohousinglaw30_LeakSmallest.j0 k t406 t408 bt411.1 bt411.2.1 bt411.2.2 true) else ((cohousinglaw30_explains.f k l0 l1 t408).bind fun t416 => (cohousinglaw30_LeakSmallest.j0 k t406 t408 bt411.1 bt411.2.1 bt411.2.2 (!t416)))) else (cohousinglaw30_LeakSmallest.j0 k t406 t408 bt411.1 bt411.2.1 bt411.2.2 true)))) else (some t406)))) = some r := h
 clear h
 replace H := Option.bind_eq_some_iff.mp H
 obtain ⟨t406, A50, H⟩ := H
 replace H : ((cohousinglaw30_usable.f k l0 l1 a2).bind fun t407 => (if t407 = true then ((cohousinglaw30_chosen.f l0 a3_0 a3_1 a3_2).bind fun t408 => ((leak_Explain.f l0 l1 a2).bind fun bt411 => (if bt411.2.2 = 0 then (if (t408.length : Int) > a2 then (cohousinglaw30_LeakSmallest.j0 k t406 t408 bt411.1 bt411.2.1 bt411.2.2 true) else ((cohousinglaw30_explains.f k l0 l1 t408).bind fun t416 => (cohousinglaw30_LeakSmallest.j0 k t406 t408 bt411.1 bt411.2.1 bt411.2.2 (!t416)))) else (cohousinglaw30_LeakSmallest.j0 k t406 t408 bt411.1 bt411.2.1 bt411.2.2 true)))) else (some t406))) = some r := H
 have A5 := Aside0.mk A50
 clear A50
 replace H := Option.bind_eq_some_iff.mp H
 obtain ⟨t407, A60, H⟩ := H
 replace H : (if t407 = true then ((cohousinglaw30_chosen.f l0 a3_0 a3_1 a3_2).bind fun t408 => ((leak_Explain.f l0 l1 a2).bind fun bt411 => (if bt411.2.2 = 0 then (if (t408.length : Int) > a2 then (cohousinglaw30_LeakSmallest.j0 k t406 t408 bt411.1 bt411.2.1 bt411.2.2 true) else ((cohousinglaw30_explains.f k l0 l1 t408).bind fun t416 => (cohousinglaw30_LeakSmallest.j0 k t406 t408 bt411.1 bt411.2.1 bt411.2.2 (!t416)))) else (cohousinglaw30_LeakSmallest.j0 k t406 t408 bt411.1 bt411.2.1 bt411.2.2 true)))) else (some t406)) = some r := H
 have A6 := Aside0.mk A60
 clear A60
 by_cases c7 : t407 = true
 ·subst c7
  have H1 : ((cohousinglaw30_chosen.f l0 a3_0 a3_1 a3_2).bind fun t408 => ((leak_Explain.f l0 l1 a2).bind fun bt411 => (if bt411.2.2 = 0 then (if (t408.length : Int) > a2 then (cohousinglaw30_LeakSmallest.j0 k t406 t408 bt411.1 bt411.2.1 bt411.2.2 true) else ((cohousinglaw30_explains.f k l0 l1 t408).bind fun t416 => (cohousinglaw30_LeakSmallest.j0 k t406 t408 bt411.1 bt411.2.1 bt411.2.2 (!t416)))) else (cohousinglaw30_LeakSmallest.j0 k t406 t408 bt411.1 bt411.2.1 bt411.2.2 true)))) = some r := by rw [if_pos rfl] at H; exact H
  clear H
  have H := H1
  clear H1
  replace H := Option.bind_eq_some_iff.mp H
  obtain ⟨t408, A80, H⟩ := H
  replace H : ((leak_Explain.f l0 l1 a2).bind fun bt411 => (if bt411.2.2 = 0 then (if (t408.length : Int) > a2 then (cohousinglaw30_LeakSmallest.j0 k t406 t408 bt411.1 bt411.2.1 bt411.2.2 true) else ((cohousinglaw30_explains.f k l0 l1 t408).bind fun t416 => (cohousinglaw30_LeakSmallest.j0 k t406 t408 bt411.1 bt411.2.1 bt411.2.2 (!t416)))) else (cohousinglaw30_LeakSmallest.j0 k t406 t408 bt411.1 bt411.2.1 bt411.2.2 true))) = some r := H
  have A8 := Aside0.mk A80
  clear A80
  replace H := Option.bind_eq_some_iff.mp H
  obtain ⟨⟨t411, t412, t413⟩, A90, H⟩ := H
  replace H : (if t413 = 0 then (if (t408.length : Int) > a2 then (cohousinglaw30_LeakSmallest.j0 k t406 t408 t411 t412 t413 true) else ((cohousinglaw30_explains.f k l0 l1 t408).bind fun t416 => (cohousinglaw30_LeakSmallest.j0 k t406 t408 t411 t412 t413 (!t416)))) else (cohousinglaw30_LeakSmallest.j0 k t406 t408 t411 t412 t413 true)) = some r := H
  have A9 := Aside0.mk A90
  clear A90
  have HC10 := Aside0.mk H
  clear H
  go_enter Try.func5, Try.ntmps5
  go_upto_region 6 with (first | ((with_reducible refine gate_dst (N := 7) rfl ?_); (try (refine gate_guard (by rfl) ?_; dsimp only)); refine box_event ?hg (N := 7) ?hd (cs := #[.int .u8 a3_0, .int .u8 a3_1, .int .u8 a3_2]) (t := 35) ?hr ?_; (case hd => rfl); (case hg => rfl); (case hr => first | (go_simp; done) | (go_simp; rfl)); intro gb405 hg w11 hbox hb; have n0_ := Aside0.mk (below_step (bb_ HB) hb); have n1_ := Aside0.mk (hbox); have n2_ := Aside0.mk ((by rw [hg]; exact (below_size (bb_ HB)) : w.heap.size ≤ gb405)); have n3_ := Aside0.mk ((by rw [hg]; exact (below_size (bb_ HB)) : w.heap.size ≤ gb405)); clear HB; have HB := n0_; have BK405 := n1_; have GW405 := n2_; have GE405 := n3_; clear n0_ n1_ n2_ n3_; clear hb hbox hg) | (go_at_call 11; (with_reducible refine (cohousinglaw30_head.calls k  t406 _ A5.out).mono ?_); rintro e w12 ⟨rfl, hb⟩; have n0_ := Aside0.mk (blk_below (g := gb405) (o := .cells #[.int .u8 a3_0, .int .u8 a3_1, .int .u8 a3_2] 35 (0, 0)) (kk_ BK405) hb); have n1_ := Aside0.mk (below_step (bs_ HB GE405.out) hb); clear BK405; clear HB; have BK405 := n0_; have HB := n1_; clear n0_ n1_; (try clear hb); (try clear hb2); (try clear hk); (try clear hi)) | (go_at_call 18; (with_reducible refine (cohousinglaw30_usable.calls k _ _ l0 _ _ l1 a2 true _ ?side1 ?side2 ?side3 ?side4 A6.out).mono ?_); (case side1 => exact cc_ ((Kd.C_below HR0.out HB.out))); (case side2 => exact HC0.out); (case side3 => exact cc_ ((Kd.C_below HR1.out HB.out))); (case side4 => exact HC1.out); rintro e w13 ⟨rfl, hb⟩; have n0_ := Aside0.mk (blk_below (g := gb405) (o := .cells #[.int .u8 a3_0, .int .u8 a3_1, .int .u8 a3_2] 35 (0, 0)) (kk_ BK405) hb); have n1_ := Aside0.mk (below_step (bs_ HB GE405.out) hb); clear BK405; clear HB; have BK405 := n0_; have HB := n1_; clear n0_ n1_; (try clear hb); (try clear hb2); (try clear hk); (try clear hi); have hcz14_0 : w13.cell? ⟨gb405, 0, none⟩ = some (.int .u8 a3_0) := (blk_cell BK405.out 0).trans rfl; have hcz14_1 : w13.cell? ⟨gb405, 1, none⟩ = some (.int .u8 a3_1) := (blk_cell BK405.out 1).trans rfl; have hcz14_2 : w13.cell? ⟨gb405, 2, none⟩ = some (.int .u8 a3_2) := (blk_cell BK405.out 2).trans rfl; have hfz14_0 := blk_frozen BK405.out 0; have hfz14_1 := blk_frozen BK405.out 1; have hfz14_2 := blk_frozen BK405.out 2) | (go_at_call 20; (with_reducible refine (cohousinglaw30_chosen.calls _ _ l0 a3_0 a3_1 a3_2 t408 _ ?side1 ?side2 A8.out).mono ?_); (case side1 => exact cc_ ((Kd.C_below HR0.out HB.out))); (case side2 => exact HC0.out); rintro e w15 ⟨v409, rfl, ho0, hb⟩; have n0_ := Aside0.mk (Kd.R_lower ho0 (below_size (bs_ HB GE405.out))); have n1_ := Aside0.mk (blk_below (g := gb405) (o := .cells #[.int .u8 a3_0, .int .u8 a3_1, .int .u8 a3_2] 35 (0, 0)) (kk_ BK405) hb); have n2_ := Aside0.mk (below_step (bs_ HB GE405.out) hb); clear BK405; clear HB; have HO410 := n0_; have BK405 := n1_; have HB := n2_; clear n0_ n1_ n2_; (try clear hb); (try clear hb2); (try clear hk); (try clear hi); (try clear ho0)) | (go_at_call 13; (with_reducible refine (leak_Explain.calls _ _ l0 _ _ l1 a2 t411 t412 t413 _ ?side1 ?side2 ?side3 ?side4 A9.out).mono ?_); (case side1 => exact cc_ ((Kd.C_below HR0.out HB.out))); (case side2 => exact HC0.out); (case side3 => exact cc_ ((Kd.C_below HR1.out HB.out))); (case side4 => exact HC1.out); rintro e w16 ⟨v414, rfl, ho0, hb⟩; have n0_ := Aside0.mk (Kd.R_elder' (rr_ HO410) (Kd.R_base ho0) hb); have n1_ := Aside0.mk (Kd.R_lower (Kd.R_new' ho0 (Kd.R_lt (rr_ HO410))) (below_size (bs_ HB GE405.out))); have n2_ := Aside0.mk (blk_below (g := gb405) (o := .cells #[.int .u8 a3_0, .int .u8 a3_1, .int .u8 a3_2] 35 (0, 0)) (kk_ BK405) hb); have n3_ := Aside0.mk (below_step (bs_ HB GE405.out) hb); clear HO410; clear BK405; clear HB; have HO410 := n0_; have HO415 := n1_; have BK405 := n2_; have HB := n3_; clear n0_ n1_ n2_ n3_; (try clear hb); (try clear hb2); (try clear hk); (try clear hi); (try clear ho0)))
  repeat (go_quiet (first | ((with_reducible refine gate_dst (N := 7) rfl ?_); (try (refine gate_guard (by rfl) ?_; dsimp only)); refine box_event ?hg (N := 7) ?hd (cs := #[.int .u8 a3_0, .int .u8 a3_1, .int .u8 a3_2]) (t := 35) ?hr ?_; (case hd => rfl); (case hg => rfl); (case hr => first | (go_simp; done) | (go_simp; rfl)); intro gb405 hg w11 hbox hb; have n0_ := Aside0.mk (below_step (bb_ HB) hb); have n1_ := Aside0.mk (hbox); have n2_ := Aside0.mk ((by rw [hg]; exact (below_size (bb_ HB)) : w.heap.size ≤ gb405)); have n3_ := Aside0.mk ((by rw [hg]; exact (below_size (bb_ HB)) : w.heap.size ≤ gb405)); clear HB; have HB := n0_; have BK405 := n1_; have GW405 := n2_; have GE405 := n3_; clear n0_ n1_ n2_ n3_; clear hb hbox hg) | (go_at_call 11; (with_reducible refine (cohousinglaw30_head.calls k  t406 _ A5.out).mono ?_); rintro e w12 ⟨rfl, hb⟩; have n0_ := Aside0.mk (blk_below (g := gb405) (o := .cells #[.int .u8 a3_0, .int .u8 a3_1, .int .u8 a3_2] 35 (0, 0)) (kk_ BK405) hb); have n1_ := Aside0.mk (below_step (bs_ HB GE405.out) hb); clear BK405; clear HB; have BK405 := n0_; have HB := n1_; clear n0_ n1_; (try clear hb); (try clear hb2); (try clear hk); (try clear hi)) | (go_at_call 18; (with_reducible refine (cohousinglaw30_usable.calls k _ _ l0 _ _ l1 a2 true _ ?side1 ?side2 ?side3 ?side4 A6.out).mono ?_); (case side1 => exact cc_ ((Kd.C_below HR0.out HB.out))); (case side2 => exact HC0.out); (case side3 => exact cc_ ((Kd.C_below HR1.out HB.out))); (case side4 => exact HC1.out); rintro e w13 ⟨rfl, hb⟩; have n0_ := Aside0.mk (blk_below (g := gb405) (o := .cells #[.int .u8 a3_0, .int .u8 a3_1, .int .u8 a3_2] 35 (0, 0)) (kk_ BK405) hb); have n1_ := Aside0.mk (below_step (bs_ HB GE405.out) hb); clear BK405; clear HB; have BK405 := n0_; have HB := n1_; clear n0_ n1_; (try clear hb); (try clear hb2); (try clear hk); (try clear hi); have hcz14_0 : w13.cell? ⟨gb405, 0, none⟩ = some (.int .u8 a3_0) := (blk_cell BK405.out 0).trans rfl; have hcz14_1 : w13.cell? ⟨gb405, 1, none⟩ = some (.int .u8 a3_1) := (blk_cell BK405.out 1).trans rfl; have hcz14_2 : w13.cell? ⟨gb405, 2, none⟩ = some (.int .u8 a3_2) := (blk_cell BK405.out 2).trans rfl; have hfz14_0 := blk_frozen BK405.out 0; have hfz14_1 := blk_frozen BK405.out 1; have hfz14_2 := blk_frozen BK405.out 2) | (go_at_call 20; (with_reducible refine (cohousinglaw30_chosen.calls _ _ l0 a3_0 a3_1 a3_2 t408 _ ?side1 ?side2 A8.out).mono ?_); (case side1 => exact cc_ ((Kd.C_below HR0.out HB.out))); (case side2 => exact HC0.out); rintro e w15 ⟨v409, rfl, ho0, hb⟩; have n0_ := Aside0.mk (Kd.R_lower ho0 (below_size (bs_ HB GE405.out))); have n1_ := Aside0.mk (blk_below (g := gb405) (o := .cells #[.int .u8 a3_0, .int .u8 a3_1, .int .u8 a3_2] 35 (0, 0)) (kk_ BK405) hb); have n2_ := Aside0.mk (below_step (bs_ HB GE405.out) hb); clear BK405; clear HB; have HO410 := n0_; have BK405 := n1_; have HB := n2_; clear n0_ n1_ n2_; (try clear hb); (try clear hb2); (try clear hk); (try clear hi); (try clear ho0)) | (go_at_call 13; (with_reducible refine (leak_Explain.calls _ _ l0 _ _ l1 a2 t411 t412 t413 _ ?side1 ?side2 ?side3 ?side4 A9.out).mono ?_); (case side1 => exact cc_ ((Kd.C_below HR0.out HB.out))); (case side2 => exact HC0.out); (case side3 => exact cc_ ((Kd.C_below HR1.out HB.out))); (case side4 => exact HC1.out); rintro e w16 ⟨v414, rfl, ho0, hb⟩; have n0_ := Aside0.mk (Kd.R_elder' (rr_ HO410) (Kd.R_base ho0) hb); have n1_ := Aside0.mk (Kd.R_lower (Kd.R_new' ho0 (Kd.R_lt (rr_ HO410))) (below_size (bs_ HB GE405.out))); have n2_ := Aside0.mk (blk_below (g := gb405) (o := .cells #[.int .u8 a3_0, .int .u8 a3_1, .int .u8 a3_2] 35 (0, 0)) (kk_ BK405) hb); have n3_ := Aside0.mk (below_step (bs_ HB GE405.out) hb); clear HO410; clear BK405; clear HB; have HO410 := n0_; have HO415 := n1_; have BK405 := n2_; have HB := n3_; clear n0_ n1_ n2_ n3_; (try clear hb); (try clear hb2); (try clear hk); (try clear hi); (try clear ho0))); go_upto_region 6 with (first | ((with_reducible refine gate_dst (N := 7) rfl ?_); (try (refine gate_guard (by rfl) ?_; dsimp only)); refine box_event ?hg (N := 7) ?hd (cs := #[.int .u8 a3_0, .int .u8 a3_1, .int .u8 a3_2]) (t := 35) ?hr ?_; (case hd => rfl); (case hg => rfl); (case hr => first | (go_simp; done) | (go_simp; rfl)); intro gb405 hg w11 hbox hb; have n0_ := Aside0.mk (below_step (bb_ HB) hb); have n1_ := Aside0.mk (hbox); have n2_ := Aside0.mk ((by rw [hg]; exact (below_size (bb_ HB)) : w.heap.size ≤ gb405)); have n3_ := Aside0.mk ((by rw [hg]; exact (below_size (bb_ HB)) : w.heap.size ≤ gb405)); clear HB; have HB := n0_; have BK405 := n1_; have GW405 := n2_; have GE405 := n3_; clear n0_ n1_ n2_ n3_; clear hb hbox hg) | (go_at_call 11; (with_reducible refine (cohousinglaw30_head.calls k  t406 _ A5.out).mono ?_); rintro e w12 ⟨rfl, hb⟩; have n0_ := Aside0.mk (blk_below (g := gb405) (o := .cells #[.int .u8 a3_0, .int .u8 a3_1, .int .u8 a3_2] 35 (0, 0)) (kk_ BK405) hb); have n1_ := Aside0.mk (below_step (bs_ HB GE405.out) hb); clear BK405; clear HB; have BK405 := n0_; have HB := n1_; clear n0_ n1_; (try clear hb); (try clear hb2); (try clear hk); (try clear hi)) | (go_at_call 18; (with_reducible refine (cohousinglaw30_usable.calls k _ _ l0 _ _ l1 a2 true _ ?side1 ?side2 ?side3 ?side4 A6.out).mono ?_); (case side1 => exact cc_ ((Kd.C_below HR0.out HB.out))); (case side2 => exact HC0.out); (case side3 => exact cc_ ((Kd.C_below HR1.out HB.out))); (case side4 => exact HC1.out); rintro e w13 ⟨rfl, hb⟩; have n0_ := Aside0.mk (blk_below (g := gb405) (o := .cells #[.int .u8 a3_0, .int .u8 a3_1, .int .u8 a3_2] 35 (0, 0)) (kk_ BK405) hb); have n1_ := Aside0.mk (below_step (bs_ HB GE405.out) hb); clear BK405; clear HB; have BK405 := n0_; have HB := n1_; clear n0_ n1_; (try clear hb); (try clear hb2); (try clear hk); (try clear hi); have hcz14_0 : w13.cell? ⟨gb405, 0, none⟩ = some (.int .u8 a3_0) := (blk_cell BK405.out 0).trans rfl; have hcz14_1 : w13.cell? ⟨gb405, 1, none⟩ = some (.int .u8 a3_1) := (blk_cell BK405.out 1).trans rfl; have hcz14_2 : w13.cell? ⟨gb405, 2, none⟩ = some (.int .u8 a3_2) := (blk_cell BK405.out 2).trans rfl; have hfz14_0 := blk_frozen BK405.out 0; have hfz14_1 := blk_frozen BK405.out 1; have hfz14_2 := blk_frozen BK405.out 2) | (go_at_call 20; (with_reducible refine (cohousinglaw30_chosen.calls _ _ l0 a3_0 a3_1 a3_2 t408 _ ?side1 ?side2 A8.out).mono ?_); (case side1 => exact cc_ ((Kd.C_below HR0.out HB.out))); (case side2 => exact HC0.out); rintro e w15 ⟨v409, rfl, ho0, hb⟩; have n0_ := Aside0.mk (Kd.R_lower ho0 (below_size (bs_ HB GE405.out))); have n1_ := Aside0.mk (blk_below (g := gb405) (o := .cells #[.int .u8 a3_0, .int .u8 a3_1, .int .u8 a3_2] 35 (0, 0)) (kk_ BK405) hb); have n2_ := Aside0.mk (below_step (bs_ HB GE405.out) hb); clear BK405; clear HB; have HO410 := n0_; have BK405 := n1_; have HB := n2_; clear n0_ n1_ n2_; (try clear hb); (try clear hb2); (try clear hk); (try clear hi); (try clear ho0)) | (go_at_call 13; (with_reducible refine (leak_Explain.calls _ _ l0 _ _ l1 a2 t411 t412 t413 _ ?side1 ?side2 ?side3 ?side4 A9.out).mono ?_); (case side1 => exact cc_ ((Kd.C_below HR0.out HB.out))); (case side2 => exact HC0.out); (case side3 => exact cc_ ((Kd.C_below HR1.out HB.out))); (case side4 => exact HC1.out); rintro e w16 ⟨v414, rfl, ho0, hb⟩; have n0_ := Aside0.mk (Kd.R_elder' (rr_ HO410) (Kd.R_base ho0) hb); have n1_ := Aside0.mk (Kd.R_lower (Kd.R_new' ho0 (Kd.R_lt (rr_ HO410))) (below_size (bs_ HB GE405.out))); have n2_ := Aside0.mk (blk_below (g := gb405) (o := .cells #[.int .u8 a3_0, .int .u8 a3_1, .int .u8 a3_2] 35 (0, 0)) (kk_ BK405) hb); have n3_ := Aside0.mk (below_step (bs_ HB GE405.out) hb); clear HO410; clear BK405; clear HB; have HO410 := n0_; have HO415 := n1_; have BK405 := n2_; have HB := n3_; clear n0_ n1_ n2_ n3_; (try clear hb); (try clear hb2); (try clear hk); (try clear hi); (try clear ho0))))
  (try simp only [Act.put, sI_, s0_, sS_])
  go_cut [47] (fun v47 wc => ∃ (kq : Nat) (x47_9 : Bool), v47 = .bool x47_9 ∧ Aside0 (cohousinglaw30_LeakSmallest.j0 kq t406 t408 t411 t412 t413 x47_9 = some r) ∧ Aside0 (kq ≤ k) ∧ Aside0 (Kd.R (Kd.int .i64) 3 wc w.heap.size (fun k_ => some k_ ≠ (v414 : Value).ownBlock) v409 t408) ∧ Aside0 (Kd.R (Kd.int .i64) 3 wc w.heap.size (fun k_ => some k_ ≠ (v409 : Value).ownBlock) v414 t411) ∧ Aside0 (wc.heap[gb405]? = some (.cells #[.int .u8 a3_0, .int .u8 a3_1, .int .u8 a3_2] 35 (0, 0))) ∧ Aside0 (Below w.heap.size w wc))
  case first =>
   have H := HC10.out
   clear HC10
   by_cases c17 : t413 = 0
   ·rw [if_pos c17] at H
    have c17b0 : (t413 == 0) = true := beq_iff_eq.mpr c17
    have c17b1 : (t413 != 0) = false := bne_eq_false_iff_eq.mpr c17
    clear c17
    (first | rw [c17b0] | (simp only [i64_w, i32_w]; rw [c17b0]) | skip)
    by_cases c18 : (t408.length : Int) > a2
    ·rw [if_pos c18] at H
     have c18b0 : decide (a2 < (t408.length : Int)) = true := decide_eq_true c18
     clear c18
     have H' := Aside0.mk H
     clear H
     obtain ⟨Ao19, co19, eo19⟩ := Kd.R_slice HO410.out
     subst eo19
     go_wp2
     repeat (go_quiet (fail); try go_wp2)
     go_meet
     case rel => exact ⟨_, (true), sd_, H', ⟨by first | omega | exact Nat.le_refl _⟩, ⟨by (with_reducible repeat (first | apply Kd.R_alloc | apply Kd.R_drewN | apply Kd.R_drew)); exact Kd.R_mono HO410.out (fun _ hk => hk.2)⟩, ⟨by (with_reducible repeat (first | apply Kd.R_alloc | apply Kd.R_drewN | apply Kd.R_drew)); exact Kd.R_mono HO415.out (fun _ hk => hk.2)⟩, ⟨by (with_reducible repeat (first | refine blk_drewN ?_ _ | refine blk_drew ?_ | refine blk_alloc ?_ _)); exact BK405.out⟩, ⟨by repeat (first | (with_reducible first | exact HB.out | apply below_alloc | apply pw_below_drewN | apply below_drew1 | refine below_set ?_ GE405.out) | exact HB.out)⟩⟩
    ·rw [if_neg c18] at H
     have c18b0 : decide (a2 < (t408.length : Int)) = false := decide_eq_false c18
     clear c18
     replace H := Option.bind_eq_some_iff.mp H
     obtain ⟨t416, A200, H⟩ := H
     replace H : (cohousinglaw30_LeakSmallest.j0 k t406 t408 t411 t412 t413 (!t416)) = some r := H
     have A20 := Aside0.mk A200
     clear A200
     have H' := Aside0.mk H
     clear H
     obtain ⟨Ao21, co21, eo21⟩ := Kd.R_slice HO410.out
     subst eo21
     go_wp2_with (first | (go_at_call 19; (with_reducible refine (cohousinglaw30_explains.calls k _ _ l0 _ _ l1 _ _ t408 t416 _ ?side1 ?side2 ?side3 ?side4 ?side5 ?side6 A20.out).mono ?_); (case side1 => exact cc_ ((Kd.C_below HR0.out HB.out))); (case side2 => exact HC0.out); (case side3 => exact cc_ ((Kd.C_below HR1.out HB.out))); (case side4 => exact HC1.out); (case side5 => exact cc_ ((Kd.R_reads' HO410.out).2.2)); (case side6 => exact (Kd.R_reads' HO410.out).2.1); rintro e w22 ⟨rfl, hb⟩; have n0_ := Aside0.mk (Kd.R_below (rr_ HO410) hb); have n1_ := Aside0.mk (Kd.R_below (rr_ HO415) hb); have n2_ := Aside0.mk (blk_below (g := gb405) (o := .cells #[.int .u8 a3_0, .int .u8 a3_1, .int .u8 a3_2] 35 (0, 0)) (kk_ BK405) hb); have n3_ := Aside0.mk (below_step (bs_ HB GE405.out) hb); clear HO410; clear HO415; clear BK405; clear HB; have HO410 := n0_; have HO415 := n1_; have BK405 := n2_; have HB := n3_; clear n0_ n1_ n2_ n3_; (try clear hb); (try clear hb2); (try clear hk); (try clear hi)))
     repeat (go_quiet (first | (go_at_call 19; (with_reducible refine (cohousinglaw30_explains.calls k _ _ l0 _ _ l1 _ _ t408 t416 _ ?side1 ?side2 ?side3 ?side4 ?side5 ?side6 A20.out).mono ?_); (case side1 => exact cc_ ((Kd.C_below HR0.out HB.out))); (case side2 => exact HC0.out); (case side3 => exact cc_ ((Kd.C_below HR1.out HB.out))); (case side4 => exact HC1.out); (case side5 => exact cc_ ((Kd.R_reads' HO410.out).2.2)); (case side6 => exact (Kd.R_reads' HO410.out).2.1); rintro e w22 ⟨rfl, hb⟩; have n0_ := Aside0.mk (Kd.R_below (rr_ HO410) hb); have n1_ := Aside0.mk (Kd.R_below (rr_ HO415) hb); have n2_ := Aside0.mk (blk_below (g := gb405) (o := .cells #[.int .u8 a3_0, .int .u8 a3_1, .int .u8 a3_2] 35 (0, 0)) (kk_ BK405) hb); have n3_ := Aside0.mk (below_step (bs_ HB GE405.out) hb); clear HO410; clear HO415; clear BK405; clear HB; have HO410 := n0_; have HO415 := n1_; have BK405 := n2_; have HB := n3_; clear n0_ n1_ n2_ n3_; (try clear hb); (try clear hb2); (try clear hk); (try clear hi))); try go_wp2_with (first | (go_at_call 19; (with_reducible refine (cohousinglaw30_explains.calls k _ _ l0 _ _ l1 _ _ t408 t416 _ ?side1 ?side2 ?side3 ?side4 ?side5 ?side6 A20.out).mono ?_); (case side1 => exact cc_ ((Kd.C_below HR0.out HB.out))); (case side2 => exact HC0.out); (case side3 => exact cc_ ((Kd.C_below HR1.out HB.out))); (case side4 => exact HC1.out); (case side5 => exact cc_ ((Kd.R_reads' HO410.out).2.2)); (case side6 => exact (Kd.R_reads' HO410.out).2.1); rintro e w22 ⟨rfl, hb⟩; have n0_ := Aside0.mk (Kd.R_below (rr_ HO410) hb); have n1_ := Aside0.mk (Kd.R_below (rr_ HO415) hb); have n2_ := Aside0.mk (blk_below (g := gb405) (o := .cells #[.int .u8 a3_0, .int .u8 a3_1, .int .u8 a3_2] 35 (0, 0)) (kk_ BK405) hb); have n3_ := Aside0.mk (below_step (bs_ HB GE405.out) hb); clear HO410; clear HO415; clear BK405; clear HB; have HO410 := n0_; have HO415 := n1_; have BK405 := n2_; have HB := n3_; clear n0_ n1_ n2_ n3_; (try clear hb); (try clear hb2); (try clear hk); (try clear hi))))
     go_meet
     case rel => exact ⟨_, (!t416), sd_, H', ⟨by first | omega | exact Nat.le_refl _⟩, ⟨by (with_reducible repeat (first | apply Kd.R_alloc | apply Kd.R_drewN | apply Kd.R_drew)); exact Kd.R_mono HO410.out (fun _ hk => hk.2)⟩, ⟨by (with_reducible repeat (first | apply Kd.R_alloc | apply Kd.R_drewN | apply Kd.R_drew)); exact Kd.R_mono HO415.out (fun _ hk => hk.2)⟩, ⟨by (with_reducible repeat (first | refine blk_drewN ?_ _ | refine blk_drew ?_ | refine blk_alloc ?_ _)); exact BK405.out⟩, ⟨by repeat (first | (with_reducible first | exact HB.out | apply below_alloc | apply pw_below_drewN | apply below_drew1 | refine below_set ?_ GE405.out) | exact HB.out)⟩⟩
   ·rw [if_neg c17] at H
    have c17b0 : (t413 == 0) = false := beq_eq_false_iff_ne.mpr c17
    have c17b1 : (t413 != 0) = true := bne_iff_ne.mpr c17
    (first | rw [c17b0] | (simp only [i64_w, i32_w]; rw [c17b0]) | skip)
    have H' := Aside0.mk H
    clear H
    go_wp2
    repeat (go_quiet (fail); try go_wp2)
    go_meet
    case rel => exact ⟨_, (true), sd_, H', ⟨by first | omega | exact Nat.le_refl _⟩, ⟨by (with_reducible repeat (first | apply Kd.R_alloc | apply Kd.R_drewN | apply Kd.R_drew)); exact Kd.R_mono HO410.out (fun _ hk => hk.2)⟩, ⟨by (with_reducible repeat (first | apply Kd.R_alloc | apply Kd.R_drewN | apply Kd.R_drew)); exact Kd.R_mono HO415.out (fun _ hk => hk.2)⟩, ⟨by (with_reducible repeat (first | refine blk_drewN ?_ _ | refine blk_drew ?_ | refine blk_alloc ?_ _)); exact BK405.out⟩, ⟨by repeat (first | (with_reducible first | exact HB.out | apply below_alloc | apply pw_below_drewN | apply below_drew1 | refine below_set ?_ GE405.out) | exact HB.out)⟩⟩
  case rest =>
   clear HC10
   try clear c1
   try clear p2
   try clear c5
   try clear c7
   try clear c17
   try clear c17b0
   try clear c17b1
   try clear c18
   try clear c18b0
   try clear hcz14_0
   try clear hcz14_1
   try clear hcz14_2
   try clear hfz14_0
   try clear hfz14_1
   try clear hfz14_2
   obtain ⟨kq, x47_9, rfl, HA, HJ9, HO_10, HO_11, BK405, HB⟩ := hcut
   cases kq with
   | zero => exact absurd HA.out (by simp [cohousinglaw30_LeakSmallest.j0])
   | succ kj9 =>
    have H := HA.out
    clear HA
    simp only [cohousinglaw30_LeakSmallest.j0] at H
    by_cases c23 : x47_9 = true
    ·subst c23
     have H1 : (if t406 = true then (some (t413 == 0)) else (some false)) = some r := by rw [if_pos rfl] at H; exact H
     clear H
     have H := H1
     clear H1
     by_cases c24 : t406 = true
     ·subst c24
      have H1 : (some (t413 == 0)) = some r := by rw [if_pos rfl] at H; exact H
      clear H
      have H := H1
      clear H1
      obtain rfl := Option.some.inj H
      go_wp2
      repeat (go_quiet (fail); try go_wp2)
      go_ret
      exact ⟨ew_, by repeat (first | (with_reducible first | exact HB.out | apply below_alloc | apply pw_below_drewN | apply below_drew1 | refine below_set ?_ GE405.out) | exact HB.out)⟩
     ·replace c24 := Bool.eq_false_iff.mpr c24
      subst c24
      have H1 : (some false) = some r := by rw [if_neg (show ¬ (false = true) by decide)] at H; exact H
      clear H
      have H := H1
      clear H1
      obtain rfl := Option.some.inj H
      go_wp2
      repeat (go_quiet (fail); try go_wp2)
      go_ret
      exact ⟨ew_, by repeat (first | (with_reducible first | exact HB.out | apply below_alloc | apply pw_below_drewN | apply below_drew1 | refine below_set ?_ GE405.out) | exact HB.out)⟩
    ·replace c23 := Bool.eq_false_iff.mpr c23
     subst c23
     have H1 : (if t412 = true then (cohousinglaw30_LeakSmallest.j1 kj9 t406 t408 t411 (decide ((t408.length : Int) < (t411.length : Int)))) else (cohousinglaw30_LeakSmallest.j1 kj9 t406 t408 t411 true)) = some r := by rw [if_neg (show ¬ (false = true) by decide)] at H; exact H
     clear H
     have H := H1
     clear H1
     have HC25 := Aside0.mk H
     clear H
     go_upto_region 8 with (fail)
     repeat (go_quiet (fail); go_upto_region 8 with (fail))
     go_cut [61] (fun v61 wc => ∃ (kq : Nat) (x61_24 : Bool), v61 = .bool x61_24 ∧ Aside0 (cohousinglaw30_LeakSmallest.j1 kq t406 t408 t411 x61_24 = some r) ∧ Aside0 (kq ≤ kj9) ∧ Aside0 (Kd.R (Kd.int .i64) 3 wc w.heap.size (fun k_ => some k_ ≠ (v414 : Value).ownBlock) v409 t408) ∧ Aside0 (Kd.R (Kd.int .i64) 3 wc w.heap.size (fun k_ => some k_ ≠ (v409 : Value).ownBlock) v414 t411) ∧ Aside0 (wc.heap[gb405]? = some (.cells #[.int .u8 a3_0, .int .u8 a3_1, .int .u8 a3_2] 35 (0, 0))) ∧ Aside0 (Below w.heap.size w wc))
     case first =>
      have H := HC25.out
      clear HC25
      by_cases c26 : t412 = true
      ·subst c26
       have H1 : (cohousinglaw30_LeakSmallest.j1 kj9 t406 t408 t411 (decide ((t408.length : Int) < (t411.length : Int)))) = some r := by rw [if_pos rfl] at H; exact H
       clear H
       have H := H1
       clear H1
       have H' := Aside0.mk H
       clear H
       obtain ⟨Ao27, co27, eo27⟩ := Kd.R_slice HO_10.out
       subst eo27
       obtain ⟨Ao28, co28, eo28⟩ := Kd.R_slice HO_11.out
       subst eo28
       go_wp2
       repeat (go_quiet (fail); try go_wp2)
       go_meet
       case rel => exact ⟨_, (decide ((t408.length : Int) < (t411.length : Int))), sd_, H', ⟨by have := HJ9.out; first | omega | exact Nat.le_refl _⟩, ⟨by (with_reducible repeat (first | apply Kd.R_alloc | apply Kd.R_drewN | apply Kd.R_drew)); exact HO_10.out⟩, ⟨by (with_reducible repeat (first | apply Kd.R_alloc | apply Kd.R_drewN | apply Kd.R_drew)); exact HO_11.out⟩, ⟨by (with_reducible repeat (first | refine blk_drewN ?_ _ | refine blk_drew ?_ | refine blk_alloc ?_ _)); exact BK405.out⟩, ⟨by repeat (first | (with_reducible first | exact HB.out | apply below_alloc | apply pw_below_drewN | apply below_drew1 | refine below_set ?_ GE405.out) | exact HB.out)⟩⟩
      ·replace c26 := Bool.eq_false_iff.mpr c26
       subst c26
       have H1 : (cohousinglaw30_LeakSmallest.j1 kj9 t406 t408 t411 true) = some r := by rw [if_neg (show ¬ (false = true) by decide)] at H; exact H
       clear H
       have H := H1
       clear H1
       have H' := Aside0.mk H
       clear H
       go_wp2
       repeat (go_quiet (fail); try go_wp2)
       go_meet
       case rel => exact ⟨_, (true), sd_, H', ⟨by have := HJ9.out; first | omega | exact Nat.le_refl _⟩, ⟨by (with_reducible repeat (first | apply Kd.R_alloc | apply Kd.R_drewN | apply Kd.R_drew)); exact HO_10.out⟩, ⟨by (with_reducible repeat (first | apply Kd.R_alloc | apply Kd.R_drewN | apply Kd.R_drew)); exact HO_11.out⟩, ⟨by (with_reducible repeat (first | refine blk_drewN ?_ _ | refine blk_drew ?_ | refine blk_alloc ?_ _)); exact BK405.out⟩, ⟨by repeat (first | (with_reducible first | exact HB.out | apply below_alloc | apply pw_below_drewN | apply below_drew1 | refine below_set ?_ GE405.out) | exact HB.out)⟩⟩
     case rest =>
      clear HC25
      try clear c1
      try clear c2
      try clear p2
      try clear c5
      try clear c7
      try clear c17
      try clear c17b0
      try clear c17b1
      try clear c18
      try clear c18b0
      try clear c23
      try clear c24
      try clear c26
      try clear hcz14_0
      try clear hcz14_1
      try clear hcz14_2
      try clear hfz14_0
      try clear hfz14_1
      try clear hfz14_2
      try clear p2
      obtain ⟨kq, x61_24, rfl, HA, HJ24, HO_10, HO_11, BK405, HB⟩ := hcut
      cases kq with
      | zero => exact absurd HA.out (by simp [cohousinglaw30_LeakSmallest.j1])
      | succ kj24 =>
       have H := HA.out
       clear HA
       simp only [cohousinglaw30_LeakSmallest.j1] at H
       by_cases c29 : x61_24 = true
       ·subst c29
        have H1 : (some false) = some r := by rw [if_pos rfl] at H; exact H
        clear H
        have H := H1
        clear H1
        obtain rfl := Option.some.inj H
        go_wp2
        repeat (go_quiet (fail); try go_wp2)
        go_ret
        exact ⟨ew_, by repeat (first | (with_reducible first | exact HB.out | apply below_alloc | apply pw_below_drewN | apply below_drew1 | refine below_set ?_ GE405.out) | exact HB.out)⟩
       ·replace c29 := Bool.eq_false_iff.mpr c29
        subst c29
        have H1 : (cohousinglaw30_LeakSmallest.l0 kj24 t406 t408 t411 (t411.length : Int) 0) = some r := by rw [if_neg (show ¬ (false = true) by decide)] at H; exact H
        clear H
        have H := H1
        clear H1
        have H' := Aside0.mk H
        clear H
        obtain ⟨Ao30, co30, eo30⟩ := Kd.R_slice HO_11.out
        subst eo30
        go_wp2
        repeat (go_quiet (fail); try go_wp2)
        go_loopg [64] kj24 (fun kq v64 w' => ∃ (x64_3 : Int), v64 = .int .i64 x64_3 ∧ Aside0 (cohousinglaw30_LeakSmallest.l0 kq t406 t408 t411 (t411.length : Int) x64_3 = some r) ∧ Aside0 (kq ≤ kj24) ∧ Aside0 (Kd.R (Kd.int .i64) 3 w' w.heap.size (fun k_ => some k_ ≠ ((.slice Ao30 t411.length co30) : Value).ownBlock) v409 t408) ∧ Aside0 (Kd.R (Kd.int .i64) 3 w' w.heap.size (fun k_ => some k_ ≠ (v409 : Value).ownBlock) (.slice Ao30 t411.length co30) t411) ∧ Aside0 (w'.heap[gb405]? = some (.cells #[.int .u8 a3_0, .int .u8 a3_1, .int .u8 a3_2] 35 (0, 0))) ∧ Aside0 (Below w.heap.size w w'))
        case atStart => exact ⟨(0), sd_, H', ⟨Nat.le_refl _⟩, ⟨by (with_reducible repeat (first | apply Kd.R_alloc | apply Kd.R_drewN | apply Kd.R_drew)); exact HO_10.out⟩, ⟨by (with_reducible repeat (first | apply Kd.R_alloc | apply Kd.R_drewN | apply Kd.R_drew)); exact HO_11.out⟩, ⟨by (with_reducible repeat (first | refine blk_drewN ?_ _ | refine blk_drew ?_ | refine blk_alloc ?_ _)); exact BK405.out⟩, ⟨by repeat (first | (with_reducible first | exact HB.out | apply below_alloc | apply pw_below_drewN | apply below_drew1 | refine below_set ?_ GE405.out) | exact HB.out)⟩⟩
        case round =>
         clear H'
         try clear c1
         try clear c2
         try clear p2
         try clear c5
         try clear c7
         try clear c17
         try clear c17b0
         try clear c17b1
         try clear c18
         try clear c18b0
         try clear c23
         try clear c24
         try clear c26
         try clear c29
         try clear hcz14_0
         try clear hcz14_1
         try clear hcz14_2
         try clear hfz14_0
         try clear hfz14_1
         try clear hfz14_2
         try clear p2
         obtain ⟨x64_3, rfl, HA, HK3, HO_10, HO_11, BK405, HB⟩ := hrel
         cases gk with
         | zero => exact absurd HA.out (by simp [cohousinglaw30_LeakSmallest.l0])
         | succ k3 =>
          have H := HA.out
          clear HA
          simp only [cohousinglaw30_LeakSmallest.l0] at H
          by_cases c31 : x64_3 < (t411.length : Int)
          ·rw [if_pos c31] at H
           have c31b0 : decide (x64_3 < (t411.length : Int)) = true := decide_eq_true c31
           clear c31
           have HC32 := Aside0.mk H
           clear H
           go_upto_region 13 with (fail)
           repeat (go_quiet (fail); go_upto_region 13 with (fail))
           go_cut [82] (fun v82 wc => ∃ (kq : Nat) (x82_31 : Bool), v82 = .bool x82_31 ∧ Aside0 (cohousinglaw30_LeakSmallest.j3 kq t406 t408 t411 x64_3 (t411.length : Int) x64_3 x82_31 = some r) ∧ Aside0 (kq ≤ k3) ∧ Aside0 (Kd.R (Kd.int .i64) 3 wc w.heap.size (fun k_ => some k_ ≠ ((.slice Ao30 t411.length co30) : Value).ownBlock) v409 t408) ∧ Aside0 (Kd.R (Kd.int .i64) 3 wc w.heap.size (fun k_ => some k_ ≠ (v409 : Value).ownBlock) (.slice Ao30 t411.length co30) t411) ∧ Aside0 (wc.heap[gb405]? = some (.cells #[.int .u8 a3_0, .int .u8 a3_1, .int .u8 a3_2] 35 (0, 0))) ∧ Aside0 (Below w.heap.size w wc))
           case first =>
            have H := HC32.out
            clear HC32
            by_cases c33 : (t408.length : Int) > (t411.length : Int)
            ·rw [if_pos c33] at H
             have c33b0 : decide ((t411.length : Int) < (t408.length : Int)) = true := decide_eq_true c33
             have c33b1 : decide (t411.length < t408.length) = true := decide_eq_true (Int.ofNat_lt.mp c33)
             clear c33
             (first | rw [c33b0] | (simp only [i64_w, i32_w]; rw [c33b0]) | skip)
             have H' := Aside0.mk H
             clear H
             obtain ⟨Ao34, co34, eo34⟩ := Kd.R_slice HO_10.out
             subst eo34
             go_wp2
             repeat (go_quiet (fail); try go_wp2)
             go_meet
             case rel => exact ⟨_, (true), sd_, H', ⟨by have := HJ9.out; have := HJ24.out; have := HK3.out; first | omega | exact Nat.le_refl _⟩, ⟨by (with_reducible repeat (first | apply Kd.R_alloc | apply Kd.R_drewN | apply Kd.R_drew)); exact HO_10.out⟩, ⟨by (with_reducible repeat (first | apply Kd.R_alloc | apply Kd.R_drewN | apply Kd.R_drew)); exact HO_11.out⟩, ⟨by (with_reducible repeat (first | refine blk_drewN ?_ _ | refine blk_drew ?_ | refine blk_alloc ?_ _)); exact BK405.out⟩, ⟨by repeat (first | (with_reducible first | exact HB.out | apply below_alloc | apply pw_below_drewN | apply below_drew1 | refine below_set ?_ GE405.out) | exact HB.out)⟩⟩
            ·rw [if_neg c33] at H
             have c33b0 : decide ((t411.length : Int) < (t408.length : Int)) = false := decide_eq_false c33
             have c33b1 : decide (t411.length < t408.length) = false := decide_eq_false (fun h => c33 (Int.ofNat_lt.mpr h))
             clear c33
             (first | rw [c33b0] | (simp only [i64_w, i32_w]; rw [c33b0]) | skip)
             by_cases c35 : 0 ≤ x64_3
             ·rw [if_pos c35] at H
              have c35b0 : decide (0 ≤ x64_3) = true := decide_eq_true c35
              clear c35
              by_cases c36 : x64_3 < (t408.length : Int)
              ·rw [if_pos c36] at H
               have c36b0 : decide (x64_3 < (t408.length : Int)) = true := decide_eq_true c36
               clear c36
               by_cases c37 : x64_3 < (t411.length : Int)
               ·rw [if_pos c37] at H
                have c37b0 : decide (x64_3 < (t411.length : Int)) = true := decide_eq_true c37
                clear c37
                have H' := Aside0.mk H
                clear H
                obtain ⟨Ao38, co38, eo38⟩ := Kd.R_slice HO_10.out
                subst eo38
                have p417 : 0 ≤ (x64_3 : Int) := od_
                have q417 : x64_3 < (t408.length : Int) := od_
                obtain ⟨ad417, e417, hx417_0⟩ := Kd.at_int (Kd.R_reads' HO_10.out).2.2 x64_3 p417 q417
                cases e417
                replace p417 := eq_true p417
                replace q417 := eq_true q417
                have p418 : 0 ≤ (x64_3 : Int) := od_
                have q418 : x64_3 < (t411.length : Int) := od_
                obtain ⟨ad418, e418, hx418_0⟩ := Kd.at_int (Kd.R_reads' HO_11.out).2.2 x64_3 p418 q418
                cases e418
                replace p418 := eq_true p418
                replace q418 := eq_true q418
                go_wp2
                repeat (go_quiet (fail); try go_wp2)
                go_meet
                case rel => exact ⟨_, (decide ((rd t408 x64_3) > (rd t411 x64_3))), sd_, H', ⟨by have := HJ9.out; have := HJ24.out; have := HK3.out; first | omega | exact Nat.le_refl _⟩, ⟨by (with_reducible repeat (first | apply Kd.R_alloc | apply Kd.R_drewN | apply Kd.R_drew)); exact HO_10.out⟩, ⟨by (with_reducible repeat (first | apply Kd.R_alloc | apply Kd.R_drewN | apply Kd.R_drew)); exact HO_11.out⟩, ⟨by (with_reducible repeat (first | refine blk_drewN ?_ _ | refine blk_drew ?_ | refine blk_alloc ?_ _)); exact BK405.out⟩, ⟨by repeat (first | (with_reducible first | exact HB.out | apply below_alloc | apply pw_below_drewN | apply below_drew1 | refine below_set ?_ GE405.out) | exact HB.out)⟩⟩
               ·rw [if_neg c37] at H
                exact absurd H (by simp)
              ·rw [if_neg c36] at H
               exact absurd H (by simp)
             ·rw [if_neg c35] at H
              exact absurd H (by simp)
           case rest =>
            clear HC32
            try clear c1
            try clear c2
            try clear p2
            try clear c3
            try clear p4
            try clear q4
            try clear hx4
            try clear c5
            try clear c7
            try clear c17
            try clear c17b0
            try clear c17b1
            try clear c18
            try clear c18b0
            try clear c23
            try clear c24
            try clear c26
            try clear c29
            try clear c31
            try clear c31b0
            try clear c33
            try clear c33b0
            try clear c33b1
            try clear c35
            try clear c35b0
            try clear c36
            try clear c36b0
            try clear c37
            try clear c37b0
            try clear hcz14_0
            try clear hcz14_1
            try clear hcz14_2
            try clear hfz14_0
            try clear hfz14_1
            try clear hfz14_2
            try clear hx417_0
            try clear hx418_0
            try clear p2
            try clear p417
            try clear p418
            try clear q417
            try clear q418
            obtain ⟨kq, x82_31, rfl, HA, HJ31, HO_10, HO_11, BK405, HB⟩ := hcut
            cases kq with
            | zero => exact absurd HA.out (by simp [cohousinglaw30_LeakSmallest.j3])
            | succ kj31 =>
             have H := HA.out
             clear HA
             simp only [cohousinglaw30_LeakSmallest.j3] at H
             by_cases c39 : x82_31 = true
             ·subst c39
              have H1 : (some t406) = some r := by rw [if_pos rfl] at H; exact H
              clear H
              have H := H1
              clear H1
              obtain rfl := Option.some.inj H
              go_wp2
              repeat (go_quiet (fail); try go_wp2)
              go_ret
              exact ⟨ew_, by repeat (first | (with_reducible first | exact HB.out | apply below_alloc | apply pw_below_drewN | apply below_drew1 | refine below_set ?_ GE405.out) | exact HB.out)⟩
             ·replace c39 := Bool.eq_false_iff.mpr c39
              subst c39
              have H1 : (if 0 ≤ x64_3 then (if x64_3 < (t408.length : Int) then (if x64_3 < (t411.length : Int) then (if (rd t408 x64_3) < (rd t411 x64_3) then (some false) else (cohousinglaw30_LeakSmallest.l0 kj31 t406 t408 t411 (t411.length : Int) (wrap64 (x64_3 + 1)))) else (none)) else (none)) else (none)) = some r := by rw [if_neg (show ¬ (false = true) by decide)] at H; exact H
              clear H
              have H := H1
              clear H1
              by_cases c40 : 0 ≤ x64_3
              ·rw [if_pos c40] at H
               have c40b0 : decide (0 ≤ x64_3) = true := decide_eq_true c40
               clear c40
               by_cases c41 : x64_3 < (t408.length : Int)
               ·rw [if_pos c41] at H
                have c41b0 : decide (x64_3 < (t408.length : Int)) = true := decide_eq_true c41
                clear c41
                by_cases c42 : x64_3 < (t411.length : Int)
                ·rw [if_pos c42] at H
                 have c42b0 : decide (x64_3 < (t411.length : Int)) = true := decide_eq_true c42
                 clear c42
                 by_cases c43 : (rd t408 x64_3) < (rd t411 x64_3)
                 ·rw [if_pos c43] at H
                  have c43b0 : decide ((rd t408 x64_3) < (rd t411 x64_3)) = true := decide_eq_true c43
                  clear c43
                  obtain rfl := Option.some.inj H
                  obtain ⟨Ao44, co44, eo44⟩ := Kd.R_slice HO_10.out
                  subst eo44
                  have p419 : 0 ≤ (x64_3 : Int) := od_
                  have q419 : x64_3 < (t408.length : Int) := od_
                  obtain ⟨ad419, e419, hx419_0⟩ := Kd.at_int (Kd.R_reads' HO_10.out).2.2 x64_3 p419 q419
                  cases e419
                  replace p419 := eq_true p419
                  replace q419 := eq_true q419
                  have p420 : 0 ≤ (x64_3 : Int) := od_
                  have q420 : x64_3 < (t411.length : Int) := od_
                  obtain ⟨ad420, e420, hx420_0⟩ := Kd.at_int (Kd.R_reads' HO_11.out).2.2 x64_3 p420 q420
                  cases e420
                  replace p420 := eq_true p420
                  replace q420 := eq_true q420
                  go_wp2
                  repeat (go_quiet (fail); try go_wp2)
                  go_ret
                  exact ⟨ew_, by repeat (first | (with_reducible first | exact HB.out | apply below_alloc | apply pw_below_drewN | apply below_drew1 | refine below_set ?_ GE405.out) | exact HB.out)⟩
                 ·rw [if_neg c43] at H
                  have c43b0 : decide ((rd t408 x64_3) < (rd t411 x64_3)) = false := decide_eq_false c43
                  clear c43
                  have H' := Aside0.mk H
                  clear H
                  obtain ⟨Ao45, co45, eo45⟩ := Kd.R_slice HO_10.out
                  subst eo45
                  have p419 : 0 ≤ (x64_3 : Int) := od_
                  have q419 : x64_3 < (t408.length : Int) := od_
                  obtain ⟨ad419, e419, hx419_0⟩ := Kd.at_int (Kd.R_reads' HO_10.out).2.2 x64_3 p419 q419
                  cases e419
                  replace p419 := eq_true p419
                  replace q419 := eq_true q419
                  have p420 : 0 ≤ (x64_3 : Int) := od_
                  have q420 : x64_3 < (t411.length : Int) := od_
                  obtain ⟨ad420, e420, hx420_0⟩ := Kd.at_int (Kd.R_reads' HO_11.out).2.2 x64_3 p420 q420
                  cases e420
                  replace p420 := eq_true p420
                  replace q420 := eq_true q420
                  go_wp2
                  repeat (go_quiet (fail); try go_wp2)
                  go_roundg kj31
                  case measure => have := HJ9.out; have := HJ24.out; have := HK3.out; have := HJ31.out; omega
                  case rel => exact ⟨(wrap64 (x64_3 + 1)), sd_, H', ⟨by have := HJ9.out; have := HJ24.out; have := HK3.out; have := HJ31.out; omega⟩, ⟨by (with_reducible repeat (first | apply Kd.R_alloc | apply Kd.R_drewN | apply Kd.R_drew)); exact HO_10.out⟩, ⟨by (with_reducible repeat (first | apply Kd.R_alloc | apply Kd.R_drewN | apply Kd.R_drew)); exact HO_11.out⟩, ⟨by (with_reducible repeat (first | refine blk_drewN ?_ _ | refine blk_drew ?_ | refine blk_alloc ?_ _)); exact BK405.out⟩, ⟨by repeat (first | (with_reducible first | exact HB.out | apply below_alloc | apply pw_below_drewN | apply below_drew1 | refine below_set ?_ GE405.out) | exact HB.out)⟩⟩
                ·rw [if_neg c42] at H
                 exact absurd H (by simp)
               ·rw [if_neg c41] at H
                exact absurd H (by simp)
              ·rw [if_neg c40] at H
               exact absurd H (by simp)
          ·rw [if_neg c31] at H
           have c31b0 : decide (x64_3 < (t411.length : Int)) = false := decide_eq_false c31
           clear c31
           obtain rfl := Option.some.inj H
           go_wp2
           repeat (go_quiet (fail); try go_wp2)
           go_ret
           exact ⟨ew_, by repeat (first | (with_reducible first | exact HB.out | apply below_alloc | apply pw_below_drewN | apply below_drew1 | refine below_set ?_ GE405.out) | exact HB.out)⟩
 ·replace c7 := Bool.eq_false_iff.mpr c7
  subst c7
  have H1 : (some t406) = some r := by rw [if_neg (show ¬ (false = true) by decide)] at H; exact H
  clear H
  have H := H1
  clear H1
  obtain rfl := Option.some.inj H
  go_enter Try.func5, Try.ntmps5
  go_wp2_with (first | ((with_reducible refine gate_dst (N := 7) rfl ?_); (try (refine gate_guard (by rfl) ?_; dsimp only)); refine box_event ?hg (N := 7) ?hd (cs := #[.int .u8 a3_0, .int .u8 a3_1, .int .u8 a3_2]) (t := 35) ?hr ?_; (case hd => rfl); (case hg => rfl); (case hr => first | (go_simp; done) | (go_simp; rfl)); intro gb405 hg w46 hbox hb; have n0_ := Aside0.mk (below_step (bb_ HB) hb); have n1_ := Aside0.mk (hbox); have n2_ := Aside0.mk ((by rw [hg]; exact (below_size (bb_ HB)) : w.heap.size ≤ gb405)); have n3_ := Aside0.mk ((by rw [hg]; exact (below_size (bb_ HB)) : w.heap.size ≤ gb405)); clear HB; have HB := n0_; have BK405 := n1_; have GW405 := n2_; have GE405 := n3_; clear n0_ n1_ n2_ n3_; clear hb hbox hg) | (go_at_call 11; (with_reducible refine (cohousinglaw30_head.calls k  t406 _ A5.out).mono ?_); rintro e w47 ⟨rfl, hb⟩; have n0_ := Aside0.mk (blk_below (g := gb405) (o := .cells #[.int .u8 a3_0, .int .u8 a3_1, .int .u8 a3_2] 35 (0, 0)) (kk_ BK405) hb); have n1_ := Aside0.mk (below_step (bs_ HB GE405.out) hb); clear BK405; clear HB; have BK405 := n0_; have HB := n1_; clear n0_ n1_; (try clear hb); (try clear hb2); (try clear hk); (try clear hi)) | (go_at_call 18; (with_reducible refine (cohousinglaw30_usable.calls k _ _ l0 _ _ l1 a2 false _ ?side1 ?side2 ?side3 ?side4 A6.out).mono ?_); (case side1 => exact cc_ ((Kd.C_below HR0.out HB.out))); (case side2 => exact HC0.out); (case side3 => exact cc_ ((Kd.C_below HR1.out HB.out))); (case side4 => exact HC1.out); rintro e w48 ⟨rfl, hb⟩; have n0_ := Aside0.mk (blk_below (g := gb405) (o := .cells #[.int .u8 a3_0, .int .u8 a3_1, .int .u8 a3_2] 35 (0, 0)) (kk_ BK405) hb); have n1_ := Aside0.mk (below_step (bs_ HB GE405.out) hb); clear BK405; clear HB; have BK405 := n0_; have HB := n1_; clear n0_ n1_; (try clear hb); (try clear hb2); (try clear hk); (try clear hi)))
  repeat (go_quiet (first | ((with_reducible refine gate_dst (N := 7) rfl ?_); (try (refine gate_guard (by rfl) ?_; dsimp only)); refine box_event ?hg (N := 7) ?hd (cs := #[.int .u8 a3_0, .int .u8 a3_1, .int .u8 a3_2]) (t := 35) ?hr ?_; (case hd => rfl); (case hg => rfl); (case hr => first | (go_simp; done) | (go_simp; rfl)); intro gb405 hg w46 hbox hb; have n0_ := Aside0.mk (below_step (bb_ HB) hb); have n1_ := Aside0.mk (hbox); have n2_ := Aside0.mk ((by rw [hg]; exact (below_size (bb_ HB)) : w.heap.size ≤ gb405)); have n3_ := Aside0.mk ((by rw [hg]; exact (below_size (bb_ HB)) : w.heap.size ≤ gb405)); clear HB; have HB := n0_; have BK405 := n1_; have GW405 := n2_; have GE405 := n3_; clear n0_ n1_ n2_ n3_; clear hb hbox hg) | (go_at_call 11; (with_reducible refine (cohousinglaw30_head.calls k  t406 _ A5.out).mono ?_); rintro e w47 ⟨rfl, hb⟩; have n0_ := Aside0.mk (blk_below (g := gb405) (o := .cells #[.int .u8 a3_0, .int .u8 a3_1, .int .u8 a3_2] 35 (0, 0)) (kk_ BK405) hb); have n1_ := Aside0.mk (below_step (bs_ HB GE405.out) hb); clear BK405; clear HB; have BK405 := n0_; have HB := n1_; clear n0_ n1_; (try clear hb); (try clear hb2); (try clear hk); (try clear hi)) | (go_at_call 18; (with_reducible refine (cohousinglaw30_usable.calls k _ _ l0 _ _ l1 a2 false _ ?side1 ?side2 ?side3 ?side4 A6.out).mono ?_); (case side1 => exact cc_ ((Kd.C_below HR0.out HB.out))); (case side2 => exact HC0.out); (case side3 => exact cc_ ((Kd.C_below HR1.out HB.out))); (case side4 => exact HC1.out); rintro e w48 ⟨rfl, hb⟩; have n0_ := Aside0.mk (blk_below (g := gb405) (o := .cells #[.int .u8 a3_0, .int .u8 a3_1, .int .u8 a3_2] 35 (0, 0)) (kk_ BK405) hb); have n1_ := Aside0.mk (below_step (bs_ HB GE405.out) hb); clear BK405; clear HB; have BK405 := n0_; have HB := n1_; clear n0_ n1_; (try clear hb); (try clear hb2); (try clear hk); (try clear hi))); try go_wp2_with (first | ((with_reducible refine gate_dst (N := 7) rfl ?_); (try (refine gate_guard (by rfl) ?_; dsimp only)); refine box_event ?hg (N := 7) ?hd (cs := #[.int .u8 a3_0, .int .u8 a3_1, .int .u8 a3_2]) (t := 35) ?hr ?_; (case hd => rfl); (case hg => rfl); (case hr => first | (go_simp; done) | (go_simp; rfl)); intro gb405 hg w46 hbox hb; have n0_ := Aside0.mk (below_step (bb_ HB) hb); have n1_ := Aside0.mk (hbox); have n2_ := Aside0.mk ((by rw [hg]; exact (below_size (bb_ HB)) : w.heap.size ≤ gb405)); have n3_ := Aside0.mk ((by rw [hg]; exact (below_size (bb_ HB)) : w.heap.size ≤ gb405)); clear HB; have HB := n0_; have BK405 := n1_; have GW405 := n2_; have GE405 := n3_; clear n0_ n1_ n2_ n3_; clear hb hbox hg) | (go_at_call 11; (with_reducible refine (cohousinglaw30_head.calls k  t406 _ A5.out).mono ?_); rintro e w47 ⟨rfl, hb⟩; have n0_ := Aside0.mk (blk_below (g := gb405) (o := .cells #[.int .u8 a3_0, .int .u8 a3_1, .int .u8 a3_2] 35 (0, 0)) (kk_ BK405) hb); have n1_ := Aside0.mk (below_step (bs_ HB GE405.out) hb); clear BK405; clear HB; have BK405 := n0_; have HB := n1_; clear n0_ n1_; (try clear hb); (try clear hb2); (try clear hk); (try clear hi)) | (go_at_call 18; (with_reducible refine (cohousinglaw30_usable.calls k _ _ l0 _ _ l1 a2 false _ ?side1 ?side2 ?side3 ?side4 A6.out).mono ?_); (case side1 => exact cc_ ((Kd.C_below HR0.out HB.out))); (case side2 => exact HC0.out); (case side3 => exact cc_ ((Kd.C_below HR1.out HB.out))); (case side4 => exact HC1.out); rintro e w48 ⟨rfl, hb⟩; have n0_ := Aside0.mk (blk_below (g := gb405) (o := .cells #[.int .u8 a3_0, .int .u8 a3_1, .int .u8 a3_2] 35 (0, 0)) (kk_ BK405) hb); have n1_ := Aside0.mk (below_step (bs_ HB GE405.out) hb); clear BK405; clear HB; have BK405 := n0_; have HB := n1_; clear n0_ n1_; (try clear hb); (try clear hb2); (try clear hk); (try clear hi))))
  go_ret
  exact ⟨ew_, by repeat (first | (with_reducible first | exact HB.out | apply below_alloc | apply pw_below_drewN | apply below_drew1 | refine below_set ?_ GE405.out) | exact HB.out)⟩
end
end Go.Proofs.Ytolmjhpapidmhaa.P
end
section
namespace Go.Proofs.Ytolmjhpapidmhaa.P
open Go.RowKit Go.Proofs.YtolmjhpapidmhaaW.PrintWords Go.Proofs.YtolmjhpapidmhaaW.PrintLast Go.Proofs.YtolmjhpapidmhaaW.PrintMore Go.Proofs.YtolmjhpapidmhaaH Go.Proofs.FlowTree
open Classical
def notBefore (o s : List Int) (i : Nat) : Prop := s.length < o.length ∨ o.length = s.length ∧ (o.drop i = s.drop i ∨ lexL (s.drop i) (o.drop i))
theorem drop_rd (ps : List Int) (f : Nat) (h : f < ps.length) : ps.drop f = rd ps (f : Int) :: ps.drop (f + 1) := by
 rw [List.drop_eq_getElem_cons h]
 congr 1
 simp [rd, List.getD_eq_getElem?_getD, h]
theorem sm_l0 (o s : List Int) (hs : s.length ≤ 1000) : ∀ d i : Nat, i + d = s.length → notBefore o s i → Ev (fun k => cohousinglaw30_LeakSmallest.l0 k true o s (s.length : Int) (i : Int)) true := by
 intro d
 induction d with
 | zero =>
  intro i hi _
  refine Ev.step ?_
  have h1 : ¬ ((i : Int) < (s.length : Int)) := by omega
  simp only [cohousinglaw30_LeakSmallest.l0, h1, if_false]
  exact Ev.pure _
 | succ d ih =>
  intro i hi hn
  have h1 : (i : Int) < (s.length : Int) := by omega
  have h0 : (0 : Int) ≤ (i : Int) := by omega
  refine Ev.step ?_
  by_cases h2 : (o.length : Int) > (s.length : Int)
  ·simp only [cohousinglaw30_LeakSmallest.l0, h1, h2, if_true]
   refine Ev.step ?_
   simp only [cohousinglaw30_LeakSmallest.j3, if_true]
   exact Ev.pure _
  rcases hn with hn | ⟨hn, hq⟩
  ·omega
  have h3 : (i : Int) < (o.length : Int) := by omega
  have hw := wrap_nat (show i ≤ 140737488355328 by omega)
  rw [drop_rd s i (by omega), drop_rd o i (by omega)] at hq
  simp only [cohousinglaw30_LeakSmallest.l0, h0, h1, h2, h3, if_true, if_false]
  refine Ev.step ?_
  by_cases h4 : rd o (i : Int) > rd s (i : Int)
  ·simp only [cohousinglaw30_LeakSmallest.j3, decide_eq_true h4, if_true]
   exact Ev.pure _
  have hnx : rd o (i : Int) = rd s (i : Int) ∧ (o.drop (i + 1) = s.drop (i + 1) ∨ lexL (s.drop (i + 1)) (o.drop (i + 1))) := by
   rcases hq with e | hq
   ·injection e with e1 e2
    exact ⟨e1, .inl e2⟩
   ·rcases hq with hq | ⟨hq1, hq2⟩
    ·exact absurd hq (by omega)
    ·exact ⟨hq1.symm, .inr hq2⟩
  have h5 : ¬ (rd o (i : Int) < rd s (i : Int)) := by omega
  simp only [cohousinglaw30_LeakSmallest.j3, decide_eq_false h4, Bool.false_eq_true, h0, h1, h3, h5, if_true, if_false, hw]
  exact ih (i + 1) (by omega) (.inr ⟨hn, hnx.2⟩)
theorem smallest_ (l : List PI) (r : List RG) (hl : l.length ≤ 5864062014805) (hr : r.length ≤ 140737488355328) (a b0 b1 b2 : Int) : Ev (fun k => cohousinglaw30_LeakSmallest.f k l r a b0 b1 b2) true := by
 unfold cohousinglaw30_LeakSmallest.f
 refine Ev.bnd head30 ?_
 refine Ev.bnd (usable_f l r a) ?_
 by_cases hU : U l r a
 ·have hn := hU.n
  obtain ⟨o, ho⟩ : ∃ o, o = chosenN l.length b0 b1 b2 l.length := ⟨_, rfl⟩
  have hol : o.length ≤ 12 := by
   have := chosenN_len l.length b0 b1 b2 l.length
   rw [ho]
   omega
  have hc : cohousinglaw30_chosen.f l b0 b1 b2 = some o := by
   unfold cohousinglaw30_chosen.f
   rw [if_pos (by omega), ho]
  simp only [decide_eq_true hU, if_true, hc, leakExplain_f l r a hl hr, Option.bind_some]
  have h := told hU
  generalize explainR l r a = x at h
  generalize sureR l r a = y at h
  have hout : ∀ (s : List Int) (is : Bool), Ev (fun k => cohousinglaw30_LeakSmallest.j0 k true o s is 0 true) true := fun s is => by
   refine Ev.step ?_
   simp only [cohousinglaw30_LeakSmallest.j0, if_true]
   exact Ev.pure _
  cases h with
  | none hno =>
   simp only [if_true]
   by_cases h1 : (o.length : Int) > a
   ·simp only [h1, if_true]
    exact hout _ _
   ·simp only [h1, if_false]
    refine Ev.bnd (lawExplains_f l r o hn hU.m (by omega)) ?_
    rw [hno o.length (by omega), decide_eq_false (by simp)]
    exact hout _ _
  | some t s rest h1 h2 h3 =>
   have hs := exs_len (show s ∈ exs l r t by rw [h2]; simp)
   have ha := hU.a3
   simp only [if_true]
   by_cases h4 : (o.length : Int) > a
   ·simp only [h4, if_true]
    exact hout _ _
   ·simp only [h4, if_false]
    refine Ev.bnd (lawExplains_f l r o hn hU.m (by omega)) ?_
    by_cases h5 : o ∈ exs l r o.length
    ·rw [decide_eq_true h5]
     have h6 : t ≤ o.length := by
      rcases Nat.lt_or_ge o.length t with h | h
      ·rw [h3 _ h] at h5
       cases h5
      ·exact h
     refine Ev.step ?_
     simp only [cohousinglaw30_LeakSmallest.j0, Bool.not_true, Bool.false_eq_true, if_false, if_true]
     refine Ev.step ?_
     have h7 : ¬ ((o.length : Int) < (s.length : Int)) := by omega
     simp only [cohousinglaw30_LeakSmallest.j1, decide_eq_false h7, Bool.false_eq_true, if_false]
     refine sm_l0 o s (by omega) s.length 0 (by omega) ?_
     rcases Nat.lt_or_eq_of_le h6 with h8 | h8
     ·exact .inl (by omega)
     ·refine .inr ⟨by omega, ?_⟩
      rw [List.drop_zero, List.drop_zero]
      rw [← h8, h2] at h5
      rcases List.mem_cons.1 h5 with h9 | h9
      ·exact .inl h9
      ·right
       have hp : (exs l r t).Pairwise lexL := (combos_lex (iv 0 l.length) t (iv_lt 0 l.length)).sublist List.filter_sublist
       rw [h2] at hp
       exact (List.pairwise_cons.1 hp).1 o h9
    ·rw [decide_eq_false h5]
     exact hout _ _
 ·simp only [decide_eq_false hU, Bool.false_eq_true, if_false]
  exact Ev.pure _
end Go.Proofs.Ytolmjhpapidmhaa.P
end
section
namespace Go.Proofs.YtolmjhpapidmhaaH
open Go.RowKit Go.ChangeShapes Go.WideShapes Go.Proofs.YtolmjhpapidmhaaW.PrintWords
theorem okWide_array_ {P : Program} {w : World} {r : Reach} {base : Nat} {t e : TypeId} {n : Nat} {v : Value} (ht : P.underlying t = some (.array n e)) (h : Value.okWide P w r base t v) : ∃ cs, v = .agg cs ∧ cs.size = P.cellsOf t := by
 simp only [Value.okWide, ht] at h
 obtain ⟨cs, h1, h2, _⟩ := h
 exact ⟨cs, h1, h2⟩
theorem trod_three {P : Program} {t e : TypeId} {k : IntKind} (ht : P.underlying t = some (.array 3 e)) (hu : P.underlying e = some (.int k)) (hc : P.cellsOf e = 1) (hct : P.cellsOf t = 3) {H : Type} {enc : TypeId × Value → H} {w : World} {base : Nat} {spare : Nat → Bool} {held : Bool} {fuel : Nat} {cs : List Value} {x : DataW H × List MemPlace}
  (hx : DataW.trod enc P w base spare held fuel t cs = some x) : ∃ a b c, cs = [.int k a, .int k b, .int k c] ∧ ((Lit.int k a).wf = true ∧ (Lit.int k b).wf = true ∧ (Lit.int k c).wf = true) := by
 obtain ⟨xs, m, _, _, hl, hxl, hf⟩ := DataW.trod_array ht hx
 rw [hct] at hl
 rw [hc] at hf
 have h0 := hf 0 (by omega)
 have h1 := hf 1 (by omega)
 have h2 := hf 2 (by omega)
 have e0 : xs[0]? = some (xs[0]'(by omega)) := by simp [hxl]
 have e1 : xs[1]? = some (xs[1]'(by omega)) := by simp [hxl]
 have e2 : xs[2]? = some (xs[2]'(by omega)) := by simp [hxl]
 rw [e0] at h0
 rw [e1] at h1
 rw [e2] at h2
 obtain ⟨a, ha, _, wa⟩ := DataW.trod_int hu h0
 obtain ⟨b, hb, _, wb⟩ := DataW.trod_int hu h1
 obtain ⟨c, hc', _, wc⟩ := DataW.trod_int hu h2
 refine ⟨a, b, c, ?_, wa, wb, wc⟩
 match cs, hl, ha, hb, hc' with
 | [u, v, y], _, ha, hb, hc' =>
  simp at ha hb hc'
  rw [ha, hb, hc']
theorem open_arr3 {P : Program} {t e : TypeId} {k : IntKind} {w : World} {r : Reach} {base : Nat} {v : Value} (ht : P.underlying t = some (.array 3 e)) (hu : P.underlying e = some (.int k)) (hc : P.cellsOf e = 1) (hct : P.cellsOf t = 3) (hok : Value.okWide P w r base t v) {H : Type} {enc : TypeId × Value → H} {w' : World} {base' : Nat} {spare : Nat → Bool} {held : Bool} {x : DataW H} {ps : List MemPlace}
  (hx : DataW.Trod enc P w' base' spare held t v x ps) : ∃ a b c, v = .agg #[.int k a, .int k b, .int k c] ∧ ((Lit.int k a).wf = true ∧ (Lit.int k b).wf = true ∧ (Lit.int k c).wf = true) := by
 obtain ⟨cs, rfl, hcs⟩ := okWide_array_ ht hok
 obtain ⟨fuel, hf⟩ := hx
 obtain ⟨a, b, c, e1, h1⟩ := trod_three ht hu hc hct hf
 refine ⟨a, b, c, ?_, h1⟩
 simp only [Value.cells] at e1
 congr 1
 exact Array.toList_inj.1 e1
end Go.Proofs.YtolmjhpapidmhaaH
end
