/- Part 4 of the base that the seat's proofs share: words, walks and plain laws. -/
import Derived.Test.YtocbiggglnpeoaaCMc
set_option linter.unusedVariables false
set_option linter.unusedSimpArgs false
section
namespace Go.Proofs.Ytocbiggglnpeoaa.M
open Go.RowKit Go.Proofs.YtocbiggglnpeoaaW.PrintWords Go.Proofs.YtocbiggglnpeoaaW.PrintLast Go.Proofs.YtocbiggglnpeoaaW.PrintMore
attribute [local go_sem] max2_int min2_int max_two min_two max_three min_three max_four min_four
set_option linter.unusedVariables false
set_option linter.unusedSimpArgs false
open Go.Proofs.YtocbiggglnpeoaaH
def refB (S : Int → Option (Bool × Bool)) (x : S51) : Bool := !(((S x.f0).getD (false, false)).1 == true && (((S x.f0).getD (false, false)).2 == false))
set_option maxHeartbeats 8000000 in
theorem run1_calls (x0 x1 x2 : Int) (gS gm : Nat) (SM : Int → Option (Bool × Bool)) (b : Bool) (w : World) (hq : w.heap[gS]? = some (.cells #[.map (some gm)] 71 (0, 0))) (hm : MapI w gm (mapV vState SM)) (hb : refB SM ⟨x0, x1, x2⟩ = b) :
  Calls Try.prog 33 #[.agg #[.int .i64 x0, .int .i64 x1, .int .i64 x2], .pointer (some ⟨gS, 0, none⟩)] w fun e w' => e = .returned (.bool b) ∧ Below w.heap.size w w' := by
 have hu51 := Try.underlying51
 have hu76 := Try.underlying76
 have HM := mk_ hm
 have HB := mk_ (Below.refl w.heap.size w)
 have hcq : w.cell? ⟨gS, 0, none⟩ = some (.map (some gm)) := (blk_cell hq 0).trans rfl
 obtain ⟨s, hs⟩ : ∃ s, s = (SM x0).getD (false, false) := ⟨_, rfl⟩
 have HS := mk_ hs
 have HBB := mk_ (show (!(s.1 == true && (s.2 == false))) = b by rw [hs]; exact hb)
 have hne := neS
 obtain ⟨y, z⟩ := s
 clear hq hm hb hs
 go_enter Try.func33, Try.ntmps33
 go_wp2_with (first | ((with_reducible refine gate_dst (N := 2) rfl ?_); refine box_event ?hg (N := 2) ?hd (cs := #[.int .i64 x0, .int .i64 x1, .int .i64 x2]) (t := 51) ?hr ?_; (case hd => rfl); (case hg => rfl); (case hr => first | (go_simp; done) | (go_simp; rfl)); intro gx hg_X wb hbox_ hb_; have n0_ := mk_ (below_step HB.out hb_); have BX := mk_ hbox_; have GX := mk_ (show w.heap.size ≤ gx by rw [hg_X]; exact below_size HB.out); have EX := mk_ hg_X; have hcX0 : wb.cell? ⟨gx, 0, none⟩ = some (.int .i64 x0) := (blk_cell hbox_ 0).trans rfl; have hfX0 := blk_frozen hbox_ 0; have hcX1 : wb.cell? ⟨gx, 1, none⟩ = some (.int .i64 x1) := (blk_cell hbox_ 1).trans rfl; have hfX1 := blk_frozen hbox_ 1; have hcX2 : wb.cell? ⟨gx, 2, none⟩ = some (.int .i64 x2) := (blk_cell hbox_ 2).trans rfl; have hfX2 := blk_frozen hbox_ 2; replace hcq := cd_ hb_ hcq; have HM1 := mk_ (HM.out.below hb_); clear HB hg_X hbox_ hb_; have HB := n0_; clear n0_) | ((with_reducible refine gate_ (op := .lookup 71 (.tmp 4) (.tmp 6) false) rfl ?_); refine wpList_lookI _ rfl (.tmp 4) (.tmp 6) 71 false rfl 3 76 Try.underlying71 Try.underlying3 (Try.zeroValue76 _) gm (mapV vState SM) rfl HM1.out x0 rfl ?_; rw [if_neg (by decide), show (Value.agg #[.bool false, .bool false]) = vState (false, false) from rfl, mapV_get, ← HS.out]; dsimp only [vState]))
 go_ret
 exact ⟨by first | rfl | (rw [← HBB.out]; rfl) | (simp [← HBB.out]), HB.out⟩
def idxB51 (p : S51 → Bool) (l : List S51) : Int := match l.findIdx? p with | some i => i | none => -1
theorem idxB51_some (p : S51 → Bool) (l : List S51) (i : Int) (h0 : 0 ≤ i) (h1 : i < l.length) (hp : p (rd_T51 l i) = true) (hb : ∀ j : Nat, j < i.toNat → p (rd_T51 l j) = false) : idxB51 p l = i := by
 have h' : i.toNat < l.length := by omega
 have hf : l.findIdx? p = some i.toNat := by
  rw [List.findIdx?_eq_some_iff_getElem]
  refine ⟨h', ?_, fun j hj => ?_⟩
  ·have := hp
   simpa [rd_T51, List.getD_eq_getElem?_getD, h'] using this
  ·have := hb j hj
   have hj' : j < l.length := by omega
   simpa [rd_T51, List.getD_eq_getElem?_getD, hj'] using this
 unfold idxB51
 rw [hf]
 show ((i.toNat : Nat) : Int) = i
 omega
theorem idxB51_none (p : S51 → Bool) (l : List S51) (hb : ∀ j : Nat, j < l.length → p (rd_T51 l j) = false) : idxB51 p l = -1 := by
 have hf : l.findIdx? p = none := by
  rw [List.findIdx?_eq_none_iff]
  intro x hx
  obtain ⟨j, hj, rfl⟩ := List.mem_iff_getElem.1 hx
  have := hb j hj
  simpa [rd_T51, List.getD_eq_getElem?_getD, hj] using this
 unfold idxB51
 rw [hf]
set_option maxHeartbeats 8000000 in
theorem refuses_index (A0 : Option Addr) (c0 : Nat) (l0 : List (S51)) (w : World) (hr0 : Kd.C k51 w A0 l0.length l0) (hc0 : l0.length ≤ c0) (hn : l0.length ≤ 140737488355328) (gS gm : Nat) (SM : Int → Option (Bool × Bool)) (hq : w.heap[gS]? = some (.cells #[.map (some gm)] 71 (0, 0))) (hm : MapI w gm (mapV vState SM)) :
 Calls Try.prog 34 #[.slice A0 l0.length c0, .func (.func 33) #[] #[.pointer (some ⟨gS, 0, none⟩)]] w fun e w' => e = .returned (.int .i64 (idxB51 (refB SM) l0)) ∧ Below w.heap.size w w' := by
 have hu51 := Try.underlying51
 have HR0 := mk_ hr0
 have HC0 := mk_ hc0
 have HN := mk_ hn
 clear hr0 hc0 hn
 have HQ := mk_ hq
 have HMM := mk_ hm
 clear hq hm
 have HB := mk_ (Below.refl w.heap.size w)
 go_enter Try.func34, Try.ntmps34
 go_wp2
 go_loopg [8] l0.length (fun kq v8 w' => ∃ (i : Int), v8 = .int .i64 i ∧ Aside0 (∀ j : Nat, j < i.toNat → (refB SM) (rd_T51 l0 j) = false) ∧ Aside0 (0 ≤ i ∧ kq + i.toNat = l0.length) ∧ Aside0 (Below w.heap.size w w'))
 case atStart => exact ⟨0, rfl, ⟨fun j hj => by simp at hj⟩, ⟨by simp⟩, HB⟩
 case round =>
  obtain ⟨i, rfl, HS, HK, HB⟩ := hrel
  by_cases hlt : i < l0.length
  rotate_left
  ·have c1 : decide ((i:Int) < (l0.length : Int)) = false := decide_eq_false hlt
   have HL := mk_ hlt
   clear hlt
   go_wp2
   go_ret
   refine ⟨?_, HB.out⟩
   rw [idxB51_none _ _ (fun j hj => HS.out j (by have := HK.out; have := HL.out; omega))]
   first | rfl | (simp; done)
  have c1 : decide ((i:Int) < (l0.length : Int)) = true := decide_eq_true hlt
  have c2 : (0 ≤ i) = True := eq_true HK.out.1
  have c3 : (i < l0.length) = True := eq_true hlt
  obtain ⟨ad, e, hx0, hx1, hx2⟩ := at_T51 HR0.out i HK.out.1 hlt
  cases e
  replace hx0 := cb_ HB hx0
  replace hx1 := cb_ HB hx1
  replace hx2 := cb_ HB hx2
  have HL := mk_ hlt
  clear hlt
  have hw1 : i + 1 ≤ 9223372036854775807 := by have := HN.out; have := HL.out; omega
  have hw2 : 0 ≤ i + 1 := by have := HK.out; omega
  cases hp : (refB SM) (rd_T51 l0 i) with
  | true =>
   have HP := mk_ hp
   clear hp
   go_wp2_with (first | ((with_reducible refine (run1_calls (rd_T51 l0 i).f0 (rd_T51 l0 i).f1 (rd_T51 l0 i).f2 gS gm SM _ _ (blk_below HQ.out HB.out) (HMM.out.below HB.out) HP.out).mono ?_); rintro e w1 ⟨rfl, hb⟩; have HB1 := mk_ hb; clear hb))
   go_ret
   refine ⟨?_, HB.out.trans (HB1.out.mono HB.out.size)⟩
   rw [idxB51_some _ _ i HK.out.1 HL.out HP.out HS.out]
   first | rfl | (simp; done)
  | false =>
   have HP := mk_ hp
   clear hp
   go_wp2_with (first | ((with_reducible refine (run1_calls (rd_T51 l0 i).f0 (rd_T51 l0 i).f1 (rd_T51 l0 i).f2 gS gm SM _ _ (blk_below HQ.out HB.out) (HMM.out.below HB.out) HP.out).mono ?_); rintro e w1 ⟨rfl, hb⟩; have HB1 := mk_ hb; clear hb))
   go_roundg (gk - 1)
   case measure => have := HK.out; have := HL.out; omega
   case rel =>
    refine ⟨i + 1, ?_, ⟨fun j hj => ?_⟩, ⟨by have := HK.out; have := HL.out; omega⟩, ⟨HB.out.trans (HB1.out.mono HB.out.size)⟩⟩
    ·first | rfl | (simp; done)
    ·by_cases hji : j < i.toNat
     ·exact HS.out j hji
     have : (j : Int) = i := by have := HK.out; omega
     rw [this]
     exact HP.out
def nOf (S : Int → Option (Bool × Bool)) (r : S49) : Nat := if idxB51 (refB S) r.f1 < 0 then r.f1.length else if r.f0 = true then (idxB51 (refB S) r.f1).toNat else 0
def brk (S : Int → Option (Bool × Bool)) (r : S49) : Bool := decide (0 ≤ idxB51 (refB S) r.f1)
def goM (S : Int → Option (Bool × Bool)) (l : List S49) : Nat → List S51
 | 0 => []
 | n + 1 => goM S l n ++ (rd_T49 l (n : Int)).f1.take (nOf S (rd_T49 l (n : Int)))
def brM (S : Int → Option (Bool × Bool)) (l : List S49) : Nat → List Int
 | 0 => []
 | n + 1 => if brk S (rd_T49 l (n : Int)) = true then brM S l n ++ [(n : Int)] else brM S l n
theorem goM_succ (S : Int → Option (Bool × Bool)) (l : List S49) (n : Nat) : goM S l (n + 1) = goM S l n ++ (rd_T49 l (n : Int)).f1.take (nOf S (rd_T49 l (n : Int))) := rfl
theorem brM_succ (S : Int → Option (Bool × Bool)) (l : List S49) (n : Nat) : brM S l (n + 1) = if brk S (rd_T49 l (n : Int)) = true then brM S l n ++ [(n : Int)] else brM S l n := rfl
theorem brM_len (S : Int → Option (Bool × Bool)) (l : List S49) : ∀ n, (brM S l n).length ≤ n
 | 0 => by simp [brM]
 | n + 1 => by
  have := brM_len S l n
  unfold brM
  split
  ·rw [List.length_append]; simp; omega
  ·omega
theorem goM_len (S : Int → Option (Bool × Bool)) (l : List S49) (h : ∀ i : Int, 0 ≤ i → i < l.length → (rd_T49 l i).f1.length ≤ 1000) : ∀ n, n ≤ l.length → (goM S l n).length ≤ 1000 * n
 | 0 => fun _ => by simp [goM]
 | n + 1 => fun hn => by
  have h1 := goM_len S l h n (by omega)
  have h2 := h (n : Int) (by omega) (by omega)
  unfold goM
  rw [List.length_append, List.length_take]
  omega
theorem idx_lt (p : S51 → Bool) (l : List S51) : idxB51 p l < l.length ∧ -1 ≤ idxB51 p l := by
 unfold idxB51
 cases h : l.findIdx? p with
 | none => simp; omega
 | some i =>
  obtain ⟨h1, _, _⟩ := List.findIdx?_eq_some_iff_getElem.1 h
  simp
  omega
def runR (fl : List S84) (pa : List S46) (l : List S49) (due : Int) (rs : List S55) : List S51 × List Int × Int :=
 if marketOk fl pa = true ∧ repliesB rs = true ∧ 0 ≤ due ∧ due ≤ 36524 ∧ ringsB (homesM pa pa.length) (knownM fl fl.length) (occM pa pa.length) l = true then (goM (repM rs due rs.length) l l.length, brM (repM rs due rs.length) l l.length, 0) else ([], [], 1)
def fewAll (fl : List S84) (pa : List S46) (l : List S49) (rs : List S55) : Bool := fewM fl pa && fewR l && l.all (fun r => decide (r.f1.length ≤ 1000)) && decide (rs.length ≤ 1000000000 ∧ l.length ≤ 1000000)
theorem fewAll_at {fl : List S84} {pa : List S46} {l : List S49} {rs : List S55} (h : fewAll fl pa l rs = true) : fewM fl pa = true ∧ fewR l = true ∧ rs.length ≤ 1000000000 ∧ l.length ≤ 1000000 ∧ ∀ i : Int, 0 ≤ i → i < l.length → (rd_T49 l i).f1.length ≤ 1000 := by
 unfold fewAll at h
 simp only [Bool.and_eq_true, decide_eq_true_iff, List.all_eq_true] at h
 refine ⟨h.1.1.1, h.1.1.2, h.2.1, h.2.2, fun i h0 h1 => ?_⟩
 have h2 : i.toNat < l.length := by omega
 have := h.1.2 (l[i.toNat]'h2) (List.getElem_mem _)
 simpa [rd_T49, List.getD_eq_getElem?_getD, h2] using this
def chain_Run.f (l0_0 : List (S84)) (l0_1 : List (S46)) (l1 : List (S49)) (a2 : Int) (l3 : List (S55)) : Option ((List (S51)) × List Int × Int) := if fewAll l0_0 l0_1 l1 l3 = true then some (runR l0_0 l0_1 l1 a2 l3) else none
set_option maxHeartbeats 16000000 in
set_option maxRecDepth 100000 in
theorem run_calls (A0 : Option Addr) (c0 : Nat) (l0 : List (S84)) (A9 : Option Addr) (c9 : Nat) (l9 : List (S46)) (A1 : Option Addr) (c1 : Nat) (l1 : List (S49)) (due : Int) (A3 : Option Addr) (c3 : Nat) (l3 : List (S55)) (r : List S51 × List Int × Int) (w : World) (hr0 : Kd.C k84 w A0 l0.length l0) (hc0 : l0.length ≤ c0) (hr9 : Kd.C k46 w A9 l9.length l9) (hc9 : l9.length ≤ c9) (hr1 : Kd.C k49 w A1 l1.length l1) (hc1 : l1.length ≤ c1) (hr3 : Kd.C k55 w A3 l3.length l3) (hc3 : l3.length ≤ c3) (hf : fewAll l0 l9 l1 l3 = true) (hr : r = runR l0 l9 l1 due l3) :
  Calls Try.prog 13 #[.agg #[.slice A0 l0.length c0, .slice A9 l9.length c9], .slice A1 l1.length c1, .int .i64 due, .slice A3 l3.length c3] w fun e w' => ∃ v0_ v1_ : Value, e = .returned (.tuple #[v0_, v1_, .int .i64 r.2.2]) ∧ Kd.R k51 51 w' w.heap.size (fun _ => True) v0_ r.1 ∧ Kd.R (Kd.int .i64) 3 w' w.heap.size (fun _ => True) v1_ r.2.1 ∧ Below w.heap.size w w' := by
 have hu25 := Try.underlying25
 have hu68 := Try.underlying68
 have hu49 := Try.underlying49
 have hu71 := Try.underlying71
 obtain ⟨f1, f2, f3, f4, f5⟩ := fewAll_at hf
 have HF := mk_ f1
 have HF2 := mk_ f2
 have HF3 := mk_ f3
 have HF4 := mk_ f4
 have HF5 := mk_ f5
 have HR0 := mk_ hr0
 have HC0 := mk_ hc0
 have HR9 := mk_ hr9
 have HC9 := mk_ hc9
 have HR1 := mk_ hr1
 have HC1 := mk_ hc1
 have HR3 := mk_ hr3
 have HC3 := mk_ hc3
 have HB := mk_ (Below.refl w.heap.size w)
 have HRR := mk_ hr
 clear hr0 hc0 hr9 hc9 hr1 hc1 hr3 hc3 hf f1 f2 f3 f4 f5 hr
 go_enter Try.func13, Try.ntmps13
 go_upto_region 2 with (first | ((with_reducible refine gate_dst (N := 4) rfl ?_); refine box_event ?hg (N := 4) ?hd (cs := #[.slice A0 l0.length c0, .slice A9 l9.length c9]) (t := 25) ?hr ?_; (case hd => rfl); (case hg => rfl); (case hr => first | (go_simp; done) | (go_simp; rfl)); intro gM hg_M w1 hbox_ hb_; have n0_ := mk_ (below_step HB.out hb_); have BM := mk_ hbox_; have GM := mk_ (show w.heap.size ≤ gM by rw [hg_M]; exact below_size HB.out); have EM := mk_ hg_M; have hcM0 : w1.cell? ⟨gM, 0, none⟩ = some (.slice A0 l0.length c0) := (blk_cell hbox_ 0).trans rfl; have hfM0 := blk_frozen hbox_ 0; have hcM1 : w1.cell? ⟨gM, 1, none⟩ = some (.slice A9 l9.length c9) := (blk_cell hbox_ 1).trans rfl; have hfM1 := blk_frozen hbox_ 1; clear HB hg_M hbox_ hb_; have HB := n0_; clear n0_) | (go_at_call 30; (with_reducible refine (read_calls A0 c0 l0 A9 c9 l9 _ (Kd.C_below HR0.out HB.out) HC0.out (Kd.C_below HR9.out HB.out) HC9.out HF.out).mono ?_); rintro e w2 ⟨m1, m2, m3, rfl, ht_, hb_⟩; have HT := mk_ (show marketOk l0 l9 = true → ∃ g1 g2 g3, m1 = some g1 ∧ m2 = some g2 ∧ m3 = some g3 ∧ Town w2 w.heap.size g1 g2 g3 (homesM l9 l9.length) (knownM l0 l0.length) (occM l9 l9.length) from fun h_ => by obtain ⟨g1, g2, g3, e1_, e2_, e3_, t_⟩ := ht_ h_; exact ⟨g1, g2, g3, e1_, e2_, e3_, t_.low (below_size HB.out)⟩); replace hcM0 := cd_ hb_ hcM0; replace hcM1 := cd_ hb_ hcM1; have n0_ := mk_ (below_step HB.out hb_); clear HB hb_ ht_; have HB := n0_; clear n0_) | ((with_reducible refine gate_dst (N := 11) rfl ?_); refine box_event ?hg (N := 11) ?hd (cs := #[.map none, .map none, .map none]) (t := 68) ?hr ?_; (case hd => rfl); (case hg => rfl); (case hr => first | (go_simp; done) | (go_simp; rfl)); intro gT hg_T w3 hbox_ hb_; have n0_ := mk_ (below_step HB.out hb_); have BT := mk_ hbox_; have GT := mk_ (show w.heap.size ≤ gT by rw [hg_T]; exact below_size HB.out); have ET := mk_ hg_T; have hcT0 : w3.cell? ⟨gT, 0, none⟩ = some (.map none) := (blk_cell hbox_ 0).trans rfl; have hfT0 := blk_frozen hbox_ 0; have hcT1 : w3.cell? ⟨gT, 1, none⟩ = some (.map none) := (blk_cell hbox_ 1).trans rfl; have hfT1 := blk_frozen hbox_ 1; have hcT2 : w3.cell? ⟨gT, 2, none⟩ = some (.map none) := (blk_cell hbox_ 2).trans rfl; have hfT2 := blk_frozen hbox_ 2; have n2_ := mk_ (show marketOk l0 l9 = true → ∃ g1 g2 g3, m1 = some g1 ∧ m2 = some g2 ∧ m3 = some g3 ∧ Town w3 w.heap.size g1 g2 g3 (homesM l9 l9.length) (knownM l0 l0.length) (occM l9 l9.length) from fun h_ => by obtain ⟨g1, g2, g3, e1_, e2_, e3_, t_⟩ := HT.out h_; exact ⟨g1, g2, g3, e1_, e2_, e3_, t_.later hb_⟩); clear HT; revert n2_; intro HT; clear HB hg_T hbox_ hb_; have HB := n0_; clear n0_))
 obtain ⟨w4, hw4⟩ : ∃ w4, w4 = ((w3.setCell ⟨gT, 0, none⟩ (.map m1)).setCell ⟨gT, 1, none⟩ (.map m2)).setCell ⟨gT, 2, none⟩ (.map m3) := ⟨_, rfl⟩
 rw [← hw4]
 have BT4 := mk_ (show w4.heap[gT]? = some (.cells #[.map m1, .map m2, .map m3] 68 (0, 0)) by rw [hw4]; exact blk_put3 BT.out _ _ _)
 have HT4 := mk_ (show marketOk l0 l9 = true → ∃ g1 g2 g3, m1 = some g1 ∧ m2 = some g2 ∧ m3 = some g3 ∧ Town w4 w.heap.size g1 g2 g3 (homesM l9 l9.length) (knownM l0 l0.length) (occM l9 l9.length) from fun h => by
  obtain ⟨g1, g2, g3, e1, e2, e3, ht⟩ := HT.out h
  refine ⟨g1, g2, g3, e1, e2, e3, ?_⟩
  rw [hw4]
  exact ((ht.put BT.out 0 _).put (blk_put BT.out 0 _ rfl) 1 _).put (blk_put (blk_put BT.out 0 _ rfl) 1 _ rfl) 2 _)
 have n0_ := mk_ (show Below w.heap.size w w4 by rw [hw4]; exact below_put3 HB.out GT.out _ _ _)
 clear HB HT BT hw4 hcT0 hcT1 hcT2 hfT0 hfT1 hfT2 hcM0 hcM1 hfM0 hfM1 BM
 have HB := n0_
 clear n0_
 go_upto_region 3 with (first | (go_at_call 31; (with_reducible refine (replied_calls A3 c3 l3 due _ (Kd.C_below HR3.out HB.out) HC3.out HF3.out).mono ?_); rintro e w5 ⟨mv, rfl, hm_, hb_⟩; have HM5 := mk_ (show repliesB l3 = true → ∃ g, mv = some g ∧ w.heap.size ≤ g ∧ MapI w5 g (mapV vState (repM l3 due l3.length)) from fun h_ => by obtain ⟨g, e1_, e2_, m_⟩ := hm_ h_; exact ⟨g, e1_, Nat.le_trans (below_size HB.out) e2_, m_⟩); have BT5 := mk_ (blk_below BT4.out hb_); have HT5 := mk_ (show marketOk l0 l9 = true → ∃ g1 g2 g3, m1 = some g1 ∧ m2 = some g2 ∧ m3 = some g3 ∧ Town w5 w.heap.size g1 g2 g3 (homesM l9 l9.length) (knownM l0 l0.length) (occM l9 l9.length) from fun h_ => by obtain ⟨g1, g2, g3, e1_, e2_, e3_, t_⟩ := HT4.out h_; exact ⟨g1, g2, g3, e1_, e2_, e3_, t_.later hb_⟩); have n0_ := mk_ (below_step HB.out hb_); clear HB hb_ hm_; have HB := n0_; clear n0_) | ((with_reducible refine gate_dst (N := 13) rfl ?_); refine box_event ?hg (N := 13) ?hd (cs := #[.map none]) (t := 71) ?hr ?_; (case hd => rfl); (case hg => rfl); (case hr => first | (go_simp; done) | (go_simp; rfl)); intro gS hg_S w6 hbox_ hb_; have n0_ := mk_ (below_step HB.out hb_); have BS := mk_ hbox_; have GS := mk_ (show w.heap.size ≤ gS by rw [hg_S]; exact below_size HB.out); have ES := mk_ hg_S; have hcS0 : w6.cell? ⟨gS, 0, none⟩ = some (.map none) := (blk_cell hbox_ 0).trans rfl; have hfS0 := blk_frozen hbox_ 0; have BT6 := mk_ (blk_below BT5.out hb_); have HT6 := mk_ (show marketOk l0 l9 = true → ∃ g1 g2 g3, m1 = some g1 ∧ m2 = some g2 ∧ m3 = some g3 ∧ Town w6 w.heap.size g1 g2 g3 (homesM l9 l9.length) (knownM l0 l0.length) (occM l9 l9.length) from fun h_ => by obtain ⟨g1, g2, g3, e1_, e2_, e3_, t_⟩ := HT5.out h_; exact ⟨g1, g2, g3, e1_, e2_, e3_, t_.later hb_⟩); have HM6 := mk_ (show repliesB l3 = true → ∃ g, mv = some g ∧ w.heap.size ≤ g ∧ MapI w6 g (mapV vState (repM l3 due l3.length)) from fun h_ => by obtain ⟨g, e1_, e2_, m_⟩ := HM5.out h_; exact ⟨g, e1_, e2_, m_.below hb_⟩); clear BT5 HT5 HM5; clear HB hg_S hbox_ hb_; have HB := n0_; clear n0_))
 obtain ⟨w7, hw7⟩ : ∃ w7, w7 = w6.setCell ⟨gS, 0, none⟩ (.map mv) := ⟨_, rfl⟩
 rw [← hw7]
 have NTS := mk_ (show gT ≠ gS from blk_ne BT6.out BS.out (by decide))
 have BT7 := mk_ (show w7.heap[gT]? = some (.cells #[.map m1, .map m2, .map m3] 68 (0, 0)) by rw [hw7]; exact (Below.heap_setCell _ _ _ _ NTS.out).trans BT6.out)
 have BS7 := mk_ (show w7.heap[gS]? = some (.cells #[.map mv] 71 (0, 0)) by rw [hw7]; exact blk_put BS.out 0 _ rfl)
 have HT7 := mk_ (show marketOk l0 l9 = true → ∃ g1 g2 g3, m1 = some g1 ∧ m2 = some g2 ∧ m3 = some g3 ∧ Town w7 w.heap.size g1 g2 g3 (homesM l9 l9.length) (knownM l0 l0.length) (occM l9 l9.length) from fun h => by
  obtain ⟨g1, g2, g3, e1, e2, e3, ht⟩ := HT6.out h
  refine ⟨g1, g2, g3, e1, e2, e3, ?_⟩
  rw [hw7]
  exact ht.put BS.out 0 _)
 have HM7 := mk_ (show repliesB l3 = true → ∃ g, mv = some g ∧ w.heap.size ≤ g ∧ MapI w7 g (mapV vState (repM l3 due l3.length)) from fun h => by
  obtain ⟨g, e1, e2, hm⟩ := HM6.out h
  refine ⟨g, e1, e2, ?_⟩
  rw [hw7]
  exact hm.move (Below.heap_setCell _ _ _ _ (fun e => hm.ne_blk BS.out (by rw [e]))))
 have HB7 := mk_ (show Below w.heap.size w w7 by rw [hw7]; exact below_set HB.out GS.out)
 clear HB HT4 HT6 HM6 BT4 BT6 BS hw7 hcS0 hfS0 NTS
 cases hx1 : marketOk l0 l9 with
 | false =>
  have HE := mk_ (show r = ([], [], 1) by rw [HRR.out]; unfold runR; rw [if_neg (by rw [hx1]; rintro ⟨h, _⟩; cases h)])
  clear hx1
  go_wp2_with (fail)
  go_ret3
  rw [HE.out]
  exact ⟨_, _, rfl, Kd.R_nil _ _ _ _ _, Kd.R_nil _ _ _ _ _, HB7.out⟩
 | true =>
 obtain ⟨g1, g2, g3, e1, e2, e3, hT⟩ := HT7.out hx1
 subst e1
 subst e2
 subst e3
 have HT8 := mk_ hT
 clear hT HT7
 cases hx2 : repliesB l3 with
 | false =>
  have HE := mk_ (show r = ([], [], 1) by rw [HRR.out]; unfold runR; rw [if_neg (by rw [hx2]; rintro ⟨_, h, _⟩; cases h)])
  clear hx1 hx2
  go_wp2_with (fail)
  go_ret3
  rw [HE.out]
  exact ⟨_, _, rfl, Kd.R_nil _ _ _ _ _, Kd.R_nil _ _ _ _ _, HB7.out⟩
 | true =>
 obtain ⟨gm, e4, gml, hM⟩ := HM7.out hx2
 subst e4
 have HM8 := mk_ hM
 clear hM HM7 gml
 by_cases hx3 : due < 0
 ·have HE := mk_ (show r = ([], [], 1) by rw [HRR.out]; unfold runR; rw [if_neg (by rintro ⟨_, _, h, _⟩; omega)])
  have u3 : decide (due < 0) = true := decide_eq_true hx3
  clear hx1 hx2 hx3
  go_wp2_with (fail)
  go_ret3
  rw [HE.out]
  exact ⟨_, _, rfl, Kd.R_nil _ _ _ _ _, Kd.R_nil _ _ _ _ _, HB7.out⟩
 have u3 : decide (due < 0) = false := decide_eq_false hx3
 by_cases hx4 : 36524 < due
 ·have HE := mk_ (show r = ([], [], 1) by rw [HRR.out]; unfold runR; rw [if_neg (by rintro ⟨_, _, _, h, _⟩; omega)])
  have u4 : decide (36524 < due) = true := decide_eq_true hx4
  clear hx1 hx2 hx3 hx4
  go_wp2_with (fail)
  go_ret3
  rw [HE.out]
  exact ⟨_, _, rfl, Kd.R_nil _ _ _ _ _, Kd.R_nil _ _ _ _ _, HB7.out⟩
 have u4 : decide (36524 < due) = false := decide_eq_false hx4
 have hcT0 := bc0_ BT7.out
 have hcT1 := bc1_ BT7.out
 have hcT2 := bc2_ BT7.out
 cases hx5 : ringsB (homesM l9 l9.length) (knownM l0 l0.length) (occM l9 l9.length) l1 with
 | false =>
  have HE := mk_ (show r = ([], [], 1) by rw [HRR.out]; unfold runR; rw [if_neg (by rw [hx5]; rintro ⟨_, _, _, _, h⟩; cases h)])
  have HX5 := mk_ hx5
  clear hx1 hx2 hx3 hx4 hx5
  go_wp2_with (first | (go_at_call 32; (with_reducible refine (rings_calls _ w.heap.size g1 g2 g3 _ _ _ A1 c1 l1 HT8.out (Kd.C_below HR1.out HB7.out) HC1.out HF2.out).mono ?_); rw [HX5.out]; rintro e w8 ⟨rfl, hb_⟩; have HB8 := mk_ (below_step HB7.out hb_); have BS8 := mk_ (blk_below BS7.out hb_); have HM9 := mk_ (HM8.out.below hb_); clear hb_ hcT0 hcT1 hcT2))
  go_ret3
  rw [HE.out]
  exact ⟨_, _, rfl, Kd.R_nil _ _ _ _ _, Kd.R_nil _ _ _ _ _, HB8.out⟩
 | true =>
  obtain ⟨SM, hSM⟩ : ∃ SM, SM = repM l3 due l3.length := ⟨_, rfl⟩
  have HE := mk_ (show r = (goM SM l1 l1.length, brM SM l1 l1.length, 0) by rw [HRR.out, hSM]; unfold runR; rw [if_pos ⟨hx1, hx2, by omega, by omega, hx5⟩])
  have HX5 := mk_ hx5
  rw [← hSM] at HM8
  clear hx1 hx2 hx3 hx4 hx5 hSM
  go_wp2_with (first | (go_at_call 32; (with_reducible refine (rings_calls _ w.heap.size g1 g2 g3 _ _ _ A1 c1 l1 HT8.out (Kd.C_below HR1.out HB7.out) HC1.out HF2.out).mono ?_); rw [HX5.out]; rintro e w8 ⟨rfl, hb_⟩; have HB8 := mk_ (below_step HB7.out hb_); have BS8 := mk_ (blk_below BS7.out hb_); have HM9 := mk_ (HM8.out.below hb_); clear hb_ hcT0 hcT1 hcT2))
  go_loopg [16, 17, 55] l1.length (fun kq v16 v17 v55 wr => ∃ (n : Nat), v55 = .int .i64 n ∧ Aside0 (kq + n = l1.length) ∧ Aside0 (Kd.R k51 51 wr w.heap.size (fun _ => True) v16 (goM SM l1 n)) ∧ Aside0 (Kd.R (Kd.int .i64) 3 wr w.heap.size (fun _ => True) v17 (brM SM l1 n)) ∧ Aside0 (wr.heap[gS]? = some (.cells #[.map (some gm)] 71 (0, 0))) ∧ Aside0 (MapI wr gm (mapV vState SM)) ∧ Aside0 (Below w.heap.size w wr))
  case atStart => exact ⟨0, rfl, ⟨by omega⟩, ⟨Kd.R_nil _ _ _ _ _⟩, ⟨Kd.R_nil _ _ _ _ _⟩, BS8, HM9, HB8⟩
  case round =>
   clear BS8 HM9 HB8 HM8 BS7 BT7 HT8 HB7
   rename_i V16_ V17_
   obtain ⟨n, rfl, HK, HG, HBK, BS, HM, HB⟩ := hrel
   by_cases hlt : n < l1.length
   rotate_left
   ·have d7 : decide ((n : Int) < (l1.length : Int)) = false := decide_eq_false (by omega)
    have d7' : decide (n < l1.length) = false := decide_eq_false hlt
    have hnl : n = l1.length := by have := HK.out; omega
    rw [hnl] at HG HBK
    clear hlt hnl
    go_wp2
    go_ret3
    rw [HE.out]
    exact ⟨_, _, rfl, HG.out, HBK.out, HB.out⟩
   obtain ⟨i, hi⟩ : ∃ i : Int, i = (n : Int) := ⟨_, rfl⟩
   rw [← hi]
   have HI2 := mk_ (show 0 ≤ i ∧ i < l1.length ∧ i = (n : Int) from ⟨by omega, by omega, hi⟩)
   have d7 : decide (i < (l1.length : Int)) = true := decide_eq_true HI2.out.2.1
   have ci2 : (0 ≤ i) = True := eq_true HI2.out.1
   have ci3 : (i < l1.length) = True := eq_true HI2.out.2.1
   obtain ⟨adr, Ar, cr, er, hx0, hx1, hrc, hrC⟩ := at_T49 HR1.out i HI2.out.1 HI2.out.2.1
   subst er
   obtain ⟨q, hq⟩ : ∃ q, q = rd_T49 l1 i := ⟨_, rfl⟩
   have HRL := mk_ (show q.f1.length ≤ 1000 by rw [hq]; exact HF5.out i HI2.out.1 HI2.out.2.1)
   rw [← hq] at hx0 hx1 hrc hrC
   have HRC := mk_ (And.intro hrc hrC)
   replace hx0 := (HB.out.cell (World.block_lt_of_cell? _ _ hx0)).trans hx0
   replace hx1 := (HB.out.cell (World.block_lt_of_cell? _ _ hx1)).trans hx1
   have HP := mk_ (show rd_T49 l1 (n : Int) = q by rw [hq, hi])
   have hz1 : i + 1 ≤ 9223372036854775807 := by have := HI2.out; have := HF4.out; omega
   have hz2 : -9223372036854775808 ≤ i + 1 := by have := HI2.out; omega
   have HLT := mk_ hlt
   have HGL := mk_ (show (goM SM l1 n).length ≤ 1000 * n from goM_len SM l1 HF5.out n (by omega))
   have HBL := mk_ (brM_len SM l1 n)
   clear hi hlt hq hrc hrC
   obtain ⟨A16, c16, e16⟩ := Kd.R_slice HG.out
   obtain ⟨A17, c17, e17⟩ := Kd.R_slice HBK.out
   subst e16
   subst e17
   go_upto_region 11 with (first | (have HB0 := mk_ (Below.refl wr.heap.size wr); (with_reducible refine gate_dst (N := 19) rfl ?_); refine box_event ?hg (N := 19) ?hd (cs := #[.bool false, .slice none 0 0]) (t := 49) ?hr ?_; (case hd => rfl); (case hg => rfl); (case hr => first | (go_simp; done) | (go_simp; rfl)); intro gr hg_R w9 hbox_ hb_; have n0_ := mk_ (below_step HB0.out hb_); have BR := mk_ hbox_; have GR := mk_ (show wr.heap.size ≤ gr by rw [hg_R]; exact below_size HB0.out); have ER := mk_ hg_R; have hcr0 : w9.cell? ⟨gr, 0, none⟩ = some (.bool false) := (blk_cell hbox_ 0).trans rfl; have hfr0 := blk_frozen hbox_ 0; have hcr1 : w9.cell? ⟨gr, 1, none⟩ = some (.slice none 0 0) := (blk_cell hbox_ 1).trans rfl; have hfr1 := blk_frozen hbox_ 1; replace hx0 := cd_ hb_ hx0; replace hx1 := cd_ hb_ hx1; clear HB0 hg_R hbox_ hb_; have HB0 := n0_; clear n0_))
   obtain ⟨w10, hw10⟩ : ∃ w10, w10 = (w9.setCell ⟨gr, 0, none⟩ (.bool q.f0)).setCell ⟨gr, 1, none⟩ (.slice Ar q.f1.length cr) := ⟨_, rfl⟩
   rw [← hw10]
   have BR10 := mk_ (show w10.heap[gr]? = some (.cells #[.bool q.f0, .slice Ar q.f1.length cr] 49 (0, 0)) by rw [hw10]; exact blk_put2 BR.out _ _)
   have hb10 : Below wr.heap.size wr w10 := by rw [hw10]; exact below_put2 HB0.out GR.out _ _
   have HG10 := mk_ (Kd.R_below HG.out hb10)
   have HK10 := mk_ (Kd.R_below HBK.out hb10)
   have BS10 := mk_ (blk_below BS.out hb10)
   have HM10 := mk_ (HM.out.below hb10)
   have HB10 := mk_ (below_step HB.out hb10)
   clear hw10 hb10 BR HB0 hcr0 hcr1 hfr0 hfr1 hx0 hx1 HG HBK BS HM HB
   have hcr0 := bc0_ BR10.out
   have hcr1 := bc1_ BR10.out
   have HIX := mk_ (idx_lt (refB SM) q.f1)
   obtain ⟨x, hx⟩ : ∃ x, x = idxB51 (refB SM) q.f1 := ⟨_, rfl⟩
   rw [← hx] at HIX
   have HX := mk_ hx
   clear hx
   obtain ⟨i0_, hi0_, _, _, _⟩ := info_parts info51
   by_cases g0 : x < 0
   ·have u0 : decide (x < 0) = true := decide_eq_true g0
    have HN := mk_ (show nOf SM q = q.f1.length by unfold nOf; rw [← HX.out, if_pos g0])
    have HBR := mk_ (show brk SM q = false by unfold brk; rw [← HX.out]; exact decide_eq_false (by omega))
    have hcut := cut_to (P := Try.prog) 28 51 .i64 Try.underlying28 hi0_ Ar q.f1.length cr (q.f1.length : Int) (by omega) (by omega) HRC.out.1
    clear g0
    obtain ⟨m, hm⟩ : ∃ m, m = q.f1.length := ⟨_, rfl⟩
    have HMN := mk_ (show m = nOf SM q ∧ m ≤ q.f1.length from ⟨by rw [HN.out, hm], by omega⟩)
    obtain ⟨ys, hys⟩ : ∃ ys, ys = q.f1.take m := ⟨_, rfl⟩
    have hyl : ys.length = m := by rw [hys, List.length_take]; exact Nat.min_eq_left HMN.out.2
    have HYL := mk_ hyl
    have HYS := mk_ hys
    have HYC := mk_ (show Kd.C k51 w Ar ys.length ys by rw [hys]; exact Kd.C_take (m := m) HRC.out.2 HMN.out.2)
    rw [show ((q.f1.length : Nat) : Int).toNat = ys.length by rw [hyl, hm]; rfl] at hcut
    clear hyl hys hm
    go_wp2_with (first | ((with_reducible refine (refuses_index Ar cr q.f1 _ (Kd.C_below HRC.out.2 HB10.out) HRC.out.1 (by have := HRL.out; omega) gS gm SM BS10.out HM10.out).mono ?_); rw [← HX.out]; rintro e w11 ⟨rfl, hb_⟩; have HG11 := mk_ (Kd.R_below HG10.out hb_); have HK11 := mk_ (Kd.R_below HK10.out hb_); have BS11 := mk_ (blk_below BS10.out hb_); have HM11 := mk_ (HM10.out.below hb_); have HB11 := mk_ (below_step HB10.out hb_); have BR11 := mk_ (blk_below BR10.out hb_); replace hcr0 := cd_ hb_ hcr0; replace hcr1 := cd_ hb_ hcr1; clear hb_) | ((with_reducible refine gate_builtin (b := .append) (xs := #[.tmp 81, .tmp 85]) rfl ?_); at_builtin; refine Kd.R_append_rows k51 (w0 := w) w.heap.size rfl (.tmp 81) (.tmp 85) 28 51 (.agg #[(.int .i64 0), (.int .i64 0), (.int .i64 0)]) 24 rfl Try.underlying28 info51 rfl (by decide) (by omega) (.slice A16 (goM SM l1 n).length c16) (goM SM l1 n) ys _ _ _ (fun _ => True) (fun _ => False) rfl rfl HG11.out (Kd.C_below HYC.out HB11.out) (fun _ _ h => h) (fun _ h => h.elim) (fun _ _ => trivial) HB11.out (below_size HB11.out) (by have := HGL.out; have := HLT.out; have := HF4.out; have := HYL.out; have := HMN.out.2; have := HRL.out; omega) ?_; intro v86 w13 ho hb hg hat; have HG13 := mk_ ho; have HK13 := mk_ (Kd.R_over' HK11.out (Kd.R_typed HG11.out) (by decide) hg); have BS13 := mk_ (blk_grown BS11.out hg (Kd.R_ne HG11.out BS11.out (by decide))); have HM13 := mk_ (HM11.out.kept hg (HM11.out.ne_row HG11.out)); have HB13 := mk_ hb; clear ho hb hg hat))
    go_roundg (gk - 1)
    case measure => have := HK.out; have := HLT.out; omega
    case rel =>
     refine ⟨n + 1, ?_, ⟨by have := HK.out; have := HLT.out; omega⟩, ⟨?_⟩, ⟨?_⟩, BS13, HM13, HB13⟩
     ·have := HI2.out
      first | (rw [show ((n + 1 : Nat) : Int) = i + 1 from by omega]; done) | (simp; omega)
     ·have h := HG13.out
      rw [goM_succ, HP.out, ← HMN.out.1, ← HYS.out]
      exact h
     ·have h := HK13.out
      rw [brM_succ, HP.out, HBR.out]
      rw [if_neg (by decide)]
      exact h
   have u0 : decide (x < 0) = false := decide_eq_false g0
   have HBR := mk_ (show brk SM q = true by unfold brk; rw [← HX.out]; exact decide_eq_true (by omega))
   rcases Bool.eq_false_or_eq_true q.f0 with hch | hch
   ·rw [hch] at hcr0
    obtain ⟨m, hm⟩ : ∃ m : Nat, m = x.toNat := ⟨_, rfl⟩
    have HMN := mk_ (show m = nOf SM q ∧ m ≤ q.f1.length from ⟨by unfold nOf; rw [← HX.out, if_neg g0, if_pos hch, hm], by have := HIX.out; omega⟩)
    have hcut := cut_to (P := Try.prog) 28 51 .i64 Try.underlying28 hi0_ Ar q.f1.length cr x (by omega) (by have := HIX.out; omega) HRC.out.1
    obtain ⟨ys, hys⟩ : ∃ ys, ys = q.f1.take m := ⟨_, rfl⟩
    have hyl : ys.length = m := by rw [hys, List.length_take]; exact Nat.min_eq_left HMN.out.2
    have HYL := mk_ hyl
    have HYS := mk_ hys
    have HYC := mk_ (show Kd.C k51 w Ar ys.length ys by rw [hys]; exact Kd.C_take (m := m) HRC.out.2 HMN.out.2)
    rw [show x.toNat = ys.length by rw [hyl, hm]] at hcut
    clear g0 hch hm hyl hys
    go_wp2_with (first | ((with_reducible refine (refuses_index Ar cr q.f1 _ (Kd.C_below HRC.out.2 HB10.out) HRC.out.1 (by have := HRL.out; omega) gS gm SM BS10.out HM10.out).mono ?_); rw [← HX.out]; rintro e w11 ⟨rfl, hb_⟩; have HG11 := mk_ (Kd.R_below HG10.out hb_); have HK11 := mk_ (Kd.R_below HK10.out hb_); have BS11 := mk_ (blk_below BS10.out hb_); have HM11 := mk_ (HM10.out.below hb_); have HB11 := mk_ (below_step HB10.out hb_); have BR11 := mk_ (blk_below BR10.out hb_); replace hcr0 := cd_ hb_ hcr0; replace hcr1 := cd_ hb_ hcr1; clear hb_) | ((with_reducible refine gate_builtin (b := .append) (xs := #[.tmp 77, .tmp 79]) rfl ?_); at_builtin; refine Kd.R_append (Kd.int .i64) (w0 := w) w.heap.size rfl (.tmp 77) (.tmp 79) 29 3 (.int .i64 0) 8 rfl Try.underlying29 info3 rfl (by decide) (by omega) (.slice A17 (brM SM l1 n).length c17) (brM SM l1 n) i [.int .i64 i] (fun _ => True) (fun _ => False) rfl rfl rfl (fun _ hk => hk.elim) (fun _ _ => trivial) HK11.out HB11.out (below_size HB11.out) (by have := HBL.out; have := HLT.out; have := HF4.out; omega) ?_; intro v56 w12 ho hb hg hat; have HK12 := mk_ ho; have HG12 := mk_ (Kd.R_over' HG11.out (Kd.R_typed HK11.out) (by decide) hg); have BS12 := mk_ (blk_grown BS11.out hg (Kd.R_ne HK11.out BS11.out (by decide))); have BR12 := mk_ (blk_grown BR11.out hg (Kd.R_ne HK11.out BR11.out (by decide))); have HM12 := mk_ (HM11.out.kept hg (HM11.out.ne_row HK11.out)); have HB12 := mk_ hb; replace hcr0 := (blk_cell BR12.out 0).trans rfl; replace hcr1 := (blk_cell BR12.out 1).trans rfl; clear ho hb hg hat) | ((with_reducible refine gate_builtin (b := .append) (xs := #[.tmp 81, .tmp 85]) rfl ?_); at_builtin; refine Kd.R_append_rows k51 (w0 := w) w.heap.size rfl (.tmp 81) (.tmp 85) 28 51 (.agg #[(.int .i64 0), (.int .i64 0), (.int .i64 0)]) 24 rfl Try.underlying28 info51 rfl (by decide) (by omega) (.slice A16 (goM SM l1 n).length c16) (goM SM l1 n) ys _ _ _ (fun _ => True) (fun _ => False) rfl rfl HG12.out (Kd.C_below HYC.out HB12.out) (fun _ _ h => h) (fun _ h => h.elim) (fun _ _ => trivial) HB12.out (below_size HB12.out) (by have := HGL.out; have := HLT.out; have := HF4.out; have := HYL.out; have := HMN.out.2; have := HRL.out; omega) ?_; intro v86 w13 ho hb hg hat; have HG13 := mk_ ho; have HK13 := mk_ (Kd.R_over' HK12.out (Kd.R_typed HG12.out) (by decide) hg); have BS13 := mk_ (blk_grown BS12.out hg (Kd.R_ne HG12.out BS12.out (by decide))); have HM13 := mk_ (HM12.out.kept hg (HM12.out.ne_row HG12.out)); have HB13 := mk_ hb; clear ho hb hg hat))
    go_roundg (gk - 1)
    case measure => have := HK.out; have := HLT.out; omega
    case rel =>
     refine ⟨n + 1, ?_, ⟨by have := HK.out; have := HLT.out; omega⟩, ⟨?_⟩, ⟨?_⟩, BS13, HM13, HB13⟩
     ·have := HI2.out
      first | (rw [show ((n + 1 : Nat) : Int) = i + 1 from by omega]; done) | (simp; omega)
     ·have h := HG13.out
      rw [goM_succ, HP.out, ← HMN.out.1, ← HYS.out]
      exact h
     ·have h := HK13.out
      rw [brM_succ, HP.out, HBR.out]
      have := HI2.out
      rw [if_pos rfl, show ((n : Nat) : Int) = i from this.2.2.symm]
      exact h
   ·rw [hch] at hcr0
    obtain ⟨m, hm⟩ : ∃ m : Nat, m = 0 := ⟨_, rfl⟩
    have HMN := mk_ (show m = nOf SM q ∧ m ≤ q.f1.length from ⟨by unfold nOf; rw [← HX.out, if_neg g0, if_neg (by rw [hch]; decide), hm], by omega⟩)
    have hcut := cut_to (P := Try.prog) 28 51 .i64 Try.underlying28 hi0_ Ar q.f1.length cr 0 (by omega) (by omega) HRC.out.1
    obtain ⟨ys, hys⟩ : ∃ ys, ys = q.f1.take m := ⟨_, rfl⟩
    have hyl : ys.length = m := by rw [hys, List.length_take]; exact Nat.min_eq_left HMN.out.2
    have HYL := mk_ hyl
    have HYS := mk_ hys
    have HYC := mk_ (show Kd.C k51 w Ar ys.length ys by rw [hys]; exact Kd.C_take (m := m) HRC.out.2 HMN.out.2)
    rw [show (0 : Int).toNat = ys.length by rw [hyl, hm]; rfl] at hcut
    clear g0 hch hm hyl hys
    go_wp2_with (first | ((with_reducible refine (refuses_index Ar cr q.f1 _ (Kd.C_below HRC.out.2 HB10.out) HRC.out.1 (by have := HRL.out; omega) gS gm SM BS10.out HM10.out).mono ?_); rw [← HX.out]; rintro e w11 ⟨rfl, hb_⟩; have HG11 := mk_ (Kd.R_below HG10.out hb_); have HK11 := mk_ (Kd.R_below HK10.out hb_); have BS11 := mk_ (blk_below BS10.out hb_); have HM11 := mk_ (HM10.out.below hb_); have HB11 := mk_ (below_step HB10.out hb_); have BR11 := mk_ (blk_below BR10.out hb_); replace hcr0 := cd_ hb_ hcr0; replace hcr1 := cd_ hb_ hcr1; clear hb_) | ((with_reducible refine gate_builtin (b := .append) (xs := #[.tmp 64, .tmp 66]) rfl ?_); at_builtin; refine Kd.R_append (Kd.int .i64) (w0 := w) w.heap.size rfl (.tmp 64) (.tmp 66) 29 3 (.int .i64 0) 8 rfl Try.underlying29 info3 rfl (by decide) (by omega) (.slice A17 (brM SM l1 n).length c17) (brM SM l1 n) i [.int .i64 i] (fun _ => True) (fun _ => False) rfl rfl rfl (fun _ hk => hk.elim) (fun _ _ => trivial) HK11.out HB11.out (below_size HB11.out) (by have := HBL.out; have := HLT.out; have := HF4.out; omega) ?_; intro v56 w12 ho hb hg hat; have HK12 := mk_ ho; have HG12 := mk_ (Kd.R_over' HG11.out (Kd.R_typed HK11.out) (by decide) hg); have BS12 := mk_ (blk_grown BS11.out hg (Kd.R_ne HK11.out BS11.out (by decide))); have BR12 := mk_ (blk_grown BR11.out hg (Kd.R_ne HK11.out BR11.out (by decide))); have HM12 := mk_ (HM11.out.kept hg (HM11.out.ne_row HK11.out)); have HB12 := mk_ hb; replace hcr0 := (blk_cell BR12.out 0).trans rfl; replace hcr1 := (blk_cell BR12.out 1).trans rfl; clear ho hb hg hat) | ((with_reducible refine gate_builtin (b := .append) (xs := #[.tmp 81, .tmp 85]) rfl ?_); at_builtin; refine Kd.R_append_rows k51 (w0 := w) w.heap.size rfl (.tmp 81) (.tmp 85) 28 51 (.agg #[(.int .i64 0), (.int .i64 0), (.int .i64 0)]) 24 rfl Try.underlying28 info51 rfl (by decide) (by omega) (.slice A16 (goM SM l1 n).length c16) (goM SM l1 n) ys _ _ _ (fun _ => True) (fun _ => False) rfl rfl HG12.out (Kd.C_below HYC.out HB12.out) (fun _ _ h => h) (fun _ h => h.elim) (fun _ _ => trivial) HB12.out (below_size HB12.out) (by have := HGL.out; have := HLT.out; have := HF4.out; have := HYL.out; have := HMN.out.2; have := HRL.out; omega) ?_; intro v86 w13 ho hb hg hat; have HG13 := mk_ ho; have HK13 := mk_ (Kd.R_over' HK12.out (Kd.R_typed HG12.out) (by decide) hg); have BS13 := mk_ (blk_grown BS12.out hg (Kd.R_ne HG12.out BS12.out (by decide))); have HM13 := mk_ (HM12.out.kept hg (HM12.out.ne_row HG12.out)); have HB13 := mk_ hb; clear ho hb hg hat))
    go_roundg (gk - 1)
    case measure => have := HK.out; have := HLT.out; omega
    case rel =>
     refine ⟨n + 1, ?_, ⟨by have := HK.out; have := HLT.out; omega⟩, ⟨?_⟩, ⟨?_⟩, BS13, HM13, HB13⟩
     ·have := HI2.out
      first | (rw [show ((n + 1 : Nat) : Int) = i + 1 from by omega]; done) | (simp; omega)
     ·have h := HG13.out
      rw [goM_succ, HP.out, ← HMN.out.1, ← HYS.out]
      exact h
     ·have h := HK13.out
      rw [brM_succ, HP.out, HBR.out]
      have := HI2.out
      rw [if_pos rfl, show ((n : Nat) : Int) = i from this.2.2.symm]
      exact h
theorem chain_Run.calls (A0_0 : Option Addr) (c0_0 : Nat) (l0_0 : List (S84)) (A0_1 : Option Addr) (c0_1 : Nat) (l0_1 : List (S46)) (A1 : Option Addr) (c1 : Nat) (l1 : List (S49)) (a2 : Int) (A3 : Option Addr) (c3 : Nat) (l3 : List (S55)) (r1 : List (S51)) (r2 : List Int) (r3 : Int) (w : World) (hr0_0 : Kd.C k84 w A0_0 l0_0.length l0_0) (hc0_0 : l0_0.length ≤ c0_0) (hr0_1 : Kd.C k46 w A0_1 l0_1.length l0_1) (hc0_1 : l0_1.length ≤ c0_1) (hr1 : Kd.C k49 w A1 l1.length l1) (hc1 : l1.length ≤ c1) (hr3 : Kd.C k55 w A3 l3.length l3) (hc3 : l3.length ≤ c3) (h : chain_Run.f l0_0 l0_1 l1 a2 l3 = some (r1, r2, r3)) :
  Calls Try.prog 13 #[.agg #[.slice A0_0 l0_0.length c0_0, .slice A0_1 l0_1.length c0_1], .slice A1 l1.length c1, .int .i64 a2, .slice A3 l3.length c3] w fun e w' => ∃ v0_ v1_ : Value, e = .returned (.tuple #[v0_, v1_, .int .i64 r3]) ∧ Kd.R k51 51 w' w.heap.size (fun _ => True) v0_ r1 ∧ Kd.R (Kd.int .i64) 3 w' w.heap.size (fun _ => True) v1_ r2 ∧ Below w.heap.size w w' := by
 unfold chain_Run.f at h
 by_cases hf : fewAll l0_0 l0_1 l1 l3 = true
 case neg => rw [if_neg hf] at h; cases h
 rw [if_pos hf] at h
 exact run_calls A0_0 c0_0 l0_0 A0_1 c0_1 l0_1 A1 c1 l1 a2 A3 c3 l3 (r1, r2, r3) w hr0_0 hc0_0 hr0_1 hc0_1 hr1 hc1 hr3 hc3 hf (Option.some.inj h).symm
end Go.Proofs.Ytocbiggglnpeoaa.M
end
section
namespace Go.Proofs.Ytocbiggglnpeoaa.M
open Go.RowKit Go.Proofs.YtocbiggglnpeoaaW.PrintWords Go.Proofs.YtocbiggglnpeoaaW.PrintLast Go.Proofs.YtocbiggglnpeoaaW.PrintMore
attribute [local go_sem] max2_int min2_int max_two min_two max_three min_three max_four min_four
set_option linter.unusedVariables false
set_option linter.unusedSimpArgs false
theorem slices_Clone_flats.nil_eq (A : Option Addr) (n c : Nat) (W : World) : (binOp .eql 22 (.slice A n c) (.slice none 0 0)).run Try.prog W = .ok (.bool A.isNone) W := by
 have h : ∀ d : Nat, (Op.equalIn (d + 1) 22 (.slice A n c) (.slice none 0 0)).run Try.prog W = .ok A.isNone W := fun d => by
  cases A <;> simp [Op.equalIn, run_underlying Try.underlying22]
 simp only [binOp]
 simp [Op.equal, Op.maxDepth, h 9999]
def slices_Clone_flats.f (l0 : List S84) : Option (List S84) := if l0.length ≤ 4398046511104 then some l0 else none
set_option maxHeartbeats 8000000 in
set_option maxRecDepth 100000 in
theorem slices_Clone_flats.calls (A0 : Option Addr) (c0 : Nat) (l0 : List S84) (r : List S84) (w : World) (hr0 : Kd.C k84 w A0 l0.length l0) (hc0 : l0.length ≤ c0) (h : slices_Clone_flats.f l0 = some r) :
  Calls Try.prog 38 #[.slice A0 l0.length c0] w fun e w' => ∃ v0_ : Value, e = .returned v0_ ∧ Kd.R k84 84 w' w.heap.size (fun k_ => w.heap.size ≤ k_) v0_ r ∧ Below w.heap.size w w' := by
 have hu84 := Try.underlying84
 unfold slices_Clone_flats.f at h
 by_cases hg : l0.length ≤ 4398046511104
 case neg => rw [if_neg hg] at h; cases h
 rw [if_pos hg] at h
 have e := Option.some.inj h
 subst e
 clear h
 have HG := mk_ hg
 have HR0 := mk_ hr0
 have HC0 := mk_ hc0
 clear hg hr0 hc0
 have HB := mk_ (Below.refl w.heap.size w)
 cases A0 with
 | none =>
  have e0 : l0 = [] := by
   have h2 := HR0.out.2.2
   cases l0 with
   | nil => rfl
   | cons a t => obtain ⟨ad, hh, _⟩ := h2 (by simp); cases hh
  subst e0
  have hnil : ∀ W, (binOp .eql 22 (.slice none 0 c0) (.slice none 0 0)).run Try.prog W = .ok (.bool true) W := fun W => slices_Clone_flats.nil_eq none _ _ W
  go_enter Try.func38, Try.ntmps38
  go_wp2
  go_ret
  exact ⟨_, rfl, Kd.R_nil _ _ _ _ _, HB.out⟩
 | some ad =>
  have hnil : ∀ W, (binOp .eql 22 (.slice (some ad) l0.length c0) (.slice none 0 0)).run Try.prog W = .ok (.bool false) W := fun W => slices_Clone_flats.nil_eq (some ad) _ _ W
  go_enter Try.func38, Try.ntmps38
  go_wp2_with (first | ((with_reducible refine gate_dst (N := 5) rfl ?_); (try (refine gate_guard (by rfl) ?_; dsimp only)); refine Kd.R_lit k84 _ 84 ?hg (N := 5) ?hd (xs := ([] : List S84)) (inner := []) (ok := fun k_ => w.heap.size ≤ k_) (okp := fun k_ => w.heap.size ≤ k_) ?hr ?hp (fun _ hk => hk) (below_size HB.out) (Below.refl _ _) (Nat.le_refl _) (by simp) ?_; (case hd => rfl); (case hg => rfl); (case hr => first | (go_simp; done) | (go_simp; rfl)); (case hp => exact (Reps.none _ _)); intro v5 w1 ho hb hg_ hnew_; clear hg_ hnew_; have HO5 := mk_ (Kd.R_lower ho (below_size HB.out)); have n1_ := mk_ (below_step HB.out hb); clear HB; have HB := n1_; clear n1_ hb ho) | ((with_reducible refine gate_builtin (b := .append) (xs := #[.tmp 5, .tmp 6]) rfl ?_); at_builtin; refine Kd.R_append_rows k84 (w0 := w) w.heap.size rfl (.tmp 5) (.tmp 6) 22 84 (.agg #[(.int .i64 0), (.int .i64 0)]) 16 rfl Try.underlying22 info84 rfl (by decide) (by omega) v5 ([] : List S84) l0 _ _ _ (fun k_ => w.heap.size ≤ k_) (fun _ => False) rfl rfl HO5.out (Kd.C_below HR0.out HB.out) (fun _ _ h => h) (fun _ h => h.elim) (fun k_ hk_ => Nat.le_trans (below_size HB.out) hk_) HB.out (below_size HB.out) (by have := HG.out; simp only [List.length_nil]; omega) ?_; intro v7 w4 ho hb hg hat; have HO7 := mk_ ho; have n0_ := mk_ hb; clear HB; have HB := n0_; clear n0_ ho hb hg hat))
  go_ret
  exact ⟨_, rfl, HO7.out, HB.out⟩
end Go.Proofs.Ytocbiggglnpeoaa.M
end
section
namespace Go.Proofs.Ytocbiggglnpeoaa.M
open Go.RowKit Go.Proofs.YtocbiggglnpeoaaW.PrintWords Go.Proofs.YtocbiggglnpeoaaW.PrintLast Go.Proofs.YtocbiggglnpeoaaW.PrintMore
attribute [local go_sem] max2_int min2_int max_two min_two max_three min_three max_four min_four
set_option linter.unusedVariables false
set_option linter.unusedSimpArgs false
def slices_Index_int_int.l0 : Nat → List Int → Int → Int → Int → Option (Int)
 | 0, _, _, _, _ => none
 | k + 1, x0, x1, x7, x8 => if x8 < x7 then (if 0 ≤ x8 then (if x8 < (x0.length : Int) then (if x1 = (rd x0 x8) then (some x8) else (slices_Index_int_int.l0 k x0 x1 x7 (wrap64 (x8 + 1)))) else (none)) else (none)) else (some (-1))
def slices_Index_int_int.f (k : Nat) (l0 : List Int) (a1 : Int) : Option (Int) := slices_Index_int_int.l0 k l0 a1 (l0.length : Int) 0
set_option maxHeartbeats 8000000 in
set_option maxRecDepth 100000 in
theorem slices_Index_int_int.calls (k : Nat) (A0 : Option Addr) (c0 : Nat) (l0 : List Int) (a1 : Int) (r : Int) (w : World) (hr0 : Kd.C (Kd.int .i64) w A0 l0.length l0) (hc0 : l0.length ≤ c0) (h : slices_Index_int_int.f k l0 a1 = some r) :
  Calls Try.prog 48 #[.slice A0 l0.length c0, .int .i64 a1] w fun e w' => e = .returned (.int .i64 r) ∧ Drawn0 w w' := by
 have HR0 := mk_ hr0
 have HC0 := mk_ hc0
 clear hr0 hc0
 have H : (slices_Index_int_int.l0 k l0 a1 (l0.length : Int) 0) = some r := h
 clear h
 have H' := mk_ H
 clear H
 go_enter Try.func48, Try.ntmps48
 go_wp2
 go_loopg [8] k (fun kq v8 w' => ∃ (x8_1 : Int), v8 = .int .i64 x8_1 ∧ Aside0 (slices_Index_int_int.l0 kq l0 a1 (l0.length : Int) x8_1 = some r) ∧ Aside0 (kq ≤ k) ∧ Drawn0 w w')
 case atStart => exact ⟨(0), sd_, H', ⟨Nat.le_refl _⟩, by repeat (first | exact Drawn0.refl _ | apply Drawn0.step)⟩
 case round =>
  clear H'
  try clear p2
  obtain ⟨x8_1, rfl, HA, HK1, ⟨m1, rfl⟩⟩ := hrel
  cases gk with
  | zero => exact absurd HA.out (by simp [slices_Index_int_int.l0])
  | succ k1 =>
   have H := HA.out
   clear HA
   simp only [slices_Index_int_int.l0] at H
   by_cases c3 : x8_1 < (l0.length : Int)
   rotate_left
   ·rw [if_neg c3] at H
    have c3b0 : decide (x8_1 < (l0.length : Int)) = false := decide_eq_false c3
    clear c3
    obtain rfl := Option.some.inj H
    go_wp2
    go_ret
    exact ⟨by first | rfl | (simp; done) | (simp [*]; done), by repeat (first | exact Drawn0.refl _ | apply Drawn0.step)⟩
   rw [if_pos c3] at H
   have c3b0 : decide (x8_1 < (l0.length : Int)) = true := decide_eq_true c3
   clear c3
   by_cases c4 : 0 ≤ x8_1
   rotate_left
   ·rw [if_neg c4] at H
    exact absurd H (by simp)
   rw [if_pos c4] at H
   have c4b0 : decide (0 ≤ x8_1) = true := decide_eq_true c4
   clear c4
   by_cases c5 : x8_1 < (l0.length : Int)
   rotate_left
   ·rw [if_neg c5] at H
    exact absurd H (by simp)
   rw [if_pos c5] at H
   have c5b0 : decide (x8_1 < (l0.length : Int)) = true := decide_eq_true c5
   clear c5
   by_cases c6 : a1 = (rd l0 x8_1)
   ·rw [if_pos c6] at H
    have c6b0 : (a1 == (rd l0 x8_1)) = true := beq_iff_eq.mpr c6
    have c6b1 : (a1 != (rd l0 x8_1)) = false := bne_eq_false_iff_eq.mpr c6
    clear c6
    obtain rfl := Option.some.inj H
    have p101 : 0 ≤ (x8_1 : Int) := od_
    have q101 : x8_1 < (l0.length : Int) := od_
    obtain ⟨ad101, e101, hx101_0⟩ := Kd.at_int HR0.out x8_1 p101 q101
    cases e101
    replace p101 := eq_true p101
    replace q101 := eq_true q101
    go_wp2
    go_ret
    exact ⟨by first | rfl | (simp; done) | (simp [*]; done), by repeat (first | exact Drawn0.refl _ | apply Drawn0.step)⟩
   rw [if_neg c6] at H
   have c6b0 : (a1 == (rd l0 x8_1)) = false := beq_eq_false_iff_ne.mpr c6
   have c6b1 : (a1 != (rd l0 x8_1)) = true := bne_iff_ne.mpr c6
   have H' := mk_ H
   clear H
   have p101 : 0 ≤ (x8_1 : Int) := od_
   have q101 : x8_1 < (l0.length : Int) := od_
   obtain ⟨ad101, e101, hx101_0⟩ := Kd.at_int HR0.out x8_1 p101 q101
   cases e101
   replace p101 := eq_true p101
   replace q101 := eq_true q101
   go_wp2
   go_roundg k1
   case measure => have := HK1.out; omega
   case rel => exact ⟨(wrap64 (x8_1 + 1)), sd_, H', ⟨by have := HK1.out; omega⟩, by repeat (first | exact Drawn0.refl _ | apply Drawn0.step)⟩
end Go.Proofs.Ytocbiggglnpeoaa.M
end
section
namespace Go.Proofs.Ytocbiggglnpeoaa.M
open Go.RowKit Go.Proofs.YtocbiggglnpeoaaW.PrintWords Go.Proofs.YtocbiggglnpeoaaW.PrintLast Go.Proofs.YtocbiggglnpeoaaW.PrintMore
attribute [local go_sem] max2_int min2_int max_two min_two max_three min_three max_four min_four
set_option linter.unusedVariables false
set_option linter.unusedSimpArgs false
def slices_Contains_int_int.f (k : Nat) (l0 : List Int) (a1 : Int) : Option (Bool) := (slices_Index_int_int.f k l0 a1).bind fun t102 => (some (decide (t102 ≥ 0)))
set_option maxHeartbeats 8000000 in
set_option maxRecDepth 100000 in
theorem slices_Contains_int_int.calls (k : Nat) (A0 : Option Addr) (c0 : Nat) (l0 : List Int) (a1 : Int) (r : Bool) (w : World) (hr0 : Kd.C (Kd.int .i64) w A0 l0.length l0) (hc0 : l0.length ≤ c0) (h : slices_Contains_int_int.f k l0 a1 = some r) :
  Calls Try.prog 39 #[.slice A0 l0.length c0, .int .i64 a1] w fun e w' => e = .returned (.bool r) ∧ Drawn0 w w' := by
 have HR0 := mk_ hr0
 have HC0 := mk_ hc0
 clear hr0 hc0
 have H : ((slices_Index_int_int.f k l0 a1).bind fun t102 => (some (decide (t102 ≥ 0)))) = some r := h
 clear h
 replace H := Option.bind_eq_some_iff.mp H
 obtain ⟨t102, A30, H⟩ := H
 replace H : (some (decide (t102 ≥ 0))) = some r := H
 have A3 := mk_ A30
 clear A30
 obtain rfl := Option.some.inj H
 go_enter Try.func39, Try.ntmps39
 go_wp2_with (first | ((with_reducible refine gate_callee (f := 48) rfl ?_); refine gl_ (some 7) Try.func48 #[.slice A0 l0.length c0, .int .i64 a1] ?_; (with_reducible refine (slices_Index_int_int.calls k _ _ l0 a1 t102 _ ?side1 ?side2 A3.out).mono ?_); (case side1 => exact cc_ (HR0.out)); (case side2 => exact HC0.out); rintro e w' ⟨rfl, ⟨nd, rfl⟩⟩; refine ⟨_, rfl, ?_⟩))
 go_ret
 exact ⟨by first | rfl | (simp; done) | (simp [*]; done), by repeat (first | exact Drawn0.refl _ | apply Drawn0.step)⟩
end Go.Proofs.Ytocbiggglnpeoaa.M
end
section
namespace Go.Proofs.Ytocbiggglnpeoaa.M
open Go.RowKit Go.Proofs.YtocbiggglnpeoaaW.PrintWords Go.Proofs.YtocbiggglnpeoaaW.PrintLast Go.Proofs.YtocbiggglnpeoaaW.PrintMore
attribute [local go_sem] max2_int min2_int max_two min_two max_three min_three max_four min_four
set_option linter.unusedVariables false
set_option linter.unusedSimpArgs false
theorem slices_Clone_ints.nil_eq (A : Option Addr) (n c : Nat) (W : World) : (binOp .eql 29 (.slice A n c) (.slice none 0 0)).run Try.prog W = .ok (.bool A.isNone) W := by
 have h : ∀ d : Nat, (Op.equalIn (d + 1) 29 (.slice A n c) (.slice none 0 0)).run Try.prog W = .ok A.isNone W := fun d => by
  cases A <;> simp [Op.equalIn, run_underlying Try.underlying29]
 simp only [binOp]
 simp [Op.equal, Op.maxDepth, h 9999]
def slices_Clone_ints.f (l0 : List Int) : Option (List Int) := if l0.length ≤ 4398046511104 then some l0 else none
set_option maxHeartbeats 8000000 in
set_option maxRecDepth 100000 in
theorem slices_Clone_ints.calls (A0 : Option Addr) (c0 : Nat) (l0 : List Int) (r : List Int) (w : World) (hr0 : Kd.C (Kd.int .i64) w A0 l0.length l0) (hc0 : l0.length ≤ c0) (h : slices_Clone_ints.f l0 = some r) :
  Calls Try.prog 40 #[.slice A0 l0.length c0] w fun e w' => ∃ v0_ : Value, e = .returned v0_ ∧ Kd.R (Kd.int .i64) 3 w' w.heap.size (fun k_ => w.heap.size ≤ k_) v0_ r ∧ Below w.heap.size w w' := by
 unfold slices_Clone_ints.f at h
 by_cases hg : l0.length ≤ 4398046511104
 case neg => rw [if_neg hg] at h; cases h
 rw [if_pos hg] at h
 have e := Option.some.inj h
 subst e
 clear h
 have HG := mk_ hg
 have HR0 := mk_ hr0
 have HC0 := mk_ hc0
 clear hg hr0 hc0
 have HB := mk_ (Below.refl w.heap.size w)
 cases A0 with
 | none =>
  have e0 : l0 = [] := by
   have h2 := HR0.out.2.2
   cases l0 with
   | nil => rfl
   | cons a t => obtain ⟨ad, hh, _⟩ := h2 (by simp); cases hh
  subst e0
  have hnil : ∀ W, (binOp .eql 29 (.slice none 0 c0) (.slice none 0 0)).run Try.prog W = .ok (.bool true) W := fun W => slices_Clone_ints.nil_eq none _ _ W
  go_enter Try.func40, Try.ntmps40
  go_wp2
  go_ret
  exact ⟨_, rfl, Kd.R_nil _ _ _ _ _, HB.out⟩
 | some ad =>
  have hnil : ∀ W, (binOp .eql 29 (.slice (some ad) l0.length c0) (.slice none 0 0)).run Try.prog W = .ok (.bool false) W := fun W => slices_Clone_ints.nil_eq (some ad) _ _ W
  go_enter Try.func40, Try.ntmps40
  go_wp2_with (first | ((with_reducible refine gate_dst (N := 5) rfl ?_); (try (refine gate_guard (by rfl) ?_; dsimp only)); refine Kd.R_lit (Kd.int .i64) _ 3 ?hg (N := 5) ?hd (xs := ([] : List Int)) (inner := []) (ok := fun k_ => w.heap.size ≤ k_) (okp := fun k_ => w.heap.size ≤ k_) ?hr ?hp (fun _ hk => hk) (below_size HB.out) (Below.refl _ _) (Nat.le_refl _) (by simp) ?_; (case hd => rfl); (case hg => rfl); (case hr => first | (go_simp; done) | (go_simp; rfl)); (case hp => exact (Reps.none _ _)); intro v5 w1 ho hb hg_ hnew_; clear hg_ hnew_; have HO5 := mk_ (Kd.R_lower ho (below_size HB.out)); have n1_ := mk_ (below_step HB.out hb); clear HB; have HB := n1_; clear n1_ hb ho) | ((with_reducible refine gate_builtin (b := .append) (xs := #[.tmp 5, .tmp 6]) rfl ?_); at_builtin; refine Kd.R_append_rows (Kd.int .i64) (w0 := w) w.heap.size rfl (.tmp 5) (.tmp 6) 29 3 (.int .i64 0) 8 rfl Try.underlying29 info3 rfl (by decide) (by omega) v5 ([] : List Int) l0 _ _ _ (fun k_ => w.heap.size ≤ k_) (fun _ => False) rfl rfl HO5.out (Kd.C_below HR0.out HB.out) (fun _ _ h => h) (fun _ h => h.elim) (fun k_ hk_ => Nat.le_trans (below_size HB.out) hk_) HB.out (below_size HB.out) (by have := HG.out; simp only [List.length_nil]; omega) ?_; intro v7 w4 ho hb hg hat; have HO7 := mk_ ho; have n0_ := mk_ hb; clear HB; have HB := n0_; clear n0_ ho hb hg hat))
  go_ret
  exact ⟨_, rfl, HO7.out, HB.out⟩
end Go.Proofs.Ytocbiggglnpeoaa.M
end
