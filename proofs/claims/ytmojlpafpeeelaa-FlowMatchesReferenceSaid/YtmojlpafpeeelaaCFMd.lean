/- Part 4 of the proof of FlowMatchesReference: words and walks that the last part joins. -/
import Derived.ArgAppend
import Derived.Below
import Derived.BigQuiet
import Derived.ChangeOld
import Derived.ChangeSlices
import Derived.Deep.AppendLies
import Derived.Deep.CutBlock
import Derived.Deep.DeepCutAuto
import Derived.Deep.Draws
import Derived.Deep.LoopGhost
import Derived.Deep.OwnRows
import Derived.Deep.QuietTactic
import Derived.Deep.RegionHeld3
import Derived.Deep.Slices
import Derived.KernelRfl
import Derived.Laws.BitsLemmas
import Derived.Laws.BytesArg
import Derived.Laws.IdiomCopy
import Derived.Laws.MakeOwn
import Derived.Laws.OwnMore
import Derived.Laws.Rows
import Derived.Laws.Slices
import Derived.Laws.StructEq
import Derived.Lib.AppendStr
import Derived.Lib.ConvBytes
import Derived.LoopIn
import Derived.LoopNIn
import Derived.Maps.AppendAt
import Derived.Maps.Own
import Derived.OpenShut
import Derived.OrdersHeld
import Derived.OwnWalk
import Derived.OwnWalkIn
import Derived.ProofKit
import Derived.RangeFuncBound
import Derived.RangeFuncCalls
import Derived.RangeFuncLeaves
import Derived.RangeFuncNested
import Derived.RowKit
import Derived.RowKit3
import Derived.ShutString
import Derived.SizedLaws
import Derived.Tactics
import Derived.TacticsInMore
import Derived.Test.YtmojlpafpeeelaaProg
import Derived.WalkKit
import Derived.WideLaws
import Derived.Test.YtmojlpafpeeelaaCFMc
set_option linter.unusedVariables false
set_option linter.unusedSimpArgs false
section
namespace Go.Proofs.Ytmojlpafpeeelaa.P
open Go.RowKit Go.Proofs.YtmojlpafpeeelaaW.PrintWords Go.Proofs.YtmojlpafpeeelaaW.PrintLast Go.Proofs.YtmojlpafpeeelaaW.PrintMore
attribute [local go_sem] max2_int min2_int max_two min_two max_three min_three max_four min_four
set_option linter.unusedVariables false
set_option linter.unusedSimpArgs false
open Go.Proofs.YtmojlpafpeeelaaH
theorem volume_f (n : Int) : cohousingref28_Volume.f n = some (decide (0 ≤ n ∧ n ≤ 1000000000)) := by
 unfold cohousingref28_Volume.f
 (repeat' split) <;> simp_all <;> omega
theorem volume_calls {n : Int} {b : Bool} (h : decide (0 ≤ n ∧ n ≤ 1000000000) = b) (w : World) : Calls Try.prog 31 #[.int .i64 n] w fun e w' => e = .returned (.bool b) ∧ Drawn0 w w' := cohousingref28_Volume.calls n b w (by rw [volume_f, h])
def cohousingref28_Belongs.f (l0 : List S44) (l1 : List S39) : Option Bool := if l0.length ≤ 140737488355328 ∧ l1.length ≤ 140737488355328 then some (belongsB l0.length l1) else none
set_option maxHeartbeats 8000000 in
set_option maxRecDepth 100000 in
theorem cohousingref28_Belongs.calls (A0 : Option Addr) (c0 : Nat) (l0 : List (S44)) (A1 : Option Addr) (c1 : Nat) (l1 : List (S39)) (r : Bool) (w : World) (hr0 : Kd.C k44 w A0 l0.length l0) (hc0 : l0.length ≤ c0) (hr1 : Kd.C k39 w A1 l1.length l1) (hc1 : l1.length ≤ c1) (h : cohousingref28_Belongs.f l0 l1 = some r) :
  Calls Try.prog 29 #[.slice A0 l0.length c0, .slice A1 l1.length c1] w fun e w' => e = .returned (.bool r) ∧ Below w.heap.size w w' := by
 unfold cohousingref28_Belongs.f at h
 by_cases hsz : l0.length ≤ 140737488355328 ∧ l1.length ≤ 140737488355328
 case neg =>
  rw [if_neg hsz] at h
  cases h
 rw [if_pos hsz] at h
 injection h with h
 subst h
 have HR1 := Aside0.mk hr1
 have HSZ := Aside0.mk hsz
 clear hr0 hr1 hc0 hc1 hsz
 have HB := Aside0.mk (Below.refl w.heap.size w)
 by_cases hl : l1.length = l0.length
 case neg =>
  have d2 : ((l1.length : Int) == (l0.length : Int)) = false := beq_eq_false_iff_ne.2 (by omega)
  have d2' : ((l1.length : Int) != (l0.length : Int)) = true := bne_iff_ne.2 (by omega)
  have HF := Aside0.mk (show belongsB l0.length l1 = false by unfold belongsB; rw [decide_eq_false hl]; rfl)
  clear hl
  go_enter Try.func29, Try.ntmps29
  go_wp2
  go_ret
  exact ⟨by rw [HF.out]; rfl, HB.out⟩
 have d2 : ((l1.length : Int) == (l0.length : Int)) = true := beq_iff_eq.2 (by omega)
 have d2' : ((l1.length : Int) != (l0.length : Int)) = false := by rw [bne, d2]; rfl
 have HL := Aside0.mk hl
 clear hl
 go_enter Try.func29, Try.ntmps29
 go_wp2
 go_loopg [5] l1.length (fun kq v5 wr => ∃ (n : Nat), v5 = .int .i64 n ∧ Aside0 (kq + n = l1.length) ∧ Aside0 (∀ j : Nat, j < n → oddR (rd_T39 l1 j) = false) ∧ Aside0 (Below w.heap.size w wr))
 case atStart => exact ⟨0, rfl, ⟨by omega⟩, ⟨fun j hj => absurd hj (Nat.not_lt_zero _)⟩, HB⟩
 case round =>
  clear HB
  obtain ⟨n, rfl, HM, HOK, HB⟩ := hrel
  by_cases hlt : n < l1.length
  case neg =>
   have q2' : decide ((n : Int) < (l1.length : Int)) = false := decide_eq_false (by omega)
   have q2'' : decide (n < l1.length) = false := decide_eq_false hlt
   have HF := Aside0.mk (show belongsB l0.length l1 = true by
    unfold belongsB
    rw [decide_eq_true HL.out, Bool.true_and, show l1.any oddR = false from ?_]
    ·rfl
    ·rw [List.any_eq_false]
     intro x hx
     obtain ⟨j, hj, rfl⟩ := List.mem_iff_getElem.1 hx
     have := HOK.out j (by have := HM.out; omega)
     simp only [rd_T39, Int.toNat_natCast, List.getD_eq_getElem?_getD, List.getElem?_eq_getElem hj, Option.getD_some] at this
     rw [this]
     decide)
   clear hlt
   go_wp2
   go_ret
   exact ⟨by rw [HF.out]; rfl, HB.out⟩
  obtain ⟨i, hi⟩ : ∃ i : Int, i = (n : Int) := ⟨_, rfl⟩
  rw [← hi]
  have HI2 := Aside0.mk (show 0 ≤ i ∧ i < l1.length ∧ i = (n : Int) from ⟨by omega, by omega, hi⟩)
  have q2' : decide (i < (l1.length : Int)) = true := decide_eq_true HI2.out.2.1
  have ci2 : (0 ≤ i) = True := eq_true HI2.out.1
  have ci3 : (i < l1.length) = True := eq_true HI2.out.2.1
  obtain ⟨ad, ea, hx0, hx1⟩ := at_T39 (Kd.C_below HR1.out HB.out.drew) i HI2.out.1 HI2.out.2.1
  subst ea
  have HBAD : oddR (rd_T39 l1 i) = true → belongsB l0.length l1 = false := fun hb => by
   unfold belongsB
   have : l1.any oddR = true := by
    rw [List.any_eq_true]
    refine ⟨l1[n], List.getElem_mem hlt, ?_⟩
    have e : i.toNat = n := by have := HI2.out; omega
    simp only [rd_T39, e, List.getD_eq_getElem?_getD, List.getElem?_eq_getElem hlt, Option.getD_some] at hb
    exact hb
   rw [this, Bool.not_true, Bool.and_false]
  have HBD := Aside0.mk HBAD
  obtain ⟨x0, hx0e⟩ : ∃ x0, x0 = (rd_T39 l1 i).f0 := ⟨_, rfl⟩
  obtain ⟨x1, hx1e⟩ : ∃ x1, x1 = (rd_T39 l1 i).f1 := ⟨_, rfl⟩
  rw [← hx0e] at hx0
  rw [← hx1e] at hx1
  have hodd : oddR (rd_T39 l1 i) = decide (¬ (0 ≤ x0 ∧ x0 ≤ 1000000000 ∧ 0 ≤ x1 ∧ x1 ≤ 1000000000 ∧ x0 ≤ x1)) := by unfold oddR; rw [hx0e, hx1e]
  have HODD := Aside0.mk hodd
  have HNI := Aside0.mk (show rd_T39 l1 i = rd_T39 l1 (n : Nat) by rw [hi])
  clear hlt hi hx0e hx1e HBAD hodd
  by_cases v0 : 0 ≤ x0 ∧ x0 ≤ 1000000000
  case neg =>
   have HV0 := Aside0.mk (decide_eq_false v0)
   have HF := Aside0.mk (show belongsB l0.length l1 = false from HBD.out (by rw [HODD.out]; exact decide_eq_true (fun h => v0 ⟨h.1, h.2.1⟩)))
   clear v0
   go_wp2
   refine start_ (n := 29) (S := fun w' => w'.cell? (ad.add (i.toNat * 2)) = some (.int .i64 x0) ∧ w'.cell? ⟨(ad.add (i.toNat * 2)).block, (ad.add (i.toNat * 2)).off + 1, none⟩ = some (.int .i64 x1)) (ds := []) #[n_, n_, n_, n_, n_, n_, n_, n_, n_, n_, n_, n_, n_, n_, n_, n_, n_, n_, n_, n_, n_, n_, n_, n_, n_, n_, n_, n_, n_] (by kernel_rfl) rfl rfl ⟨hx0, hx1⟩ (fun hHeld => ?_)
   refine pure_ (i := 0) (N := some 17) (v := ?_) (a' := ?_) #[y_, n_, n_, n_, n_, n_, n_, n_, n_, n_, n_, n_, n_, n_, n_, n_, n_, n_, n_, n_, n_, n_, n_, n_, n_, n_, n_, n_, n_] rfl rfl (by kernel_rfl) (fun _ _ _ h => h) (Or.inl ⟨by rfl, ?_⟩) ?_ ?_
   rotate_left
   ·intro w'
    go_simp
    with_reducible rfl
   rotate_left
   ·simp only [Act.put, sI_, s0_, sS_, i64_w, i32_w]
    rfl
   refine pure_ (i := 1) (N := some 18) (v := ?_) (a' := ?_) #[y_, y_, n_, n_, n_, n_, n_, n_, n_, n_, n_, n_, n_, n_, n_, n_, n_, n_, n_, n_, n_, n_, n_, n_, n_, n_, n_, n_, n_] rfl rfl (by kernel_rfl) (fun _ _ _ h => h) (Or.inl ⟨by rfl, ?_⟩) ?_ ?_
   rotate_left
   ·intro w'
    go_simp
    with_reducible rfl
   rotate_left
   ·simp only [Act.put, sI_, s0_, sS_, i64_w, i32_w]
    rfl
   refine pure_ (i := 2) (N := some 19) (v := ?_) (a' := ?_) #[y_, y_, y_, n_, n_, n_, n_, n_, n_, n_, n_, n_, n_, n_, n_, n_, n_, n_, n_, n_, n_, n_, n_, n_, n_, n_, n_, n_, n_] rfl rfl (by kernel_rfl) (fun _ _ _ h => h) (Or.inl ⟨by rfl, ?_⟩) ?_ ?_
   rotate_left
   ·intro w'
    go_simp
    with_reducible rfl
   rotate_left
   ·simp only [Act.put, sI_, s0_, sS_, i64_w, i32_w]
    rfl
   refine pure_ (i := 3) (N := some 20) (v := ?_) (a' := ?_) #[y_, y_, y_, y_, n_, n_, n_, n_, n_, n_, n_, n_, n_, n_, n_, n_, n_, n_, n_, n_, n_, n_, n_, n_, n_, n_, n_, n_, n_] rfl rfl (by kernel_rfl) (fun _ _ _ h => h) (Or.inl ⟨by rfl, ?_⟩) ?_ ?_
   rotate_left
   ·intro w'
    go_simp
    with_reducible rfl
   rotate_left
   ·simp only [Act.put, sI_, s0_, sS_, i64_w, i32_w]
    rfl
   refine take_ (i := 4) (N := some 21) (v := ?_) (a' := ?_) #[y_, y_, y_, y_, y_, n_, n_, n_, n_, n_, n_, n_, n_, n_, n_, n_, n_, n_, n_, n_, n_, n_, n_, n_, n_, n_, n_, n_, n_] rfl rfl (by kernel_rfl) (fun _ _ _ h => h) (Or.inl ⟨by rfl, ?_⟩) hHeld ?_ ?_
   rotate_left
   ·rintro w' ⟨s0, s1⟩
    go_simp
    with_reducible rfl
   rotate_left
   ·simp only [Act.put, sI_, s0_, sS_, i64_w, i32_w]
    rfl
   refine one_ (i := 5) (N := some 22) #[y_, y_, y_, y_, y_, y_, n_, n_, n_, n_, n_, n_, n_, n_, n_, n_, n_, n_, n_, n_, n_, n_, n_, n_, n_, n_, n_, n_, n_] rfl rfl (by kernel_rfl) (by decide) (fun K hK => ?_)
   refine goes_ Try.func31 (by kernel_rfl) rfl #[.int .i64 x0] (by rfl) rfl rfl (by simp only [List.map_toArray, List.map_cons, List.map_nil]; rfl) ?_
   with_reducible refine (volume_calls HV0.out _).mono ?_
   rintro e w3 ⟨rfl, hdr⟩
   refine ⟨_, rfl, ?_⟩
   have hb := hdr.below
   have HBF := Aside0.mk (below_step (below_drew (Below.refl _ _)) hb)
   refine hK.out _ _ ⟨(hb.cell (World.block_lt_of_cell? _ _ hHeld.1)).trans hHeld.1, (hb.cell (World.block_lt_of_cell? _ _ hHeld.2)).trans hHeld.2⟩ (fun hHeld => ?_)
   clear hK K
   refine norm_ (a' := ?_) ?_ ?_
   rotate_left
   ·show Act.put _ (some 22) _ = _
    simp only [Act.put, sI_, s0_, sS_, i64_w, i32_w]
    rfl
   refine pure_ (i := 6) (N := some 23) (v := ?_) (a' := ?_) #[y_, y_, y_, y_, y_, y_, y_, n_, n_, n_, n_, n_, n_, n_, n_, n_, n_, n_, n_, n_, n_, n_, n_, n_, n_, n_, n_, n_, n_] rfl rfl (by kernel_rfl) (fun _ _ _ h => h) (Or.inl ⟨by rfl, ?_⟩) ?_ ?_
   rotate_left
   ·intro w'
    go_simp
    with_reducible rfl
   rotate_left
   ·simp only [Act.put, sI_, s0_, sS_, i64_w, i32_w]
    rfl
   refine pure_ (i := 7) (N := some 24) (v := ?_) (a' := ?_) #[y_, y_, y_, y_, y_, y_, y_, y_, n_, n_, n_, n_, n_, n_, n_, n_, n_, n_, n_, n_, n_, n_, n_, n_, n_, n_, n_, n_, n_] rfl rfl (by kernel_rfl) (fun _ _ _ h => h) (Or.inl ⟨by rfl, ?_⟩) ?_ ?_
   rotate_left
   ·intro w'
    go_simp
    with_reducible rfl
   rotate_left
   ·simp only [Act.put, sI_, s0_, sS_, i64_w, i32_w]
    rfl
   refine pure_ (i := 8) (N := some 25) (v := undef) (a' := ?_) #[y_, y_, y_, y_, y_, y_, y_, y_, y_, n_, n_, n_, n_, n_, n_, n_, n_, n_, n_, n_, n_, n_, n_, n_, n_, n_, n_, n_, n_] rfl rfl (by kernel_rfl) (fun _ _ _ h => h) (Or.inr ⟨by rfl, rfl⟩) ?_ ?_
   rotate_left
   ·simp only [Act.put, sI_, s0_, sS_, i64_w, i32_w]
    rfl
   refine pure_ (i := 9) (N := some 26) (v := undef) (a' := ?_) #[y_, y_, y_, y_, y_, y_, y_, y_, y_, y_, n_, n_, n_, n_, n_, n_, n_, n_, n_, n_, n_, n_, n_, n_, n_, n_, n_, n_, n_] rfl rfl (by kernel_rfl) (fun _ _ _ h => h) (Or.inr ⟨by rfl, rfl⟩) ?_ ?_
   rotate_left
   ·simp only [Act.put, sI_, s0_, sS_, i64_w, i32_w]
    rfl
   refine pure_ (i := 10) (N := some 27) (v := undef) (a' := ?_) #[y_, y_, y_, y_, y_, y_, y_, y_, y_, y_, y_, n_, n_, n_, n_, n_, n_, n_, n_, n_, n_, n_, n_, n_, n_, n_, n_, n_, n_] rfl rfl (by kernel_rfl) (fun _ _ _ h => h) (Or.inr ⟨by rfl, rfl⟩) ?_ ?_
   rotate_left
   ·simp only [Act.put, sI_, s0_, sS_, i64_w, i32_w]
    rfl
   refine pure_ (i := 11) (N := some 28) (v := undef) (a' := ?_) #[y_, y_, y_, y_, y_, y_, y_, y_, y_, y_, y_, y_, n_, n_, n_, n_, n_, n_, n_, n_, n_, n_, n_, n_, n_, n_, n_, n_, n_] rfl rfl (by kernel_rfl) (fun _ _ _ h => h) (Or.inr ⟨by rfl, rfl⟩) ?_ ?_
   rotate_left
   ·simp only [Act.put, sI_, s0_, sS_, i64_w, i32_w]
    rfl
   refine pure_ (i := 12) (N := some 29) (v := undef) (a' := ?_) #[y_, y_, y_, y_, y_, y_, y_, y_, y_, y_, y_, y_, y_, n_, n_, n_, n_, n_, n_, n_, n_, n_, n_, n_, n_, n_, n_, n_, n_] rfl rfl (by kernel_rfl) (fun _ _ _ h => h) (Or.inr ⟨by rfl, rfl⟩) ?_ ?_
   rotate_left
   ·simp only [Act.put, sI_, s0_, sS_, i64_w, i32_w]
    rfl
   refine pure_ (i := 13) (N := some 30) (v := undef) (a' := ?_) #[y_, y_, y_, y_, y_, y_, y_, y_, y_, y_, y_, y_, y_, y_, n_, n_, n_, n_, n_, n_, n_, n_, n_, n_, n_, n_, n_, n_, n_] rfl rfl (by kernel_rfl) (fun _ _ _ h => h) (Or.inr ⟨by rfl, rfl⟩) ?_ ?_
   rotate_left
   ·simp only [Act.put, sI_, s0_, sS_, i64_w, i32_w]
    rfl
   refine pure_ (i := 14) (N := some 31) (v := undef) (a' := ?_) #[y_, y_, y_, y_, y_, y_, y_, y_, y_, y_, y_, y_, y_, y_, y_, n_, n_, n_, n_, n_, n_, n_, n_, n_, n_, n_, n_, n_, n_] rfl rfl (by kernel_rfl) (fun _ _ _ h => h) (Or.inr ⟨by rfl, rfl⟩) ?_ ?_
   rotate_left
   ·simp only [Act.put, sI_, s0_, sS_, i64_w, i32_w]
    rfl
   refine pure_ (i := 15) (N := some 32) (v := ?_) (a' := ?_) #[y_, y_, y_, y_, y_, y_, y_, y_, y_, y_, y_, y_, y_, y_, y_, y_, n_, n_, n_, n_, n_, n_, n_, n_, n_, n_, n_, n_, n_] rfl rfl (by kernel_rfl) (fun _ _ _ h => h) (Or.inl ⟨by rfl, ?_⟩) ?_ ?_
   rotate_left
   ·intro w'
    go_simp
    with_reducible rfl
   rotate_left
   ·simp only [Act.put, sI_, s0_, sS_, i64_w, i32_w]
    rfl
   refine pure_ (i := 16) (N := some 33) (v := ?_) (a' := ?_) #[y_, y_, y_, y_, y_, y_, y_, y_, y_, y_, y_, y_, y_, y_, y_, y_, y_, n_, n_, n_, n_, n_, n_, n_, n_, n_, n_, n_, n_] rfl rfl (by kernel_rfl) (fun _ _ _ h => h) (Or.inl ⟨by rfl, ?_⟩) ?_ ?_
   rotate_left
   ·intro w'
    go_simp
    with_reducible rfl
   rotate_left
   ·simp only [Act.put, sI_, s0_, sS_, i64_w, i32_w]
    rfl
   refine pure_ (i := 17) (N := some 34) (v := undef) (a' := ?_) #[y_, y_, y_, y_, y_, y_, y_, y_, y_, y_, y_, y_, y_, y_, y_, y_, y_, y_, n_, n_, n_, n_, n_, n_, n_, n_, n_, n_, n_] rfl rfl (by kernel_rfl) (fun _ _ _ h => h) (Or.inr ⟨by rfl, rfl⟩) ?_ ?_
   rotate_left
   ·simp only [Act.put, sI_, s0_, sS_, i64_w, i32_w]
    rfl
   refine pure_ (i := 18) (N := some 35) (v := undef) (a' := ?_) #[y_, y_, y_, y_, y_, y_, y_, y_, y_, y_, y_, y_, y_, y_, y_, y_, y_, y_, y_, n_, n_, n_, n_, n_, n_, n_, n_, n_, n_] rfl rfl (by kernel_rfl) (fun _ _ _ h => h) (Or.inr ⟨by rfl, rfl⟩) ?_ ?_
   rotate_left
   ·simp only [Act.put, sI_, s0_, sS_, i64_w, i32_w]
    rfl
   refine pure_ (i := 19) (N := some 36) (v := undef) (a' := ?_) #[y_, y_, y_, y_, y_, y_, y_, y_, y_, y_, y_, y_, y_, y_, y_, y_, y_, y_, y_, y_, n_, n_, n_, n_, n_, n_, n_, n_, n_] rfl rfl (by kernel_rfl) (fun _ _ _ h => h) (Or.inr ⟨by rfl, rfl⟩) ?_ ?_
   rotate_left
   ·simp only [Act.put, sI_, s0_, sS_, i64_w, i32_w]
    rfl
   refine pure_ (i := 20) (N := some 37) (v := undef) (a' := ?_) #[y_, y_, y_, y_, y_, y_, y_, y_, y_, y_, y_, y_, y_, y_, y_, y_, y_, y_, y_, y_, y_, n_, n_, n_, n_, n_, n_, n_, n_] rfl rfl (by kernel_rfl) (fun _ _ _ h => h) (Or.inr ⟨by rfl, rfl⟩) ?_ ?_
   rotate_left
   ·simp only [Act.put, sI_, s0_, sS_, i64_w, i32_w]
    rfl
   refine pure_ (i := 21) (N := some 38) (v := undef) (a' := ?_) #[y_, y_, y_, y_, y_, y_, y_, y_, y_, y_, y_, y_, y_, y_, y_, y_, y_, y_, y_, y_, y_, y_, n_, n_, n_, n_, n_, n_, n_] rfl rfl (by kernel_rfl) (fun _ _ _ h => h) (Or.inr ⟨by rfl, rfl⟩) ?_ ?_
   rotate_left
   ·simp only [Act.put, sI_, s0_, sS_, i64_w, i32_w]
    rfl
   refine pure_ (i := 22) (N := some 39) (v := undef) (a' := ?_) #[y_, y_, y_, y_, y_, y_, y_, y_, y_, y_, y_, y_, y_, y_, y_, y_, y_, y_, y_, y_, y_, y_, y_, n_, n_, n_, n_, n_, n_] rfl rfl (by kernel_rfl) (fun _ _ _ h => h) (Or.inr ⟨by rfl, rfl⟩) ?_ ?_
   rotate_left
   ·simp only [Act.put, sI_, s0_, sS_, i64_w, i32_w]
    rfl
   refine pure_ (i := 23) (N := some 40) (v := undef) (a' := ?_) #[y_, y_, y_, y_, y_, y_, y_, y_, y_, y_, y_, y_, y_, y_, y_, y_, y_, y_, y_, y_, y_, y_, y_, y_, n_, n_, n_, n_, n_] rfl rfl (by kernel_rfl) (fun _ _ _ h => h) (Or.inr ⟨by rfl, rfl⟩) ?_ ?_
   rotate_left
   ·simp only [Act.put, sI_, s0_, sS_, i64_w, i32_w]
    rfl
   refine pure_ (i := 24) (N := some 41) (v := undef) (a' := ?_) #[y_, y_, y_, y_, y_, y_, y_, y_, y_, y_, y_, y_, y_, y_, y_, y_, y_, y_, y_, y_, y_, y_, y_, y_, y_, n_, n_, n_, n_] rfl rfl (by kernel_rfl) (fun _ _ _ h => h) (Or.inr ⟨by rfl, rfl⟩) ?_ ?_
   rotate_left
   ·simp only [Act.put, sI_, s0_, sS_, i64_w, i32_w]
    rfl
   refine pure_ (i := 25) (N := some 42) (v := undef) (a' := ?_) #[y_, y_, y_, y_, y_, y_, y_, y_, y_, y_, y_, y_, y_, y_, y_, y_, y_, y_, y_, y_, y_, y_, y_, y_, y_, y_, n_, n_, n_] rfl rfl (by kernel_rfl) (fun _ _ _ h => h) (Or.inr ⟨by rfl, rfl⟩) ?_ ?_
   rotate_left
   ·simp only [Act.put, sI_, s0_, sS_, i64_w, i32_w]
    rfl
   refine pure_ (i := 26) (N := some 43) (v := undef) (a' := ?_) #[y_, y_, y_, y_, y_, y_, y_, y_, y_, y_, y_, y_, y_, y_, y_, y_, y_, y_, y_, y_, y_, y_, y_, y_, y_, y_, y_, n_, n_] rfl rfl (by kernel_rfl) (fun _ _ _ h => h) (Or.inr ⟨by rfl, rfl⟩) ?_ ?_
   rotate_left
   ·simp only [Act.put, sI_, s0_, sS_, i64_w, i32_w]
    rfl
   refine pure_ (i := 27) (N := some 44) (v := undef) (a' := ?_) #[y_, y_, y_, y_, y_, y_, y_, y_, y_, y_, y_, y_, y_, y_, y_, y_, y_, y_, y_, y_, y_, y_, y_, y_, y_, y_, y_, y_, n_] rfl rfl (by kernel_rfl) (fun _ _ _ h => h) (Or.inr ⟨by rfl, rfl⟩) ?_ ?_
   rotate_left
   ·simp only [Act.put, sI_, s0_, sS_, i64_w, i32_w]
    rfl
   refine pure_ (i := 28) (N := some 45) (v := ?_) (a' := ?_) #[y_, y_, y_, y_, y_, y_, y_, y_, y_, y_, y_, y_, y_, y_, y_, y_, y_, y_, y_, y_, y_, y_, y_, y_, y_, y_, y_, y_, y_] rfl rfl (by kernel_rfl) (fun _ _ _ h => h) (Or.inl ⟨by rfl, ?_⟩) ?_ ?_
   rotate_left
   ·intro w'
    go_simp
    with_reducible rfl
   rotate_left
   ·simp only [Act.put, sI_, s0_, sS_, i64_w, i32_w]
    rfl
   refine done_ (by kernel_rfl) ?_
   go_wp2
   go_ret
   exact ⟨by rw [HF.out]; rfl, HB.out.trans (HBF.out.mono HB.out.size)⟩
  have HV0 := Aside0.mk (decide_eq_true v0)
  by_cases v1 : 0 ≤ x1 ∧ x1 ≤ 1000000000
  case neg =>
   have HV1 := Aside0.mk (decide_eq_false v1)
   have HF := Aside0.mk (show belongsB l0.length l1 = false from HBD.out (by rw [HODD.out]; exact decide_eq_true (fun h => v1 ⟨h.2.2.1, h.2.2.2.1⟩)))
   clear v0 v1
   go_wp2
   refine start_ (n := 29) (S := fun w' => w'.cell? (ad.add (i.toNat * 2)) = some (.int .i64 x0) ∧ w'.cell? ⟨(ad.add (i.toNat * 2)).block, (ad.add (i.toNat * 2)).off + 1, none⟩ = some (.int .i64 x1)) (ds := []) #[n_, n_, n_, n_, n_, n_, n_, n_, n_, n_, n_, n_, n_, n_, n_, n_, n_, n_, n_, n_, n_, n_, n_, n_, n_, n_, n_, n_, n_] (by kernel_rfl) rfl rfl ⟨hx0, hx1⟩ (fun hHeld => ?_)
   refine pure_ (i := 0) (N := some 17) (v := ?_) (a' := ?_) #[y_, n_, n_, n_, n_, n_, n_, n_, n_, n_, n_, n_, n_, n_, n_, n_, n_, n_, n_, n_, n_, n_, n_, n_, n_, n_, n_, n_, n_] rfl rfl (by kernel_rfl) (fun _ _ _ h => h) (Or.inl ⟨by rfl, ?_⟩) ?_ ?_
   rotate_left
   ·intro w'
    go_simp
    with_reducible rfl
   rotate_left
   ·simp only [Act.put, sI_, s0_, sS_, i64_w, i32_w]
    rfl
   refine pure_ (i := 1) (N := some 18) (v := ?_) (a' := ?_) #[y_, y_, n_, n_, n_, n_, n_, n_, n_, n_, n_, n_, n_, n_, n_, n_, n_, n_, n_, n_, n_, n_, n_, n_, n_, n_, n_, n_, n_] rfl rfl (by kernel_rfl) (fun _ _ _ h => h) (Or.inl ⟨by rfl, ?_⟩) ?_ ?_
   rotate_left
   ·intro w'
    go_simp
    with_reducible rfl
   rotate_left
   ·simp only [Act.put, sI_, s0_, sS_, i64_w, i32_w]
    rfl
   refine pure_ (i := 2) (N := some 19) (v := ?_) (a' := ?_) #[y_, y_, y_, n_, n_, n_, n_, n_, n_, n_, n_, n_, n_, n_, n_, n_, n_, n_, n_, n_, n_, n_, n_, n_, n_, n_, n_, n_, n_] rfl rfl (by kernel_rfl) (fun _ _ _ h => h) (Or.inl ⟨by rfl, ?_⟩) ?_ ?_
   rotate_left
   ·intro w'
    go_simp
    with_reducible rfl
   rotate_left
   ·simp only [Act.put, sI_, s0_, sS_, i64_w, i32_w]
    rfl
   refine pure_ (i := 3) (N := some 20) (v := ?_) (a' := ?_) #[y_, y_, y_, y_, n_, n_, n_, n_, n_, n_, n_, n_, n_, n_, n_, n_, n_, n_, n_, n_, n_, n_, n_, n_, n_, n_, n_, n_, n_] rfl rfl (by kernel_rfl) (fun _ _ _ h => h) (Or.inl ⟨by rfl, ?_⟩) ?_ ?_
   rotate_left
   ·intro w'
    go_simp
    with_reducible rfl
   rotate_left
   ·simp only [Act.put, sI_, s0_, sS_, i64_w, i32_w]
    rfl
   refine take_ (i := 4) (N := some 21) (v := ?_) (a' := ?_) #[y_, y_, y_, y_, y_, n_, n_, n_, n_, n_, n_, n_, n_, n_, n_, n_, n_, n_, n_, n_, n_, n_, n_, n_, n_, n_, n_, n_, n_] rfl rfl (by kernel_rfl) (fun _ _ _ h => h) (Or.inl ⟨by rfl, ?_⟩) hHeld ?_ ?_
   rotate_left
   ·rintro w' ⟨s0, s1⟩
    go_simp
    with_reducible rfl
   rotate_left
   ·simp only [Act.put, sI_, s0_, sS_, i64_w, i32_w]
    rfl
   refine one_ (i := 5) (N := some 22) #[y_, y_, y_, y_, y_, y_, n_, n_, n_, n_, n_, n_, n_, n_, n_, n_, n_, n_, n_, n_, n_, n_, n_, n_, n_, n_, n_, n_, n_] rfl rfl (by kernel_rfl) (by decide) (fun K hK => ?_)
   refine goes_ Try.func31 (by kernel_rfl) rfl #[.int .i64 x0] (by rfl) rfl rfl (by simp only [List.map_toArray, List.map_cons, List.map_nil]; rfl) ?_
   with_reducible refine (volume_calls HV0.out _).mono ?_
   rintro e w3 ⟨rfl, hdr⟩
   refine ⟨_, rfl, ?_⟩
   have hb := hdr.below
   have HB1 := Aside0.mk (below_step (below_drew (Below.refl _ _)) hb)
   refine hK.out _ _ ⟨(hb.cell (World.block_lt_of_cell? _ _ hHeld.1)).trans hHeld.1, (hb.cell (World.block_lt_of_cell? _ _ hHeld.2)).trans hHeld.2⟩ (fun hHeld => ?_)
   clear hK K
   refine norm_ (a' := ?_) ?_ ?_
   rotate_left
   ·show Act.put _ (some 22) _ = _
    simp only [Act.put, sI_, s0_, sS_, i64_w, i32_w]
    rfl
   refine pure_ (i := 6) (N := some 23) (v := ?_) (a' := ?_) #[y_, y_, y_, y_, y_, y_, y_, n_, n_, n_, n_, n_, n_, n_, n_, n_, n_, n_, n_, n_, n_, n_, n_, n_, n_, n_, n_, n_, n_] rfl rfl (by kernel_rfl) (fun _ _ _ h => h) (Or.inl ⟨by rfl, ?_⟩) ?_ ?_
   rotate_left
   ·intro w'
    go_simp
    with_reducible rfl
   rotate_left
   ·simp only [Act.put, sI_, s0_, sS_, i64_w, i32_w]
    rfl
   refine pure_ (i := 7) (N := some 24) (v := ?_) (a' := ?_) #[y_, y_, y_, y_, y_, y_, y_, y_, n_, n_, n_, n_, n_, n_, n_, n_, n_, n_, n_, n_, n_, n_, n_, n_, n_, n_, n_, n_, n_] rfl rfl (by kernel_rfl) (fun _ _ _ h => h) (Or.inl ⟨by rfl, ?_⟩) ?_ ?_
   rotate_left
   ·intro w'
    go_simp
    with_reducible rfl
   rotate_left
   ·simp only [Act.put, sI_, s0_, sS_, i64_w, i32_w]
    rfl
   refine pure_ (i := 8) (N := some 25) (v := ?_) (a' := ?_) #[y_, y_, y_, y_, y_, y_, y_, y_, y_, n_, n_, n_, n_, n_, n_, n_, n_, n_, n_, n_, n_, n_, n_, n_, n_, n_, n_, n_, n_] rfl rfl (by kernel_rfl) (fun _ _ _ h => h) (Or.inl ⟨by rfl, ?_⟩) ?_ ?_
   rotate_left
   ·intro w'
    go_simp
    with_reducible rfl
   rotate_left
   ·simp only [Act.put, sI_, s0_, sS_, i64_w, i32_w]
    rfl
   refine pure_ (i := 9) (N := some 26) (v := ?_) (a' := ?_) #[y_, y_, y_, y_, y_, y_, y_, y_, y_, y_, n_, n_, n_, n_, n_, n_, n_, n_, n_, n_, n_, n_, n_, n_, n_, n_, n_, n_, n_] rfl rfl (by kernel_rfl) (fun _ _ _ h => h) (Or.inl ⟨by rfl, ?_⟩) ?_ ?_
   rotate_left
   ·intro w'
    go_simp
    with_reducible rfl
   rotate_left
   ·simp only [Act.put, sI_, s0_, sS_, i64_w, i32_w]
    rfl
   refine pure_ (i := 10) (N := some 27) (v := ?_) (a' := ?_) #[y_, y_, y_, y_, y_, y_, y_, y_, y_, y_, y_, n_, n_, n_, n_, n_, n_, n_, n_, n_, n_, n_, n_, n_, n_, n_, n_, n_, n_] rfl rfl (by kernel_rfl) (fun _ _ _ h => h) (Or.inl ⟨by rfl, ?_⟩) ?_ ?_
   rotate_left
   ·intro w'
    go_simp
    with_reducible rfl
   rotate_left
   ·simp only [Act.put, sI_, s0_, sS_, i64_w, i32_w]
    rfl
   refine pure_ (i := 11) (N := some 28) (v := ?_) (a' := ?_) #[y_, y_, y_, y_, y_, y_, y_, y_, y_, y_, y_, y_, n_, n_, n_, n_, n_, n_, n_, n_, n_, n_, n_, n_, n_, n_, n_, n_, n_] rfl rfl (by kernel_rfl) (fun _ _ _ h => h) (Or.inl ⟨by rfl, ?_⟩) ?_ ?_
   rotate_left
   ·intro w'
    go_simp
    with_reducible rfl
   rotate_left
   ·simp only [Act.put, sI_, s0_, sS_, i64_w, i32_w]
    rfl
   refine take_ (i := 12) (N := some 29) (v := ?_) (a' := ?_) #[y_, y_, y_, y_, y_, y_, y_, y_, y_, y_, y_, y_, y_, n_, n_, n_, n_, n_, n_, n_, n_, n_, n_, n_, n_, n_, n_, n_, n_] rfl rfl (by kernel_rfl) (fun _ _ _ h => h) (Or.inl ⟨by rfl, ?_⟩) hHeld ?_ ?_
   rotate_left
   ·rintro w' ⟨s0, s1⟩
    go_simp
    with_reducible rfl
   rotate_left
   ·simp only [Act.put, sI_, s0_, sS_, i64_w, i32_w]
    rfl
   refine one_ (i := 13) (N := some 30) #[y_, y_, y_, y_, y_, y_, y_, y_, y_, y_, y_, y_, y_, y_, n_, n_, n_, n_, n_, n_, n_, n_, n_, n_, n_, n_, n_, n_, n_] rfl rfl (by kernel_rfl) (by decide) (fun K hK => ?_)
   refine goes_ Try.func31 (by kernel_rfl) rfl #[.int .i64 x1] (by rfl) rfl rfl (by simp only [List.map_toArray, List.map_cons, List.map_nil]; rfl) ?_
   with_reducible refine (volume_calls HV1.out _).mono ?_
   rintro e w3 ⟨rfl, hdr⟩
   refine ⟨_, rfl, ?_⟩
   have hb := hdr.below
   have HBF := Aside0.mk (below_step HB1.out hb)
   refine hK.out _ _ ⟨(hb.cell (World.block_lt_of_cell? _ _ hHeld.1)).trans hHeld.1, (hb.cell (World.block_lt_of_cell? _ _ hHeld.2)).trans hHeld.2⟩ (fun hHeld => ?_)
   clear hK K
   refine norm_ (a' := ?_) ?_ ?_
   rotate_left
   ·show Act.put _ (some 30) _ = _
    simp only [Act.put, sI_, s0_, sS_, i64_w, i32_w]
    rfl
   refine pure_ (i := 14) (N := some 31) (v := ?_) (a' := ?_) #[y_, y_, y_, y_, y_, y_, y_, y_, y_, y_, y_, y_, y_, y_, y_, n_, n_, n_, n_, n_, n_, n_, n_, n_, n_, n_, n_, n_, n_] rfl rfl (by kernel_rfl) (fun _ _ _ h => h) (Or.inl ⟨by rfl, ?_⟩) ?_ ?_
   rotate_left
   ·intro w'
    go_simp
    with_reducible rfl
   rotate_left
   ·simp only [Act.put, sI_, s0_, sS_, i64_w, i32_w]
    rfl
   refine pure_ (i := 15) (N := some 32) (v := ?_) (a' := ?_) #[y_, y_, y_, y_, y_, y_, y_, y_, y_, y_, y_, y_, y_, y_, y_, y_, n_, n_, n_, n_, n_, n_, n_, n_, n_, n_, n_, n_, n_] rfl rfl (by kernel_rfl) (fun _ _ _ h => h) (Or.inl ⟨by rfl, ?_⟩) ?_ ?_
   rotate_left
   ·intro w'
    go_simp
    with_reducible rfl
   rotate_left
   ·simp only [Act.put, sI_, s0_, sS_, i64_w, i32_w]
    rfl
   refine pure_ (i := 16) (N := some 33) (v := ?_) (a' := ?_) #[y_, y_, y_, y_, y_, y_, y_, y_, y_, y_, y_, y_, y_, y_, y_, y_, y_, n_, n_, n_, n_, n_, n_, n_, n_, n_, n_, n_, n_] rfl rfl (by kernel_rfl) (fun _ _ _ h => h) (Or.inl ⟨by rfl, ?_⟩) ?_ ?_
   rotate_left
   ·intro w'
    go_simp
    with_reducible rfl
   rotate_left
   ·simp only [Act.put, sI_, s0_, sS_, i64_w, i32_w]
    rfl
   refine pure_ (i := 17) (N := some 34) (v := undef) (a' := ?_) #[y_, y_, y_, y_, y_, y_, y_, y_, y_, y_, y_, y_, y_, y_, y_, y_, y_, y_, n_, n_, n_, n_, n_, n_, n_, n_, n_, n_, n_] rfl rfl (by kernel_rfl) (fun _ _ _ h => h) (Or.inr ⟨by rfl, rfl⟩) ?_ ?_
   rotate_left
   ·simp only [Act.put, sI_, s0_, sS_, i64_w, i32_w]
    rfl
   refine pure_ (i := 18) (N := some 35) (v := undef) (a' := ?_) #[y_, y_, y_, y_, y_, y_, y_, y_, y_, y_, y_, y_, y_, y_, y_, y_, y_, y_, y_, n_, n_, n_, n_, n_, n_, n_, n_, n_, n_] rfl rfl (by kernel_rfl) (fun _ _ _ h => h) (Or.inr ⟨by rfl, rfl⟩) ?_ ?_
   rotate_left
   ·simp only [Act.put, sI_, s0_, sS_, i64_w, i32_w]
    rfl
   refine pure_ (i := 19) (N := some 36) (v := undef) (a' := ?_) #[y_, y_, y_, y_, y_, y_, y_, y_, y_, y_, y_, y_, y_, y_, y_, y_, y_, y_, y_, y_, n_, n_, n_, n_, n_, n_, n_, n_, n_] rfl rfl (by kernel_rfl) (fun _ _ _ h => h) (Or.inr ⟨by rfl, rfl⟩) ?_ ?_
   rotate_left
   ·simp only [Act.put, sI_, s0_, sS_, i64_w, i32_w]
    rfl
   refine pure_ (i := 20) (N := some 37) (v := undef) (a' := ?_) #[y_, y_, y_, y_, y_, y_, y_, y_, y_, y_, y_, y_, y_, y_, y_, y_, y_, y_, y_, y_, y_, n_, n_, n_, n_, n_, n_, n_, n_] rfl rfl (by kernel_rfl) (fun _ _ _ h => h) (Or.inr ⟨by rfl, rfl⟩) ?_ ?_
   rotate_left
   ·simp only [Act.put, sI_, s0_, sS_, i64_w, i32_w]
    rfl
   refine pure_ (i := 21) (N := some 38) (v := undef) (a' := ?_) #[y_, y_, y_, y_, y_, y_, y_, y_, y_, y_, y_, y_, y_, y_, y_, y_, y_, y_, y_, y_, y_, y_, n_, n_, n_, n_, n_, n_, n_] rfl rfl (by kernel_rfl) (fun _ _ _ h => h) (Or.inr ⟨by rfl, rfl⟩) ?_ ?_
   rotate_left
   ·simp only [Act.put, sI_, s0_, sS_, i64_w, i32_w]
    rfl
   refine pure_ (i := 22) (N := some 39) (v := undef) (a' := ?_) #[y_, y_, y_, y_, y_, y_, y_, y_, y_, y_, y_, y_, y_, y_, y_, y_, y_, y_, y_, y_, y_, y_, y_, n_, n_, n_, n_, n_, n_] rfl rfl (by kernel_rfl) (fun _ _ _ h => h) (Or.inr ⟨by rfl, rfl⟩) ?_ ?_
   rotate_left
   ·simp only [Act.put, sI_, s0_, sS_, i64_w, i32_w]
    rfl
   refine pure_ (i := 23) (N := some 40) (v := undef) (a' := ?_) #[y_, y_, y_, y_, y_, y_, y_, y_, y_, y_, y_, y_, y_, y_, y_, y_, y_, y_, y_, y_, y_, y_, y_, y_, n_, n_, n_, n_, n_] rfl rfl (by kernel_rfl) (fun _ _ _ h => h) (Or.inr ⟨by rfl, rfl⟩) ?_ ?_
   rotate_left
   ·simp only [Act.put, sI_, s0_, sS_, i64_w, i32_w]
    rfl
   refine pure_ (i := 24) (N := some 41) (v := undef) (a' := ?_) #[y_, y_, y_, y_, y_, y_, y_, y_, y_, y_, y_, y_, y_, y_, y_, y_, y_, y_, y_, y_, y_, y_, y_, y_, y_, n_, n_, n_, n_] rfl rfl (by kernel_rfl) (fun _ _ _ h => h) (Or.inr ⟨by rfl, rfl⟩) ?_ ?_
   rotate_left
   ·simp only [Act.put, sI_, s0_, sS_, i64_w, i32_w]
    rfl
   refine pure_ (i := 25) (N := some 42) (v := undef) (a' := ?_) #[y_, y_, y_, y_, y_, y_, y_, y_, y_, y_, y_, y_, y_, y_, y_, y_, y_, y_, y_, y_, y_, y_, y_, y_, y_, y_, n_, n_, n_] rfl rfl (by kernel_rfl) (fun _ _ _ h => h) (Or.inr ⟨by rfl, rfl⟩) ?_ ?_
   rotate_left
   ·simp only [Act.put, sI_, s0_, sS_, i64_w, i32_w]
    rfl
   refine pure_ (i := 26) (N := some 43) (v := undef) (a' := ?_) #[y_, y_, y_, y_, y_, y_, y_, y_, y_, y_, y_, y_, y_, y_, y_, y_, y_, y_, y_, y_, y_, y_, y_, y_, y_, y_, y_, n_, n_] rfl rfl (by kernel_rfl) (fun _ _ _ h => h) (Or.inr ⟨by rfl, rfl⟩) ?_ ?_
   rotate_left
   ·simp only [Act.put, sI_, s0_, sS_, i64_w, i32_w]
    rfl
   refine pure_ (i := 27) (N := some 44) (v := undef) (a' := ?_) #[y_, y_, y_, y_, y_, y_, y_, y_, y_, y_, y_, y_, y_, y_, y_, y_, y_, y_, y_, y_, y_, y_, y_, y_, y_, y_, y_, y_, n_] rfl rfl (by kernel_rfl) (fun _ _ _ h => h) (Or.inr ⟨by rfl, rfl⟩) ?_ ?_
   rotate_left
   ·simp only [Act.put, sI_, s0_, sS_, i64_w, i32_w]
    rfl
   refine pure_ (i := 28) (N := some 45) (v := ?_) (a' := ?_) #[y_, y_, y_, y_, y_, y_, y_, y_, y_, y_, y_, y_, y_, y_, y_, y_, y_, y_, y_, y_, y_, y_, y_, y_, y_, y_, y_, y_, y_] rfl rfl (by kernel_rfl) (fun _ _ _ h => h) (Or.inl ⟨by rfl, ?_⟩) ?_ ?_
   rotate_left
   ·intro w'
    go_simp
    with_reducible rfl
   rotate_left
   ·simp only [Act.put, sI_, s0_, sS_, i64_w, i32_w]
    rfl
   refine done_ (by kernel_rfl) ?_
   go_wp2
   go_ret
   exact ⟨by rw [HF.out]; rfl, HB.out.trans (HBF.out.mono HB.out.size)⟩
  have HV1 := Aside0.mk (decide_eq_true v1)
  by_cases v2 : x1 < x0
  ·have t2 : decide (x1 < x0) = true := decide_eq_true v2
   have HF := Aside0.mk (show belongsB l0.length l1 = false from HBD.out (by rw [HODD.out]; exact decide_eq_true (fun h => by omega)))
   clear v0 v1 v2
   go_wp2
   refine start_ (n := 29) (S := fun w' => w'.cell? (ad.add (i.toNat * 2)) = some (.int .i64 x0) ∧ w'.cell? ⟨(ad.add (i.toNat * 2)).block, (ad.add (i.toNat * 2)).off + 1, none⟩ = some (.int .i64 x1)) (ds := []) #[n_, n_, n_, n_, n_, n_, n_, n_, n_, n_, n_, n_, n_, n_, n_, n_, n_, n_, n_, n_, n_, n_, n_, n_, n_, n_, n_, n_, n_] (by kernel_rfl) rfl rfl ⟨hx0, hx1⟩ (fun hHeld => ?_)
   refine pure_ (i := 0) (N := some 17) (v := ?_) (a' := ?_) #[y_, n_, n_, n_, n_, n_, n_, n_, n_, n_, n_, n_, n_, n_, n_, n_, n_, n_, n_, n_, n_, n_, n_, n_, n_, n_, n_, n_, n_] rfl rfl (by kernel_rfl) (fun _ _ _ h => h) (Or.inl ⟨by rfl, ?_⟩) ?_ ?_
   rotate_left
   ·intro w'
    go_simp
    with_reducible rfl
   rotate_left
   ·simp only [Act.put, sI_, s0_, sS_, i64_w, i32_w]
    rfl
   refine pure_ (i := 1) (N := some 18) (v := ?_) (a' := ?_) #[y_, y_, n_, n_, n_, n_, n_, n_, n_, n_, n_, n_, n_, n_, n_, n_, n_, n_, n_, n_, n_, n_, n_, n_, n_, n_, n_, n_, n_] rfl rfl (by kernel_rfl) (fun _ _ _ h => h) (Or.inl ⟨by rfl, ?_⟩) ?_ ?_
   rotate_left
   ·intro w'
    go_simp
    with_reducible rfl
   rotate_left
   ·simp only [Act.put, sI_, s0_, sS_, i64_w, i32_w]
    rfl
   refine pure_ (i := 2) (N := some 19) (v := ?_) (a' := ?_) #[y_, y_, y_, n_, n_, n_, n_, n_, n_, n_, n_, n_, n_, n_, n_, n_, n_, n_, n_, n_, n_, n_, n_, n_, n_, n_, n_, n_, n_] rfl rfl (by kernel_rfl) (fun _ _ _ h => h) (Or.inl ⟨by rfl, ?_⟩) ?_ ?_
   rotate_left
   ·intro w'
    go_simp
    with_reducible rfl
   rotate_left
   ·simp only [Act.put, sI_, s0_, sS_, i64_w, i32_w]
    rfl
   refine pure_ (i := 3) (N := some 20) (v := ?_) (a' := ?_) #[y_, y_, y_, y_, n_, n_, n_, n_, n_, n_, n_, n_, n_, n_, n_, n_, n_, n_, n_, n_, n_, n_, n_, n_, n_, n_, n_, n_, n_] rfl rfl (by kernel_rfl) (fun _ _ _ h => h) (Or.inl ⟨by rfl, ?_⟩) ?_ ?_
   rotate_left
   ·intro w'
    go_simp
    with_reducible rfl
   rotate_left
   ·simp only [Act.put, sI_, s0_, sS_, i64_w, i32_w]
    rfl
   refine take_ (i := 4) (N := some 21) (v := ?_) (a' := ?_) #[y_, y_, y_, y_, y_, n_, n_, n_, n_, n_, n_, n_, n_, n_, n_, n_, n_, n_, n_, n_, n_, n_, n_, n_, n_, n_, n_, n_, n_] rfl rfl (by kernel_rfl) (fun _ _ _ h => h) (Or.inl ⟨by rfl, ?_⟩) hHeld ?_ ?_
   rotate_left
   ·rintro w' ⟨s0, s1⟩
    go_simp
    with_reducible rfl
   rotate_left
   ·simp only [Act.put, sI_, s0_, sS_, i64_w, i32_w]
    rfl
   refine one_ (i := 5) (N := some 22) #[y_, y_, y_, y_, y_, y_, n_, n_, n_, n_, n_, n_, n_, n_, n_, n_, n_, n_, n_, n_, n_, n_, n_, n_, n_, n_, n_, n_, n_] rfl rfl (by kernel_rfl) (by decide) (fun K hK => ?_)
   refine goes_ Try.func31 (by kernel_rfl) rfl #[.int .i64 x0] (by rfl) rfl rfl (by simp only [List.map_toArray, List.map_cons, List.map_nil]; rfl) ?_
   with_reducible refine (volume_calls HV0.out _).mono ?_
   rintro e w3 ⟨rfl, hdr⟩
   refine ⟨_, rfl, ?_⟩
   have hb := hdr.below
   have HB1 := Aside0.mk (below_step (below_drew (Below.refl _ _)) hb)
   refine hK.out _ _ ⟨(hb.cell (World.block_lt_of_cell? _ _ hHeld.1)).trans hHeld.1, (hb.cell (World.block_lt_of_cell? _ _ hHeld.2)).trans hHeld.2⟩ (fun hHeld => ?_)
   clear hK K
   refine norm_ (a' := ?_) ?_ ?_
   rotate_left
   ·show Act.put _ (some 22) _ = _
    simp only [Act.put, sI_, s0_, sS_, i64_w, i32_w]
    rfl
   refine pure_ (i := 6) (N := some 23) (v := ?_) (a' := ?_) #[y_, y_, y_, y_, y_, y_, y_, n_, n_, n_, n_, n_, n_, n_, n_, n_, n_, n_, n_, n_, n_, n_, n_, n_, n_, n_, n_, n_, n_] rfl rfl (by kernel_rfl) (fun _ _ _ h => h) (Or.inl ⟨by rfl, ?_⟩) ?_ ?_
   rotate_left
   ·intro w'
    go_simp
    with_reducible rfl
   rotate_left
   ·simp only [Act.put, sI_, s0_, sS_, i64_w, i32_w]
    rfl
   refine pure_ (i := 7) (N := some 24) (v := ?_) (a' := ?_) #[y_, y_, y_, y_, y_, y_, y_, y_, n_, n_, n_, n_, n_, n_, n_, n_, n_, n_, n_, n_, n_, n_, n_, n_, n_, n_, n_, n_, n_] rfl rfl (by kernel_rfl) (fun _ _ _ h => h) (Or.inl ⟨by rfl, ?_⟩) ?_ ?_
   rotate_left
   ·intro w'
    go_simp
    with_reducible rfl
   rotate_left
   ·simp only [Act.put, sI_, s0_, sS_, i64_w, i32_w]
    rfl
   refine pure_ (i := 8) (N := some 25) (v := ?_) (a' := ?_) #[y_, y_, y_, y_, y_, y_, y_, y_, y_, n_, n_, n_, n_, n_, n_, n_, n_, n_, n_, n_, n_, n_, n_, n_, n_, n_, n_, n_, n_] rfl rfl (by kernel_rfl) (fun _ _ _ h => h) (Or.inl ⟨by rfl, ?_⟩) ?_ ?_
   rotate_left
   ·intro w'
    go_simp
    with_reducible rfl
   rotate_left
   ·simp only [Act.put, sI_, s0_, sS_, i64_w, i32_w]
    rfl
   refine pure_ (i := 9) (N := some 26) (v := ?_) (a' := ?_) #[y_, y_, y_, y_, y_, y_, y_, y_, y_, y_, n_, n_, n_, n_, n_, n_, n_, n_, n_, n_, n_, n_, n_, n_, n_, n_, n_, n_, n_] rfl rfl (by kernel_rfl) (fun _ _ _ h => h) (Or.inl ⟨by rfl, ?_⟩) ?_ ?_
   rotate_left
   ·intro w'
    go_simp
    with_reducible rfl
   rotate_left
   ·simp only [Act.put, sI_, s0_, sS_, i64_w, i32_w]
    rfl
   refine pure_ (i := 10) (N := some 27) (v := ?_) (a' := ?_) #[y_, y_, y_, y_, y_, y_, y_, y_, y_, y_, y_, n_, n_, n_, n_, n_, n_, n_, n_, n_, n_, n_, n_, n_, n_, n_, n_, n_, n_] rfl rfl (by kernel_rfl) (fun _ _ _ h => h) (Or.inl ⟨by rfl, ?_⟩) ?_ ?_
   rotate_left
   ·intro w'
    go_simp
    with_reducible rfl
   rotate_left
   ·simp only [Act.put, sI_, s0_, sS_, i64_w, i32_w]
    rfl
   refine pure_ (i := 11) (N := some 28) (v := ?_) (a' := ?_) #[y_, y_, y_, y_, y_, y_, y_, y_, y_, y_, y_, y_, n_, n_, n_, n_, n_, n_, n_, n_, n_, n_, n_, n_, n_, n_, n_, n_, n_] rfl rfl (by kernel_rfl) (fun _ _ _ h => h) (Or.inl ⟨by rfl, ?_⟩) ?_ ?_
   rotate_left
   ·intro w'
    go_simp
    with_reducible rfl
   rotate_left
   ·simp only [Act.put, sI_, s0_, sS_, i64_w, i32_w]
    rfl
   refine take_ (i := 12) (N := some 29) (v := ?_) (a' := ?_) #[y_, y_, y_, y_, y_, y_, y_, y_, y_, y_, y_, y_, y_, n_, n_, n_, n_, n_, n_, n_, n_, n_, n_, n_, n_, n_, n_, n_, n_] rfl rfl (by kernel_rfl) (fun _ _ _ h => h) (Or.inl ⟨by rfl, ?_⟩) hHeld ?_ ?_
   rotate_left
   ·rintro w' ⟨s0, s1⟩
    go_simp
    with_reducible rfl
   rotate_left
   ·simp only [Act.put, sI_, s0_, sS_, i64_w, i32_w]
    rfl
   refine one_ (i := 13) (N := some 30) #[y_, y_, y_, y_, y_, y_, y_, y_, y_, y_, y_, y_, y_, y_, n_, n_, n_, n_, n_, n_, n_, n_, n_, n_, n_, n_, n_, n_, n_] rfl rfl (by kernel_rfl) (by decide) (fun K hK => ?_)
   refine goes_ Try.func31 (by kernel_rfl) rfl #[.int .i64 x1] (by rfl) rfl rfl (by simp only [List.map_toArray, List.map_cons, List.map_nil]; rfl) ?_
   with_reducible refine (volume_calls HV1.out _).mono ?_
   rintro e w3 ⟨rfl, hdr⟩
   refine ⟨_, rfl, ?_⟩
   have hb := hdr.below
   have HBF := Aside0.mk (below_step HB1.out hb)
   refine hK.out _ _ ⟨(hb.cell (World.block_lt_of_cell? _ _ hHeld.1)).trans hHeld.1, (hb.cell (World.block_lt_of_cell? _ _ hHeld.2)).trans hHeld.2⟩ (fun hHeld => ?_)
   clear hK K
   refine norm_ (a' := ?_) ?_ ?_
   rotate_left
   ·show Act.put _ (some 30) _ = _
    simp only [Act.put, sI_, s0_, sS_, i64_w, i32_w]
    rfl
   refine pure_ (i := 14) (N := some 31) (v := ?_) (a' := ?_) #[y_, y_, y_, y_, y_, y_, y_, y_, y_, y_, y_, y_, y_, y_, y_, n_, n_, n_, n_, n_, n_, n_, n_, n_, n_, n_, n_, n_, n_] rfl rfl (by kernel_rfl) (fun _ _ _ h => h) (Or.inl ⟨by rfl, ?_⟩) ?_ ?_
   rotate_left
   ·intro w'
    go_simp
    with_reducible rfl
   rotate_left
   ·simp only [Act.put, sI_, s0_, sS_, i64_w, i32_w]
    rfl
   refine pure_ (i := 15) (N := some 32) (v := ?_) (a' := ?_) #[y_, y_, y_, y_, y_, y_, y_, y_, y_, y_, y_, y_, y_, y_, y_, y_, n_, n_, n_, n_, n_, n_, n_, n_, n_, n_, n_, n_, n_] rfl rfl (by kernel_rfl) (fun _ _ _ h => h) (Or.inl ⟨by rfl, ?_⟩) ?_ ?_
   rotate_left
   ·intro w'
    go_simp
    with_reducible rfl
   rotate_left
   ·simp only [Act.put, sI_, s0_, sS_, i64_w, i32_w]
    rfl
   refine pure_ (i := 16) (N := some 33) (v := ?_) (a' := ?_) #[y_, y_, y_, y_, y_, y_, y_, y_, y_, y_, y_, y_, y_, y_, y_, y_, y_, n_, n_, n_, n_, n_, n_, n_, n_, n_, n_, n_, n_] rfl rfl (by kernel_rfl) (fun _ _ _ h => h) (Or.inl ⟨by rfl, ?_⟩) ?_ ?_
   rotate_left
   ·intro w'
    go_simp
    with_reducible rfl
   rotate_left
   ·simp only [Act.put, sI_, s0_, sS_, i64_w, i32_w]
    rfl
   refine pure_ (i := 17) (N := some 34) (v := ?_) (a' := ?_) #[y_, y_, y_, y_, y_, y_, y_, y_, y_, y_, y_, y_, y_, y_, y_, y_, y_, y_, n_, n_, n_, n_, n_, n_, n_, n_, n_, n_, n_] rfl rfl (by kernel_rfl) (fun _ _ _ h => h) (Or.inl ⟨by rfl, ?_⟩) ?_ ?_
   rotate_left
   ·intro w'
    go_simp
    with_reducible rfl
   rotate_left
   ·simp only [Act.put, sI_, s0_, sS_, i64_w, i32_w]
    rfl
   refine pure_ (i := 18) (N := some 35) (v := ?_) (a' := ?_) #[y_, y_, y_, y_, y_, y_, y_, y_, y_, y_, y_, y_, y_, y_, y_, y_, y_, y_, y_, n_, n_, n_, n_, n_, n_, n_, n_, n_, n_] rfl rfl (by kernel_rfl) (fun _ _ _ h => h) (Or.inl ⟨by rfl, ?_⟩) ?_ ?_
   rotate_left
   ·intro w'
    go_simp
    with_reducible rfl
   rotate_left
   ·simp only [Act.put, sI_, s0_, sS_, i64_w, i32_w]
    rfl
   refine pure_ (i := 19) (N := some 36) (v := ?_) (a' := ?_) #[y_, y_, y_, y_, y_, y_, y_, y_, y_, y_, y_, y_, y_, y_, y_, y_, y_, y_, y_, y_, n_, n_, n_, n_, n_, n_, n_, n_, n_] rfl rfl (by kernel_rfl) (fun _ _ _ h => h) (Or.inl ⟨by rfl, ?_⟩) ?_ ?_
   rotate_left
   ·intro w'
    go_simp
    with_reducible rfl
   rotate_left
   ·simp only [Act.put, sI_, s0_, sS_, i64_w, i32_w]
    rfl
   refine pure_ (i := 20) (N := some 37) (v := ?_) (a' := ?_) #[y_, y_, y_, y_, y_, y_, y_, y_, y_, y_, y_, y_, y_, y_, y_, y_, y_, y_, y_, y_, y_, n_, n_, n_, n_, n_, n_, n_, n_] rfl rfl (by kernel_rfl) (fun _ _ _ h => h) (Or.inl ⟨by rfl, ?_⟩) ?_ ?_
   rotate_left
   ·intro w'
    go_simp
    with_reducible rfl
   rotate_left
   ·simp only [Act.put, sI_, s0_, sS_, i64_w, i32_w]
    rfl
   refine pure_ (i := 22) (N := some 39) (v := ?_) (a' := ?_) #[y_, y_, y_, y_, y_, y_, y_, y_, y_, y_, y_, y_, y_, y_, y_, y_, y_, y_, y_, y_, y_, n_, y_, n_, n_, n_, n_, n_, n_] rfl rfl (by kernel_rfl) (fun _ _ _ h => h) (Or.inl ⟨by rfl, ?_⟩) ?_ ?_
   rotate_left
   ·intro w'
    go_simp
    with_reducible rfl
   rotate_left
   ·simp only [Act.put, sI_, s0_, sS_, i64_w, i32_w]
    rfl
   refine pure_ (i := 23) (N := some 40) (v := ?_) (a' := ?_) #[y_, y_, y_, y_, y_, y_, y_, y_, y_, y_, y_, y_, y_, y_, y_, y_, y_, y_, y_, y_, y_, n_, y_, y_, n_, n_, n_, n_, n_] rfl rfl (by kernel_rfl) (fun _ _ _ h => h) (Or.inl ⟨by rfl, ?_⟩) ?_ ?_
   rotate_left
   ·intro w'
    go_simp
    with_reducible rfl
   rotate_left
   ·simp only [Act.put, sI_, s0_, sS_, i64_w, i32_w]
    rfl
   refine pure_ (i := 24) (N := some 41) (v := ?_) (a' := ?_) #[y_, y_, y_, y_, y_, y_, y_, y_, y_, y_, y_, y_, y_, y_, y_, y_, y_, y_, y_, y_, y_, n_, y_, y_, y_, n_, n_, n_, n_] rfl rfl (by kernel_rfl) (fun _ _ _ h => h) (Or.inl ⟨by rfl, ?_⟩) ?_ ?_
   rotate_left
   ·intro w'
    go_simp
    with_reducible rfl
   rotate_left
   ·simp only [Act.put, sI_, s0_, sS_, i64_w, i32_w]
    rfl
   refine pure_ (i := 25) (N := some 42) (v := ?_) (a' := ?_) #[y_, y_, y_, y_, y_, y_, y_, y_, y_, y_, y_, y_, y_, y_, y_, y_, y_, y_, y_, y_, y_, n_, y_, y_, y_, y_, n_, n_, n_] rfl rfl (by kernel_rfl) (fun _ _ _ h => h) (Or.inl ⟨by rfl, ?_⟩) ?_ ?_
   rotate_left
   ·intro w'
    go_simp
    with_reducible rfl
   rotate_left
   ·simp only [Act.put, sI_, s0_, sS_, i64_w, i32_w]
    rfl
   refine take_ (i := 21) (N := some 38) (v := ?_) (a' := ?_) #[y_, y_, y_, y_, y_, y_, y_, y_, y_, y_, y_, y_, y_, y_, y_, y_, y_, y_, y_, y_, y_, y_, y_, y_, y_, y_, n_, n_, n_] rfl rfl (by kernel_rfl) (fun _ _ _ h => h) (Or.inl ⟨by rfl, ?_⟩) hHeld ?_ ?_
   rotate_left
   ·rintro w' ⟨s0, s1⟩
    go_simp
    with_reducible rfl
   rotate_left
   ·simp only [Act.put, sI_, s0_, sS_, i64_w, i32_w]
    rfl
   refine take_ (i := 26) (N := some 43) (v := ?_) (a' := ?_) #[y_, y_, y_, y_, y_, y_, y_, y_, y_, y_, y_, y_, y_, y_, y_, y_, y_, y_, y_, y_, y_, y_, y_, y_, y_, y_, y_, n_, n_] rfl rfl (by kernel_rfl) (fun _ _ _ h => h) (Or.inl ⟨by rfl, ?_⟩) hHeld ?_ ?_
   rotate_left
   ·rintro w' ⟨s0, s1⟩
    go_simp
    with_reducible rfl
   rotate_left
   ·simp only [Act.put, sI_, s0_, sS_, i64_w, i32_w]
    rfl
   refine pure_ (i := 27) (N := some 44) (v := ?_) (a' := ?_) #[y_, y_, y_, y_, y_, y_, y_, y_, y_, y_, y_, y_, y_, y_, y_, y_, y_, y_, y_, y_, y_, y_, y_, y_, y_, y_, y_, y_, n_] rfl rfl (by kernel_rfl) (fun _ _ _ h => h) (Or.inl ⟨by rfl, ?_⟩) ?_ ?_
   rotate_left
   ·intro w'
    go_simp
    with_reducible rfl
   rotate_left
   ·simp only [Act.put, sI_, s0_, sS_, i64_w, i32_w]
    rfl
   refine pure_ (i := 28) (N := some 45) (v := ?_) (a' := ?_) #[y_, y_, y_, y_, y_, y_, y_, y_, y_, y_, y_, y_, y_, y_, y_, y_, y_, y_, y_, y_, y_, y_, y_, y_, y_, y_, y_, y_, y_] rfl rfl (by kernel_rfl) (fun _ _ _ h => h) (Or.inl ⟨by rfl, ?_⟩) ?_ ?_
   rotate_left
   ·intro w'
    go_simp
    with_reducible rfl
   rotate_left
   ·simp only [Act.put, sI_, s0_, sS_, i64_w, i32_w]
    rfl
   refine done_ (by kernel_rfl) ?_
   go_wp2
   go_ret
   exact ⟨by rw [HF.out]; rfl, HB.out.trans (HBF.out.mono HB.out.size)⟩
  have t2 : decide (x1 < x0) = false := decide_eq_false v2
  have HG := Aside0.mk (show oddR (rd_T39 l1 i) = false by rw [HODD.out]; exact decide_eq_false (fun h => h ⟨v0.1, v0.2, v1.1, v1.2, by omega⟩))
  clear v0 v1 v2
  have hz1 : i + 1 ≤ 9223372036854775807 := by have := HI2.out; have := HSZ.out; omega
  have hz2 : -9223372036854775808 ≤ i + 1 := by have := HI2.out; omega
  go_wp2
  refine start_ (n := 29) (S := fun w' => w'.cell? (ad.add (i.toNat * 2)) = some (.int .i64 x0) ∧ w'.cell? ⟨(ad.add (i.toNat * 2)).block, (ad.add (i.toNat * 2)).off + 1, none⟩ = some (.int .i64 x1)) (ds := []) #[n_, n_, n_, n_, n_, n_, n_, n_, n_, n_, n_, n_, n_, n_, n_, n_, n_, n_, n_, n_, n_, n_, n_, n_, n_, n_, n_, n_, n_] (by kernel_rfl) rfl rfl ⟨hx0, hx1⟩ (fun hHeld => ?_)
  refine pure_ (i := 0) (N := some 17) (v := ?_) (a' := ?_) #[y_, n_, n_, n_, n_, n_, n_, n_, n_, n_, n_, n_, n_, n_, n_, n_, n_, n_, n_, n_, n_, n_, n_, n_, n_, n_, n_, n_, n_] rfl rfl (by kernel_rfl) (fun _ _ _ h => h) (Or.inl ⟨by rfl, ?_⟩) ?_ ?_
  rotate_left
  ·intro w'
   go_simp
   with_reducible rfl
  rotate_left
  ·simp only [Act.put, sI_, s0_, sS_, i64_w, i32_w]
   rfl
  refine pure_ (i := 1) (N := some 18) (v := ?_) (a' := ?_) #[y_, y_, n_, n_, n_, n_, n_, n_, n_, n_, n_, n_, n_, n_, n_, n_, n_, n_, n_, n_, n_, n_, n_, n_, n_, n_, n_, n_, n_] rfl rfl (by kernel_rfl) (fun _ _ _ h => h) (Or.inl ⟨by rfl, ?_⟩) ?_ ?_
  rotate_left
  ·intro w'
   go_simp
   with_reducible rfl
  rotate_left
  ·simp only [Act.put, sI_, s0_, sS_, i64_w, i32_w]
   rfl
  refine pure_ (i := 2) (N := some 19) (v := ?_) (a' := ?_) #[y_, y_, y_, n_, n_, n_, n_, n_, n_, n_, n_, n_, n_, n_, n_, n_, n_, n_, n_, n_, n_, n_, n_, n_, n_, n_, n_, n_, n_] rfl rfl (by kernel_rfl) (fun _ _ _ h => h) (Or.inl ⟨by rfl, ?_⟩) ?_ ?_
  rotate_left
  ·intro w'
   go_simp
   with_reducible rfl
  rotate_left
  ·simp only [Act.put, sI_, s0_, sS_, i64_w, i32_w]
   rfl
  refine pure_ (i := 3) (N := some 20) (v := ?_) (a' := ?_) #[y_, y_, y_, y_, n_, n_, n_, n_, n_, n_, n_, n_, n_, n_, n_, n_, n_, n_, n_, n_, n_, n_, n_, n_, n_, n_, n_, n_, n_] rfl rfl (by kernel_rfl) (fun _ _ _ h => h) (Or.inl ⟨by rfl, ?_⟩) ?_ ?_
  rotate_left
  ·intro w'
   go_simp
   with_reducible rfl
  rotate_left
  ·simp only [Act.put, sI_, s0_, sS_, i64_w, i32_w]
   rfl
  refine take_ (i := 4) (N := some 21) (v := ?_) (a' := ?_) #[y_, y_, y_, y_, y_, n_, n_, n_, n_, n_, n_, n_, n_, n_, n_, n_, n_, n_, n_, n_, n_, n_, n_, n_, n_, n_, n_, n_, n_] rfl rfl (by kernel_rfl) (fun _ _ _ h => h) (Or.inl ⟨by rfl, ?_⟩) hHeld ?_ ?_
  rotate_left
  ·rintro w' ⟨s0, s1⟩
   go_simp
   with_reducible rfl
  rotate_left
  ·simp only [Act.put, sI_, s0_, sS_, i64_w, i32_w]
   rfl
  refine one_ (i := 5) (N := some 22) #[y_, y_, y_, y_, y_, y_, n_, n_, n_, n_, n_, n_, n_, n_, n_, n_, n_, n_, n_, n_, n_, n_, n_, n_, n_, n_, n_, n_, n_] rfl rfl (by kernel_rfl) (by decide) (fun K hK => ?_)
  refine goes_ Try.func31 (by kernel_rfl) rfl #[.int .i64 x0] (by rfl) rfl rfl (by simp only [List.map_toArray, List.map_cons, List.map_nil]; rfl) ?_
  with_reducible refine (volume_calls HV0.out _).mono ?_
  rintro e w3 ⟨rfl, hdr⟩
  refine ⟨_, rfl, ?_⟩
  have hb := hdr.below
  have HB1 := Aside0.mk (below_step (below_drew (Below.refl _ _)) hb)
  refine hK.out _ _ ⟨(hb.cell (World.block_lt_of_cell? _ _ hHeld.1)).trans hHeld.1, (hb.cell (World.block_lt_of_cell? _ _ hHeld.2)).trans hHeld.2⟩ (fun hHeld => ?_)
  clear hK K
  refine norm_ (a' := ?_) ?_ ?_
  rotate_left
  ·show Act.put _ (some 22) _ = _
   simp only [Act.put, sI_, s0_, sS_, i64_w, i32_w]
   rfl
  refine pure_ (i := 6) (N := some 23) (v := ?_) (a' := ?_) #[y_, y_, y_, y_, y_, y_, y_, n_, n_, n_, n_, n_, n_, n_, n_, n_, n_, n_, n_, n_, n_, n_, n_, n_, n_, n_, n_, n_, n_] rfl rfl (by kernel_rfl) (fun _ _ _ h => h) (Or.inl ⟨by rfl, ?_⟩) ?_ ?_
  rotate_left
  ·intro w'
   go_simp
   with_reducible rfl
  rotate_left
  ·simp only [Act.put, sI_, s0_, sS_, i64_w, i32_w]
   rfl
  refine pure_ (i := 7) (N := some 24) (v := ?_) (a' := ?_) #[y_, y_, y_, y_, y_, y_, y_, y_, n_, n_, n_, n_, n_, n_, n_, n_, n_, n_, n_, n_, n_, n_, n_, n_, n_, n_, n_, n_, n_] rfl rfl (by kernel_rfl) (fun _ _ _ h => h) (Or.inl ⟨by rfl, ?_⟩) ?_ ?_
  rotate_left
  ·intro w'
   go_simp
   with_reducible rfl
  rotate_left
  ·simp only [Act.put, sI_, s0_, sS_, i64_w, i32_w]
   rfl
  refine pure_ (i := 8) (N := some 25) (v := ?_) (a' := ?_) #[y_, y_, y_, y_, y_, y_, y_, y_, y_, n_, n_, n_, n_, n_, n_, n_, n_, n_, n_, n_, n_, n_, n_, n_, n_, n_, n_, n_, n_] rfl rfl (by kernel_rfl) (fun _ _ _ h => h) (Or.inl ⟨by rfl, ?_⟩) ?_ ?_
  rotate_left
  ·intro w'
   go_simp
   with_reducible rfl
  rotate_left
  ·simp only [Act.put, sI_, s0_, sS_, i64_w, i32_w]
   rfl
  refine pure_ (i := 9) (N := some 26) (v := ?_) (a' := ?_) #[y_, y_, y_, y_, y_, y_, y_, y_, y_, y_, n_, n_, n_, n_, n_, n_, n_, n_, n_, n_, n_, n_, n_, n_, n_, n_, n_, n_, n_] rfl rfl (by kernel_rfl) (fun _ _ _ h => h) (Or.inl ⟨by rfl, ?_⟩) ?_ ?_
  rotate_left
  ·intro w'
   go_simp
   with_reducible rfl
  rotate_left
  ·simp only [Act.put, sI_, s0_, sS_, i64_w, i32_w]
   rfl
  refine pure_ (i := 10) (N := some 27) (v := ?_) (a' := ?_) #[y_, y_, y_, y_, y_, y_, y_, y_, y_, y_, y_, n_, n_, n_, n_, n_, n_, n_, n_, n_, n_, n_, n_, n_, n_, n_, n_, n_, n_] rfl rfl (by kernel_rfl) (fun _ _ _ h => h) (Or.inl ⟨by rfl, ?_⟩) ?_ ?_
  rotate_left
  ·intro w'
   go_simp
   with_reducible rfl
  rotate_left
  ·simp only [Act.put, sI_, s0_, sS_, i64_w, i32_w]
   rfl
  refine pure_ (i := 11) (N := some 28) (v := ?_) (a' := ?_) #[y_, y_, y_, y_, y_, y_, y_, y_, y_, y_, y_, y_, n_, n_, n_, n_, n_, n_, n_, n_, n_, n_, n_, n_, n_, n_, n_, n_, n_] rfl rfl (by kernel_rfl) (fun _ _ _ h => h) (Or.inl ⟨by rfl, ?_⟩) ?_ ?_
  rotate_left
  ·intro w'
   go_simp
   with_reducible rfl
  rotate_left
  ·simp only [Act.put, sI_, s0_, sS_, i64_w, i32_w]
   rfl
  refine take_ (i := 12) (N := some 29) (v := ?_) (a' := ?_) #[y_, y_, y_, y_, y_, y_, y_, y_, y_, y_, y_, y_, y_, n_, n_, n_, n_, n_, n_, n_, n_, n_, n_, n_, n_, n_, n_, n_, n_] rfl rfl (by kernel_rfl) (fun _ _ _ h => h) (Or.inl ⟨by rfl, ?_⟩) hHeld ?_ ?_
  rotate_left
  ·rintro w' ⟨s0, s1⟩
   go_simp
   with_reducible rfl
  rotate_left
  ·simp only [Act.put, sI_, s0_, sS_, i64_w, i32_w]
   rfl
  refine one_ (i := 13) (N := some 30) #[y_, y_, y_, y_, y_, y_, y_, y_, y_, y_, y_, y_, y_, y_, n_, n_, n_, n_, n_, n_, n_, n_, n_, n_, n_, n_, n_, n_, n_] rfl rfl (by kernel_rfl) (by decide) (fun K hK => ?_)
  refine goes_ Try.func31 (by kernel_rfl) rfl #[.int .i64 x1] (by rfl) rfl rfl (by simp only [List.map_toArray, List.map_cons, List.map_nil]; rfl) ?_
  with_reducible refine (volume_calls HV1.out _).mono ?_
  rintro e w3 ⟨rfl, hdr⟩
  refine ⟨_, rfl, ?_⟩
  have hb := hdr.below
  have HBF := Aside0.mk (below_step HB1.out hb)
  refine hK.out _ _ ⟨(hb.cell (World.block_lt_of_cell? _ _ hHeld.1)).trans hHeld.1, (hb.cell (World.block_lt_of_cell? _ _ hHeld.2)).trans hHeld.2⟩ (fun hHeld => ?_)
  clear hK K
  refine norm_ (a' := ?_) ?_ ?_
  rotate_left
  ·show Act.put _ (some 30) _ = _
   simp only [Act.put, sI_, s0_, sS_, i64_w, i32_w]
   rfl
  refine pure_ (i := 14) (N := some 31) (v := ?_) (a' := ?_) #[y_, y_, y_, y_, y_, y_, y_, y_, y_, y_, y_, y_, y_, y_, y_, n_, n_, n_, n_, n_, n_, n_, n_, n_, n_, n_, n_, n_, n_] rfl rfl (by kernel_rfl) (fun _ _ _ h => h) (Or.inl ⟨by rfl, ?_⟩) ?_ ?_
  rotate_left
  ·intro w'
   go_simp
   with_reducible rfl
  rotate_left
  ·simp only [Act.put, sI_, s0_, sS_, i64_w, i32_w]
   rfl
  refine pure_ (i := 15) (N := some 32) (v := ?_) (a' := ?_) #[y_, y_, y_, y_, y_, y_, y_, y_, y_, y_, y_, y_, y_, y_, y_, y_, n_, n_, n_, n_, n_, n_, n_, n_, n_, n_, n_, n_, n_] rfl rfl (by kernel_rfl) (fun _ _ _ h => h) (Or.inl ⟨by rfl, ?_⟩) ?_ ?_
  rotate_left
  ·intro w'
   go_simp
   with_reducible rfl
  rotate_left
  ·simp only [Act.put, sI_, s0_, sS_, i64_w, i32_w]
   rfl
  refine pure_ (i := 16) (N := some 33) (v := ?_) (a' := ?_) #[y_, y_, y_, y_, y_, y_, y_, y_, y_, y_, y_, y_, y_, y_, y_, y_, y_, n_, n_, n_, n_, n_, n_, n_, n_, n_, n_, n_, n_] rfl rfl (by kernel_rfl) (fun _ _ _ h => h) (Or.inl ⟨by rfl, ?_⟩) ?_ ?_
  rotate_left
  ·intro w'
   go_simp
   with_reducible rfl
  rotate_left
  ·simp only [Act.put, sI_, s0_, sS_, i64_w, i32_w]
   rfl
  refine pure_ (i := 17) (N := some 34) (v := ?_) (a' := ?_) #[y_, y_, y_, y_, y_, y_, y_, y_, y_, y_, y_, y_, y_, y_, y_, y_, y_, y_, n_, n_, n_, n_, n_, n_, n_, n_, n_, n_, n_] rfl rfl (by kernel_rfl) (fun _ _ _ h => h) (Or.inl ⟨by rfl, ?_⟩) ?_ ?_
  rotate_left
  ·intro w'
   go_simp
   with_reducible rfl
  rotate_left
  ·simp only [Act.put, sI_, s0_, sS_, i64_w, i32_w]
   rfl
  refine pure_ (i := 18) (N := some 35) (v := ?_) (a' := ?_) #[y_, y_, y_, y_, y_, y_, y_, y_, y_, y_, y_, y_, y_, y_, y_, y_, y_, y_, y_, n_, n_, n_, n_, n_, n_, n_, n_, n_, n_] rfl rfl (by kernel_rfl) (fun _ _ _ h => h) (Or.inl ⟨by rfl, ?_⟩) ?_ ?_
  rotate_left
  ·intro w'
   go_simp
   with_reducible rfl
  rotate_left
  ·simp only [Act.put, sI_, s0_, sS_, i64_w, i32_w]
   rfl
  refine pure_ (i := 19) (N := some 36) (v := ?_) (a' := ?_) #[y_, y_, y_, y_, y_, y_, y_, y_, y_, y_, y_, y_, y_, y_, y_, y_, y_, y_, y_, y_, n_, n_, n_, n_, n_, n_, n_, n_, n_] rfl rfl (by kernel_rfl) (fun _ _ _ h => h) (Or.inl ⟨by rfl, ?_⟩) ?_ ?_
  rotate_left
  ·intro w'
   go_simp
   with_reducible rfl
  rotate_left
  ·simp only [Act.put, sI_, s0_, sS_, i64_w, i32_w]
   rfl
  refine pure_ (i := 20) (N := some 37) (v := ?_) (a' := ?_) #[y_, y_, y_, y_, y_, y_, y_, y_, y_, y_, y_, y_, y_, y_, y_, y_, y_, y_, y_, y_, y_, n_, n_, n_, n_, n_, n_, n_, n_] rfl rfl (by kernel_rfl) (fun _ _ _ h => h) (Or.inl ⟨by rfl, ?_⟩) ?_ ?_
  rotate_left
  ·intro w'
   go_simp
   with_reducible rfl
  rotate_left
  ·simp only [Act.put, sI_, s0_, sS_, i64_w, i32_w]
   rfl
  refine pure_ (i := 22) (N := some 39) (v := ?_) (a' := ?_) #[y_, y_, y_, y_, y_, y_, y_, y_, y_, y_, y_, y_, y_, y_, y_, y_, y_, y_, y_, y_, y_, n_, y_, n_, n_, n_, n_, n_, n_] rfl rfl (by kernel_rfl) (fun _ _ _ h => h) (Or.inl ⟨by rfl, ?_⟩) ?_ ?_
  rotate_left
  ·intro w'
   go_simp
   with_reducible rfl
  rotate_left
  ·simp only [Act.put, sI_, s0_, sS_, i64_w, i32_w]
   rfl
  refine pure_ (i := 23) (N := some 40) (v := ?_) (a' := ?_) #[y_, y_, y_, y_, y_, y_, y_, y_, y_, y_, y_, y_, y_, y_, y_, y_, y_, y_, y_, y_, y_, n_, y_, y_, n_, n_, n_, n_, n_] rfl rfl (by kernel_rfl) (fun _ _ _ h => h) (Or.inl ⟨by rfl, ?_⟩) ?_ ?_
  rotate_left
  ·intro w'
   go_simp
   with_reducible rfl
  rotate_left
  ·simp only [Act.put, sI_, s0_, sS_, i64_w, i32_w]
   rfl
  refine pure_ (i := 24) (N := some 41) (v := ?_) (a' := ?_) #[y_, y_, y_, y_, y_, y_, y_, y_, y_, y_, y_, y_, y_, y_, y_, y_, y_, y_, y_, y_, y_, n_, y_, y_, y_, n_, n_, n_, n_] rfl rfl (by kernel_rfl) (fun _ _ _ h => h) (Or.inl ⟨by rfl, ?_⟩) ?_ ?_
  rotate_left
  ·intro w'
   go_simp
   with_reducible rfl
  rotate_left
  ·simp only [Act.put, sI_, s0_, sS_, i64_w, i32_w]
   rfl
  refine pure_ (i := 25) (N := some 42) (v := ?_) (a' := ?_) #[y_, y_, y_, y_, y_, y_, y_, y_, y_, y_, y_, y_, y_, y_, y_, y_, y_, y_, y_, y_, y_, n_, y_, y_, y_, y_, n_, n_, n_] rfl rfl (by kernel_rfl) (fun _ _ _ h => h) (Or.inl ⟨by rfl, ?_⟩) ?_ ?_
  rotate_left
  ·intro w'
   go_simp
   with_reducible rfl
  rotate_left
  ·simp only [Act.put, sI_, s0_, sS_, i64_w, i32_w]
   rfl
  refine take_ (i := 21) (N := some 38) (v := ?_) (a' := ?_) #[y_, y_, y_, y_, y_, y_, y_, y_, y_, y_, y_, y_, y_, y_, y_, y_, y_, y_, y_, y_, y_, y_, y_, y_, y_, y_, n_, n_, n_] rfl rfl (by kernel_rfl) (fun _ _ _ h => h) (Or.inl ⟨by rfl, ?_⟩) hHeld ?_ ?_
  rotate_left
  ·rintro w' ⟨s0, s1⟩
   go_simp
   with_reducible rfl
  rotate_left
  ·simp only [Act.put, sI_, s0_, sS_, i64_w, i32_w]
   rfl
  refine take_ (i := 26) (N := some 43) (v := ?_) (a' := ?_) #[y_, y_, y_, y_, y_, y_, y_, y_, y_, y_, y_, y_, y_, y_, y_, y_, y_, y_, y_, y_, y_, y_, y_, y_, y_, y_, y_, n_, n_] rfl rfl (by kernel_rfl) (fun _ _ _ h => h) (Or.inl ⟨by rfl, ?_⟩) hHeld ?_ ?_
  rotate_left
  ·rintro w' ⟨s0, s1⟩
   go_simp
   with_reducible rfl
  rotate_left
  ·simp only [Act.put, sI_, s0_, sS_, i64_w, i32_w]
   rfl
  refine pure_ (i := 27) (N := some 44) (v := ?_) (a' := ?_) #[y_, y_, y_, y_, y_, y_, y_, y_, y_, y_, y_, y_, y_, y_, y_, y_, y_, y_, y_, y_, y_, y_, y_, y_, y_, y_, y_, y_, n_] rfl rfl (by kernel_rfl) (fun _ _ _ h => h) (Or.inl ⟨by rfl, ?_⟩) ?_ ?_
  rotate_left
  ·intro w'
   go_simp
   with_reducible rfl
  rotate_left
  ·simp only [Act.put, sI_, s0_, sS_, i64_w, i32_w]
   rfl
  refine pure_ (i := 28) (N := some 45) (v := ?_) (a' := ?_) #[y_, y_, y_, y_, y_, y_, y_, y_, y_, y_, y_, y_, y_, y_, y_, y_, y_, y_, y_, y_, y_, y_, y_, y_, y_, y_, y_, y_, y_] rfl rfl (by kernel_rfl) (fun _ _ _ h => h) (Or.inl ⟨by rfl, ?_⟩) ?_ ?_
  rotate_left
  ·intro w'
   go_simp
   with_reducible rfl
  rotate_left
  ·simp only [Act.put, sI_, s0_, sS_, i64_w, i32_w]
   rfl
  refine done_ (by kernel_rfl) ?_
  go_wp2
  go_roundg (gk - 1)
  case measure => have := HM.out; have := HI2.out; omega
  case rel =>
   refine ⟨n + 1, ?_, ⟨by have := HM.out; have := HI2.out; omega⟩, ⟨fun j hj => ?_⟩, ⟨HB.out.trans (HBF.out.mono HB.out.size)⟩⟩
   ·have := HI2.out
    first | (rw [show ((n + 1 : Nat) : Int) = i + 1 from by omega]; done) | (simp; omega)
   ·by_cases hj' : j < n
    ·exact HOK.out j hj'
    ·rw [show j = n by omega, ← HNI.out]
     exact HG.out
end Go.Proofs.Ytmojlpafpeeelaa.P
end
section
namespace Go.Proofs.Ytmojlpafpeeelaa.P
open Go.RowKit Go.Proofs.YtmojlpafpeeelaaW.PrintWords Go.Proofs.YtmojlpafpeeelaaW.PrintLast Go.Proofs.YtmojlpafpeeelaaW.PrintMore
attribute [local go_sem] max2_int min2_int max_two min_two max_three min_three max_four min_four
set_option linter.unusedVariables false
set_option linter.unusedSimpArgs false
def cohousingref28_empty.l0 : Nat → List (S39) → Int → Option (Bool)
 | 0, _, _ => none
 | k + 1, x0, x3 => if x3 < (x0.length : Int) then (if 0 ≤ x3 then (if ((rd_T39 x0 x3).f0) > ((rd_T39 x0 x3).f1) then (some true) else (cohousingref28_empty.l0 k x0 (wrap64 (x3 + 1)))) else (none)) else (some false)
def cohousingref28_empty.f (k : Nat) (l0 : List (S39)) : Option (Bool) := cohousingref28_empty.l0 k l0 0
set_option maxHeartbeats 8000000 in
set_option maxRecDepth 100000 in
theorem cohousingref28_empty.calls (k : Nat) (A0 : Option Addr) (c0 : Nat) (l0 : List (S39)) (r : Bool) (w : World) (hr0 : Kd.C k39 w A0 l0.length l0) (hc0 : l0.length ≤ c0) (h : cohousingref28_empty.f k l0 = some r) :
  Calls Try.prog 47 #[.slice A0 l0.length c0] w fun e w' => e = .returned (.bool r) ∧ Drawn0 w w' := by
 have HR0 := Aside0.mk hr0
 have HC0 := Aside0.mk hc0
 clear hr0 hc0
 have H : (cohousingref28_empty.l0 k l0 0) = some r := h
 clear h
 have H' := Aside0.mk H
 clear H
 go_enter Try.func47, Try.ntmps47
 go_wp2
 repeat (go_quiet (fail); try go_wp2)
 go_loopg [3] k (fun kq v3 w' => ∃ (x3_1 : Int), v3 = .int .i64 x3_1 ∧ Aside0 (cohousingref28_empty.l0 kq l0 x3_1 = some r) ∧ Aside0 (kq ≤ k) ∧ Drawn0 w w')
 case atStart => exact ⟨(0), (by first | rfl | (simp; done) | (simp [*]; done)), H', ⟨Nat.le_refl _⟩, by repeat (first | exact Drawn0.refl _ | apply Drawn0.step)⟩
 case round =>
  clear H'
  obtain ⟨x3_1, rfl, HA, HK1, ⟨m1, rfl⟩⟩ := hrel
  cases gk with
  | zero => exact absurd HA.out (by simp [cohousingref28_empty.l0])
  | succ k1 =>
   have H := HA.out
   clear HA
   simp only [cohousingref28_empty.l0] at H
   by_cases c2 : x3_1 < (l0.length : Int)
   ·rw [if_pos c2] at H
    have c2b0 : decide (x3_1 < (l0.length : Int)) = true := decide_eq_true c2
    clear c2
    by_cases c3 : 0 ≤ x3_1
    ·rw [if_pos c3] at H
     have c3b0 : decide (0 ≤ x3_1) = true := decide_eq_true c3
     clear c3
     by_cases c4 : ((rd_T39 l0 x3_1).f0) > ((rd_T39 l0 x3_1).f1)
     ·rw [if_pos c4] at H
      have c4b0 : decide (((rd_T39 l0 x3_1).f1) < ((rd_T39 l0 x3_1).f0)) = true := decide_eq_true c4
      clear c4
      obtain rfl := Option.some.inj H
      have p201 : 0 ≤ (x3_1 : Int) := of_decide_eq_true (by first | (with_reducible assumption) | assumption)
      have q201 : x3_1 < (l0.length : Int) := of_decide_eq_true (by first | (with_reducible assumption) | assumption)
      obtain ⟨ad201, e201, hx201_0, hx201_1⟩ := at_T39 HR0.out x3_1 p201 q201
      cases e201
      replace p201 := eq_true p201
      replace q201 := eq_true q201
      have p202 : 0 ≤ (x3_1 : Int) := of_decide_eq_true (by first | (with_reducible assumption) | assumption)
      have q202 : x3_1 < (l0.length : Int) := of_decide_eq_true (by first | (with_reducible assumption) | assumption)
      obtain ⟨ad202, e202, hx202_0, hx202_1⟩ := at_T39 HR0.out x3_1 p202 q202
      obtain rfl : ad201 = ad202 := (by injection e202)
      replace p202 := eq_true p202
      replace q202 := eq_true q202
      go_wp2
      repeat (go_quiet (fail); try go_wp2)
      go_ret
      exact ⟨by first | rfl | (simp; done) | (simp [*]; done), by repeat (first | exact Drawn0.refl _ | apply Drawn0.step)⟩
     ·rw [if_neg c4] at H
      have c4b0 : decide (((rd_T39 l0 x3_1).f1) < ((rd_T39 l0 x3_1).f0)) = false := decide_eq_false c4
      clear c4
      have H' := Aside0.mk H
      clear H
      have p201 : 0 ≤ (x3_1 : Int) := of_decide_eq_true (by first | (with_reducible assumption) | assumption)
      have q201 : x3_1 < (l0.length : Int) := of_decide_eq_true (by first | (with_reducible assumption) | assumption)
      obtain ⟨ad201, e201, hx201_0, hx201_1⟩ := at_T39 HR0.out x3_1 p201 q201
      cases e201
      replace p201 := eq_true p201
      replace q201 := eq_true q201
      have p202 : 0 ≤ (x3_1 : Int) := of_decide_eq_true (by first | (with_reducible assumption) | assumption)
      have q202 : x3_1 < (l0.length : Int) := of_decide_eq_true (by first | (with_reducible assumption) | assumption)
      obtain ⟨ad202, e202, hx202_0, hx202_1⟩ := at_T39 HR0.out x3_1 p202 q202
      obtain rfl : ad201 = ad202 := (by injection e202)
      replace p202 := eq_true p202
      replace q202 := eq_true q202
      go_wp2
      repeat (go_quiet (fail); try go_wp2)
      go_roundg k1
      case measure => have := HK1.out; omega
      case rel => exact ⟨(wrap64 (x3_1 + 1)), (by first | rfl | (simp; done) | (simp [*]; done)), H', ⟨by have := HK1.out; omega⟩, by repeat (first | exact Drawn0.refl _ | apply Drawn0.step)⟩
    ·rw [if_neg c3] at H
     exact absurd H (by simp)
   ·rw [if_neg c2] at H
    have c2b0 : decide (x3_1 < (l0.length : Int)) = false := decide_eq_false c2
    clear c2
    obtain rfl := Option.some.inj H
    go_wp2
    repeat (go_quiet (fail); try go_wp2)
    go_ret
    exact ⟨by first | rfl | (simp; done) | (simp [*]; done), by repeat (first | exact Drawn0.refl _ | apply Drawn0.step)⟩
end Go.Proofs.Ytmojlpafpeeelaa.P
end
section
namespace Go.Proofs.Ytmojlpafpeeelaa.P
open Go.RowKit Go.Proofs.YtmojlpafpeeelaaW.PrintWords Go.Proofs.YtmojlpafpeeelaaW.PrintLast Go.Proofs.YtmojlpafpeeelaaW.PrintMore
attribute [local go_sem] max2_int min2_int max_two min_two max_three min_three max_four min_four
set_option linter.unusedVariables false
set_option linter.unusedSimpArgs false
def cohousingref28_below.l0 : Nat → List (S44) → Int → List Int → Int → Option (List Int)
 | 0, _, _, _, _ => none
 | k + 1, x0, x1, x5, x6 => if x6 < (x0.length : Int) then (if 0 ≤ x6 then (if 0 ≤ x1 then (if x1 < (x0.length : Int) then (if ((rd_T44 x0 x6).f1) = ((rd_T44 x0 x1).f0) then (if x5.length < 17592186044416 then (cohousingref28_below.l0 k x0 x1 (x5 ++ [x6]) (wrap64 (x6 + 1))) else (none)) else (cohousingref28_below.l0 k x0 x1 x5 (wrap64 (x6 + 1)))) else (none)) else (none)) else (none)) else (some x5)
def cohousingref28_below.f (k : Nat) (l0 : List (S44)) (a1 : Int) : Option (List Int) := cohousingref28_below.l0 k l0 a1 ([] : List Int) (wrap64 (a1 + 1))
set_option maxHeartbeats 8000000 in
set_option maxRecDepth 100000 in
theorem cohousingref28_below.calls (k : Nat) (A0 : Option Addr) (c0 : Nat) (l0 : List (S44)) (a1 : Int) (r : List Int) (w : World) (hr0 : Kd.C k44 w A0 l0.length l0) (hc0 : l0.length ≤ c0) (h : cohousingref28_below.f k l0 a1 = some r) :
  Calls Try.prog 36 #[.slice A0 l0.length c0, .int .i64 a1] w fun e w' => ∃ v0_ : Value, e = .returned (v0_) ∧ Kd.R (Kd.int .i64) 3 w' w.heap.size (fun _ => True) v0_ r ∧ Below w.heap.size w w' := by
 have HR0 := Aside0.mk hr0
 have HC0 := Aside0.mk hc0
 clear hr0 hc0
 have HB := Aside0.mk (Below.refl w.heap.size w)
 have H : (cohousingref28_below.l0 k l0 a1 ([] : List Int) (wrap64 (a1 + 1))) = some r := h
 clear h
 have H' := Aside0.mk H
 clear H
 go_enter Try.func36, Try.ntmps36
 go_wp2
 repeat (go_quiet (fail); try go_wp2)
 go_loopg [5, 6] k (fun kq v5 v6 w' => ∃ (x5_1 : List Int) (x6_1 : Int), v6 = .int .i64 x6_1 ∧ Aside0 (cohousingref28_below.l0 kq l0 a1 x5_1 x6_1 = some r) ∧ Aside0 (kq ≤ k) ∧ Aside0 (Kd.R (Kd.int .i64) 3 w' w.heap.size (fun _ => True) v5 x5_1) ∧ Aside0 (Below w.heap.size w w'))
 case atStart => exact ⟨(([] : List Int)), (wrap64 (a1 + 1)), (by first | rfl | (simp; done) | (simp [*]; done)), H', ⟨Nat.le_refl _⟩, ⟨by first | exact Kd.R_nil _ _ _ _ _ | exact Kd.N_nil _ _ _ _ _ | exact Kd.V_nil _ _ _ _ _ | exact Kd.Q_nil _ _ _ _ _ | exact Kd.S_nil _ _ _ _ _⟩, ⟨by repeat (first | (with_reducible first | exact HB.out | apply below_alloc | apply pw_below_drewN | apply below_drew1) | exact HB.out)⟩⟩
 case round =>
  clear H'
  try clear p2
  obtain ⟨x5_1, x6_1, rfl, HA, HK1, HO_5, HB⟩ := hrel
  cases gk with
  | zero => exact absurd HA.out (by simp [cohousingref28_below.l0])
  | succ k1 =>
   have H := HA.out
   clear HA
   simp only [cohousingref28_below.l0] at H
   by_cases c3 : x6_1 < (l0.length : Int)
   ·rw [if_pos c3] at H
    have c3b0 : decide (x6_1 < (l0.length : Int)) = true := decide_eq_true c3
    clear c3
    by_cases c4 : 0 ≤ x6_1
    ·rw [if_pos c4] at H
     have c4b0 : decide (0 ≤ x6_1) = true := decide_eq_true c4
     clear c4
     by_cases c5 : 0 ≤ a1
     ·rw [if_pos c5] at H
      have c5b0 : decide (0 ≤ a1) = true := decide_eq_true c5
      clear c5
      by_cases c6 : a1 < (l0.length : Int)
      ·rw [if_pos c6] at H
       have c6b0 : decide (a1 < (l0.length : Int)) = true := decide_eq_true c6
       clear c6
       by_cases c7 : ((rd_T44 l0 x6_1).f1) = ((rd_T44 l0 a1).f0)
       ·rw [if_pos c7] at H
        have c7b0 : (((rd_T44 l0 x6_1).f1) == ((rd_T44 l0 a1).f0)) = true := beq_iff_eq.mpr c7
        have c7b1 : (((rd_T44 l0 x6_1).f1) != ((rd_T44 l0 a1).f0)) = false := bne_eq_false_iff_eq.mpr c7
        clear c7
        by_cases c8 : x5_1.length < 17592186044416
        ·rw [if_pos c8] at H
         have LMc8 := Aside0.mk c8
         clear c8
         obtain ⟨y198, hy198⟩ : ∃ y_ : List Int, y_ = (x5_1 ++ [x6_1]) := ⟨_, rfl⟩
         replace H : (cohousingref28_below.l0 k1 l0 a1 y198 (wrap64 (x6_1 + 1))) = some r := by first | (rw [hy198]; with_reducible exact H) | (have H2_ := (Option.bind_some _ _).symm.trans H; rw [hy198]; with_reducible exact H2_) | (have H2_ := (Option.bind_some _ _).symm.trans H; with_reducible exact H2_) | with_reducible exact H | (rw [hy198]; exact H) | exact H
         have Ny198 := Aside0.mk hy198
         clear hy198
         have H' := Aside0.mk H
         clear H
         have p196 : 0 ≤ (x6_1 : Int) := of_decide_eq_true (by first | (with_reducible assumption) | assumption)
         have q196 : x6_1 < (l0.length : Int) := of_decide_eq_true (by first | (with_reducible assumption) | assumption)
         obtain ⟨ad196, e196, hx196_0, hx196_1, hx196_2⟩ := at_T44 HR0.out x6_1 p196 q196
         cases e196
         replace hx196_0 := (HB.out.cell (World.block_lt_of_cell? w _ hx196_0)).trans hx196_0
         replace hx196_1 := (HB.out.cell (World.block_lt_of_cell? w _ hx196_1)).trans hx196_1
         replace hx196_2 := (HB.out.cell (World.block_lt_of_cell? w _ hx196_2)).trans hx196_2
         replace p196 := eq_true p196
         replace q196 := eq_true q196
         have p197 : 0 ≤ (a1 : Int) := of_decide_eq_true (by first | (with_reducible assumption) | assumption)
         have q197 : a1 < (l0.length : Int) := of_decide_eq_true (by first | (with_reducible assumption) | assumption)
         obtain ⟨ad197, e197, hx197_0, hx197_1, hx197_2⟩ := at_T44 HR0.out a1 p197 q197
         obtain rfl : ad196 = ad197 := (by injection e197)
         replace hx197_0 := (HB.out.cell (World.block_lt_of_cell? w _ hx197_0)).trans hx197_0
         replace hx197_1 := (HB.out.cell (World.block_lt_of_cell? w _ hx197_1)).trans hx197_1
         replace hx197_2 := (HB.out.cell (World.block_lt_of_cell? w _ hx197_2)).trans hx197_2
         replace p197 := eq_true p197
         replace q197 := eq_true q197
         go_wp2_with (first | ((with_reducible refine gate_builtin (b := .append) (xs := #[.tmp 26, .tmp 28]) rfl ?_); at_builtin; refine Kd.R_append (Kd.int .i64) (w0 := w) w.heap.size rfl (.tmp 26) (.tmp 28) 24 3 (.int .i64 0) 8 rfl Try.underlying24 info3 rfl (by decide) (by omega) u5 x5_1 x6_1 [.int .i64 x6_1] (fun _ => True) (fun _ => False) rfl rfl ?aP (fun _ hk => hk.elim) ?aF ?aO ?aB ?aS ?aL ?_; (case aP => exact rfl); (case aB => exact (by repeat (first | (with_reducible first | exact HB.out | apply below_alloc | apply pw_below_drewN | apply below_drew1) | exact HB.out))); (case aF => exact (fun _ _ => trivial)); (case aO => exact (by (with_reducible repeat (first | apply Kd.R_alloc | apply Kd.R_drewN | apply Kd.R_drew)); exact HO_5.out)); (case aS => exact (below_size (by repeat (first | (with_reducible first | exact HB.out | apply below_alloc | apply pw_below_drewN | apply below_drew1) | exact HB.out)))); (case aL => have := LMc8.out; omega); intro v199 w9 ho hb hg hat; rw [← Ny198.out] at ho; have n0_ := Aside0.mk (hb); have n1_ := Aside0.mk (ho); clear HB; clear HO_5; have HB := n0_; have HO200 := n1_; clear n0_ n1_; clear ho hb hg hat))
         repeat (go_quiet (first | ((with_reducible refine gate_builtin (b := .append) (xs := #[.tmp 26, .tmp 28]) rfl ?_); at_builtin; refine Kd.R_append (Kd.int .i64) (w0 := w) w.heap.size rfl (.tmp 26) (.tmp 28) 24 3 (.int .i64 0) 8 rfl Try.underlying24 info3 rfl (by decide) (by omega) u5 x5_1 x6_1 [.int .i64 x6_1] (fun _ => True) (fun _ => False) rfl rfl ?aP (fun _ hk => hk.elim) ?aF ?aO ?aB ?aS ?aL ?_; (case aP => exact rfl); (case aB => exact (by repeat (first | (with_reducible first | exact HB.out | apply below_alloc | apply pw_below_drewN | apply below_drew1) | exact HB.out))); (case aF => exact (fun _ _ => trivial)); (case aO => exact (by (with_reducible repeat (first | apply Kd.R_alloc | apply Kd.R_drewN | apply Kd.R_drew)); exact HO_5.out)); (case aS => exact (below_size (by repeat (first | (with_reducible first | exact HB.out | apply below_alloc | apply pw_below_drewN | apply below_drew1) | exact HB.out)))); (case aL => have := LMc8.out; omega); intro v199 w9 ho hb hg hat; rw [← Ny198.out] at ho; have n0_ := Aside0.mk (hb); have n1_ := Aside0.mk (ho); clear HB; clear HO_5; have HB := n0_; have HO200 := n1_; clear n0_ n1_; clear ho hb hg hat)); try go_wp2_with (first | ((with_reducible refine gate_builtin (b := .append) (xs := #[.tmp 26, .tmp 28]) rfl ?_); at_builtin; refine Kd.R_append (Kd.int .i64) (w0 := w) w.heap.size rfl (.tmp 26) (.tmp 28) 24 3 (.int .i64 0) 8 rfl Try.underlying24 info3 rfl (by decide) (by omega) u5 x5_1 x6_1 [.int .i64 x6_1] (fun _ => True) (fun _ => False) rfl rfl ?aP (fun _ hk => hk.elim) ?aF ?aO ?aB ?aS ?aL ?_; (case aP => exact rfl); (case aB => exact (by repeat (first | (with_reducible first | exact HB.out | apply below_alloc | apply pw_below_drewN | apply below_drew1) | exact HB.out))); (case aF => exact (fun _ _ => trivial)); (case aO => exact (by (with_reducible repeat (first | apply Kd.R_alloc | apply Kd.R_drewN | apply Kd.R_drew)); exact HO_5.out)); (case aS => exact (below_size (by repeat (first | (with_reducible first | exact HB.out | apply below_alloc | apply pw_below_drewN | apply below_drew1) | exact HB.out)))); (case aL => have := LMc8.out; omega); intro v199 w9 ho hb hg hat; rw [← Ny198.out] at ho; have n0_ := Aside0.mk (hb); have n1_ := Aside0.mk (ho); clear HB; clear HO_5; have HB := n0_; have HO200 := n1_; clear n0_ n1_; clear ho hb hg hat)))
         go_roundg k1
         case measure => have := HK1.out; omega
         case rel => exact ⟨(y198), (wrap64 (x6_1 + 1)), (by first | rfl | (simp; done) | (simp [*]; done)), H', ⟨by have := HK1.out; omega⟩, ⟨by (with_reducible repeat (first | apply Kd.R_alloc | apply Kd.R_drewN | apply Kd.R_drew)); exact HO200.out⟩, ⟨by repeat (first | (with_reducible first | exact HB.out | apply below_alloc | apply pw_below_drewN | apply below_drew1) | exact HB.out)⟩⟩
        ·rw [if_neg c8] at H
         exact absurd H (by simp)
       ·rw [if_neg c7] at H
        have c7b0 : (((rd_T44 l0 x6_1).f1) == ((rd_T44 l0 a1).f0)) = false := beq_eq_false_iff_ne.mpr c7
        have c7b1 : (((rd_T44 l0 x6_1).f1) != ((rd_T44 l0 a1).f0)) = true := bne_iff_ne.mpr c7
        have H' := Aside0.mk H
        clear H
        have p196 : 0 ≤ (x6_1 : Int) := of_decide_eq_true (by first | (with_reducible assumption) | assumption)
        have q196 : x6_1 < (l0.length : Int) := of_decide_eq_true (by first | (with_reducible assumption) | assumption)
        obtain ⟨ad196, e196, hx196_0, hx196_1, hx196_2⟩ := at_T44 HR0.out x6_1 p196 q196
        cases e196
        replace hx196_0 := (HB.out.cell (World.block_lt_of_cell? w _ hx196_0)).trans hx196_0
        replace hx196_1 := (HB.out.cell (World.block_lt_of_cell? w _ hx196_1)).trans hx196_1
        replace hx196_2 := (HB.out.cell (World.block_lt_of_cell? w _ hx196_2)).trans hx196_2
        replace p196 := eq_true p196
        replace q196 := eq_true q196
        have p197 : 0 ≤ (a1 : Int) := of_decide_eq_true (by first | (with_reducible assumption) | assumption)
        have q197 : a1 < (l0.length : Int) := of_decide_eq_true (by first | (with_reducible assumption) | assumption)
        obtain ⟨ad197, e197, hx197_0, hx197_1, hx197_2⟩ := at_T44 HR0.out a1 p197 q197
        obtain rfl : ad196 = ad197 := (by injection e197)
        replace hx197_0 := (HB.out.cell (World.block_lt_of_cell? w _ hx197_0)).trans hx197_0
        replace hx197_1 := (HB.out.cell (World.block_lt_of_cell? w _ hx197_1)).trans hx197_1
        replace hx197_2 := (HB.out.cell (World.block_lt_of_cell? w _ hx197_2)).trans hx197_2
        replace p197 := eq_true p197
        replace q197 := eq_true q197
        go_wp2
        repeat (go_quiet (fail); try go_wp2)
        go_roundg k1
        case measure => have := HK1.out; omega
        case rel => exact ⟨(x5_1), (wrap64 (x6_1 + 1)), (by first | rfl | (simp; done) | (simp [*]; done)), H', ⟨by have := HK1.out; omega⟩, ⟨by (with_reducible repeat (first | apply Kd.R_alloc | apply Kd.R_drewN | apply Kd.R_drew)); exact HO_5.out⟩, ⟨by repeat (first | (with_reducible first | exact HB.out | apply below_alloc | apply pw_below_drewN | apply below_drew1) | exact HB.out)⟩⟩
      ·rw [if_neg c6] at H
       exact absurd H (by simp)
     ·rw [if_neg c5] at H
      exact absurd H (by simp)
    ·rw [if_neg c4] at H
     exact absurd H (by simp)
   ·rw [if_neg c3] at H
    have c3b0 : decide (x6_1 < (l0.length : Int)) = false := decide_eq_false c3
    clear c3
    obtain rfl := Option.some.inj H
    go_wp2
    repeat (go_quiet (fail); try go_wp2)
    go_ret
    exact ⟨_, by first | rfl | (simp [errW_none, errW_some] <;> rfl) | (simp [*, errW_none, errW_some] <;> rfl), by (with_reducible repeat (first | apply Kd.R_alloc | apply Kd.R_drewN | apply Kd.R_drew)); exact HO_5.out, by repeat (first | (with_reducible first | exact HB.out | apply below_alloc | apply pw_below_drewN | apply below_drew1) | exact HB.out)⟩
end Go.Proofs.Ytmojlpafpeeelaa.P
end
section
namespace Go.Proofs.Ytmojlpafpeeelaa.P
open Go.RowKit Go.Proofs.YtmojlpafpeeelaaW.PrintWords Go.Proofs.YtmojlpafpeeelaaW.PrintLast Go.Proofs.YtmojlpafpeeelaaW.PrintMore
attribute [local go_sem] max2_int min2_int max_two min_two max_three min_three max_four min_four
set_option linter.unusedVariables false
set_option linter.unusedSimpArgs false
def cohousingref28_narrow.f (a0_0 : Int) (a0_1 : Int) (a1 : Int) (a2 : Int) : Option (Int × Int) := some (mx a0_0 a1, mn a0_1 a2)
set_option maxHeartbeats 8000000 in
set_option maxRecDepth 100000 in
theorem cohousingref28_narrow.calls (a0_0 : Int) (a0_1 : Int) (a1 : Int) (a2 : Int) (r1 : Int) (r2 : Int) (w : World) (h : cohousingref28_narrow.f a0_0 a0_1 a1 a2 = some (r1, r2)) :
  Calls Try.prog 54 #[.agg #[.int .i64 a0_0, .int .i64 a0_1], .int .i64 a1, .int .i64 a2] w fun e w' => e = .returned (.agg #[.int .i64 r1, .int .i64 r2]) ∧ Below w.heap.size w w' := by
 have hu39 := Try.underlying39
 have HB := Aside0.mk (Below.refl w.heap.size w)
 have H : (some (mx a0_0 a1, mn a0_1 a2)) = some (r1, r2) := h
 clear h
 obtain ⟨ji4, hji4⟩ : ∃ j_ : Int, (mx a0_0 a1) = j_ := ⟨_, rfl⟩
 replace H : (some (ji4, mn a0_1 a2)) = some (r1, r2) := by first | (rw [hji4] at H; exact H) | (simp only [hji4] at H ⊢; exact H)
 have hji4_ : (if a0_0 < a1 then a1 else a0_0) = ji4 := hji4
 obtain ⟨ji5, hji5⟩ : ∃ j_ : Int, (mn a0_1 a2) = j_ := ⟨_, rfl⟩
 replace H : (some (ji4, ji5)) = some (r1, r2) := by first | (rw [hji5] at H; exact H) | (simp only [hji5] at H ⊢; exact H)
 have hji5_ : (if a2 < a0_1 then a2 else a0_1) = ji5 := hji5
 simp only [Option.some.injEq, Prod.mk.injEq] at H
 obtain ⟨rfl, rfl⟩ := H
 go_enter Try.func54, Try.ntmps54
 go_wp2_with (first | ((with_reducible refine gate_dst (N := 3) rfl ?_); refine box_event ?hg (N := 3) ?hd (cs := #[.int .i64 a0_0, .int .i64 a0_1]) (t := 39) ?hr ?_; (case hd => rfl); (case hg => rfl); (case hr => first | (go_simp; done) | (go_simp; rfl)); intro gb203 hg w6 hbox hb; have n0_ := Aside0.mk (below_step (by repeat (first | (with_reducible first | exact HB.out | apply below_alloc | apply pw_below_drewN | apply below_drew1) | exact HB.out)) hb); have n1_ := Aside0.mk (hbox); have n2_ := Aside0.mk ((by rw [hg]; exact (below_size (by repeat (first | (with_reducible first | exact HB.out | apply below_alloc | apply pw_below_drewN | apply below_drew1) | exact HB.out))) : w.heap.size ≤ gb203)); have n3_ := Aside0.mk ((by rw [hg]; exact (below_size (by repeat (first | (with_reducible first | exact HB.out | apply below_alloc | apply pw_below_drewN | apply below_drew1) | exact HB.out))) : w.heap.size ≤ gb203)); clear HB; have HB := n0_; have BK203 := n1_; have GW203 := n2_; have GE203 := n3_; clear n0_ n1_ n2_ n3_; clear hb hbox hg) | ((with_reducible refine gate_dst (N := 6) rfl ?_); refine box_event ?hg (N := 6) ?hd (cs := #[.int .i64 0, .int .i64 0]) (t := 39) ?hr ?_; (case hd => rfl); (case hg => rfl); (case hr => first | (go_simp; done) | (go_simp; rfl)); intro gb204 hg w7 hbox hb; have n0_ := Aside0.mk (blk_below (g := gb203) (o := .cells #[.int .i64 a0_0, .int .i64 a0_1] 39 (0, 0)) (by (with_reducible repeat (first | refine blk_drewN ?_ _ | refine blk_drew ?_ | refine blk_alloc ?_ _)); exact BK203.out) hb); have n1_ := Aside0.mk (below_step (by repeat (first | (with_reducible first | exact HB.out | apply below_alloc | apply pw_below_drewN | apply below_drew1 | refine below_set ?_ GE203.out) | exact HB.out)) hb); have n2_ := Aside0.mk (hbox); have n3_ := Aside0.mk ((by rw [hg]; exact (below_size (by repeat (first | (with_reducible first | exact HB.out | apply below_alloc | apply pw_below_drewN | apply below_drew1 | refine below_set ?_ GE203.out) | exact HB.out))) : w.heap.size ≤ gb204)); have n4_ := Aside0.mk ((by rw [hg]; exact (below_size (by repeat (first | (with_reducible first | exact HB.out | apply below_alloc | apply pw_below_drewN | apply below_drew1 | refine below_set ?_ GE203.out) | exact HB.out))) : w.heap.size ≤ gb204)); have n5_ := Aside0.mk ((by rw [hg]; exact Nat.ne_of_lt (blk_lt (g := gb203) (o := .cells #[.int .i64 a0_0, .int .i64 a0_1] 39 (0, 0)) (by (with_reducible repeat (first | refine blk_drewN ?_ _ | refine blk_drew ?_ | refine blk_alloc ?_ _)); exact BK203.out)) : gb203 ≠ gb204)); have n6_ := Aside0.mk ((by rw [hg]; exact Nat.ne_of_gt (blk_lt (g := gb203) (o := .cells #[.int .i64 a0_0, .int .i64 a0_1] 39 (0, 0)) (by (with_reducible repeat (first | refine blk_drewN ?_ _ | refine blk_drew ?_ | refine blk_alloc ?_ _)); exact BK203.out)) : gb204 ≠ gb203)); clear BK203; clear HB; have BK203 := n0_; have HB := n1_; have BK204 := n2_; have GW204 := n3_; have GE204 := n4_; have NB203_204 := n5_; have NB204_203 := n6_; clear n0_ n1_ n2_ n3_ n4_ n5_ n6_; clear hb hbox hg; have hnb8 := NB203_204.out; have hnc8 := NB204_203.out; have hcz9_0 : w7.cell? ⟨gb203, 0, none⟩ = some (.int .i64 a0_0) := (blk_cell BK203.out 0).trans rfl; have hcz9_1 : w7.cell? ⟨gb203, 1, none⟩ = some (.int .i64 a0_1) := (blk_cell BK203.out 1).trans rfl; have hfz9_0 := blk_frozen BK203.out 0; have hfz9_1 := blk_frozen BK203.out 1; have hcz10_0 : w7.cell? ⟨gb204, 0, none⟩ = some (.int .i64 0) := (blk_cell BK204.out 0).trans rfl; have hcz10_1 : w7.cell? ⟨gb204, 1, none⟩ = some (.int .i64 0) := (blk_cell BK204.out 1).trans rfl; have hfz10_0 := blk_frozen BK204.out 0; have hfz10_1 := blk_frozen BK204.out 1))
 refine bodyPost_ret (results_cell_row rfl _ _ gb204 39 #[.int .i64 ji4, .int .i64 ji5] (0, 0) _ rfl (by (with_reducible repeat (first | refine blk_drewN ?_ _ | refine blk_drew ?_ | refine blk_alloc ?_ _)); refine blk_put (cs := #[.int .i64 ji4, .int .i64 0]) ?_ 1 _ rfl; (with_reducible repeat (first | refine blk_drewN ?_ _ | refine blk_drew ?_ | refine blk_alloc ?_ _)); refine blk_put (cs := #[.int .i64 0, .int .i64 0]) ?_ 0 _ rfl; (with_reducible repeat (first | refine blk_drewN ?_ _ | refine blk_drew ?_ | refine blk_alloc ?_ _)); exact BK204.out) Try.underlying39 rfl (by kernel_rfl)) rfl ?_
 exact ⟨by first | rfl | (simp [errW_none, errW_some] <;> rfl) | (simp only [← hji4, ← hji5]; first | rfl | (simp [errW_none, errW_some] <;> rfl)) | (simp [*, errW_none, errW_some] <;> rfl), by repeat (first | (with_reducible first | exact HB.out | apply below_alloc | apply pw_below_drewN | apply below_drew1 | refine below_set ?_ GE203.out | refine below_set ?_ GE204.out) | exact HB.out)⟩
end Go.Proofs.Ytmojlpafpeeelaa.P
end
