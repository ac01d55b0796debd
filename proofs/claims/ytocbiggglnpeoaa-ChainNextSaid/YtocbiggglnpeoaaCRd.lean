/- Part 4 of the base that the seat's proofs share: words, walks and plain laws. -/
import Derived.ArgAppend
import Derived.Below
import Derived.BigQuiet
import Derived.ChangeOld
import Derived.ChangeSlices
import Derived.Deep.AppendLies
import Derived.Deep.CutBlock
import Derived.Deep.DeepCutAuto
import Derived.Deep.Draws
import Derived.Deep.LoopGhost
import Derived.Deep.OwnRows
import Derived.Deep.QuietTactic
import Derived.Deep.RegionHeld3
import Derived.Deep.Slices
import Derived.KernelRfl
import Derived.Laws.BitsLemmas
import Derived.Laws.BytesArg
import Derived.Laws.IdiomCopy
import Derived.Laws.MakeOwn
import Derived.Laws.OwnMore
import Derived.Laws.Rows
import Derived.Laws.Slices
import Derived.Laws.StructEq
import Derived.Lib.AppendStr
import Derived.Lib.BufferOwn
import Derived.Lib.ConvBytes
import Derived.Lib.SliceRun
import Derived.LoopIn
import Derived.LoopNIn
import Derived.Maps.AppendAt
import Derived.Maps.Own
import Derived.OpenShut
import Derived.OrdersHeld
import Derived.OwnWalk
import Derived.OwnWalkIn
import Derived.ProofKit
import Derived.RangeFuncBound
import Derived.RangeFuncCalls
import Derived.RangeFuncLeaves
import Derived.RangeFuncNested
import Derived.RowKit
import Derived.RowKit3
import Derived.ShutString
import Derived.SizedLaws
import Derived.Tactics
import Derived.TacticsInMore
import Derived.Test.YtocbiggglnpeoaaProg
import Derived.WalkKit
import Derived.WideLaws
import Derived.Test.YtocbiggglnpeoaaCRc
set_option linter.unusedVariables false
set_option linter.unusedSimpArgs false
section
namespace Go.Proofs.Ytocbiggglnpeoaa.P
open Go.RowKit Go.Proofs.YtocbiggglnpeoaaW.PrintWords Go.Proofs.YtocbiggglnpeoaaW.PrintLast Go.Proofs.YtocbiggglnpeoaaW.PrintMore
attribute [local go_sem] max2_int min2_int max_two min_two max_three min_three max_four min_four
set_option linter.unusedVariables false
set_option linter.unusedSimpArgs false
set_option maxHeartbeats 8000000
set_option maxRecDepth 100000
section
mutual
def cohousingref23_Valid.j0 : Nat → Bool → List (S84) → List (S46) → Option (Bool)
 | 0, _, _, _ => none
 | k + 1, x20, x214000, x214001 => if x20 = true then (some false) else (cohousingref23_Valid.l0 k 0 x214000 x214001)
def cohousingref23_Valid.l0 : Nat → Int → List (S84) → List (S46) → Option (Bool)
 | 0, _, _, _ => none
 | k + 1, x4, x214000, x214001 => if x4 < (x214001.length : Int) then (if 0 ≤ x4 then (if ((rd_T46 x214001 x4).f0) < 1 then (cohousingref23_Valid.j2 k x4 true x214000 x214001 ((rd_T46 x214001 x4).f0) ((rd_T46 x214001 x4).f1) ((rd_T46 x214001 x4).f2)) else (if ((rd_T46 x214001 x4).f0) > 64 then (cohousingref23_Valid.j2 k x4 true x214000 x214001 ((rd_T46 x214001 x4).f0) ((rd_T46 x214001 x4).f1) ((rd_T46 x214001 x4).f2)) else (if x4 > 0 then (if 0 ≤ (wrap64 (x4 - 1)) then (if (wrap64 (x4 - 1)) < (x214001.length : Int) then (cohousingref23_Valid.j2 k x4 (decide (((rd_T46 x214001 x4).f0) ≤ ((rd_T46 x214001 (wrap64 (x4 - 1))).f0))) x214000 x214001 ((rd_T46 x214001 x4).f0) ((rd_T46 x214001 x4).f1) ((rd_T46 x214001 x4).f2)) else (none)) else (none)) else (cohousingref23_Valid.j2 k x4 false x214000 x214001 ((rd_T46 x214001 x4).f0) ((rd_T46 x214001 x4).f1) ((rd_T46 x214001 x4).f2))))) else (none)) else (some true)
def cohousingref23_Valid.j2 : Nat → Int → Bool → List (S84) → List (S46) → Int → Int → List Int → Option (Bool)
 | 0, _, _, _, _, _, _, _ => none
 | k + 1, x4, x56, x214000, x214001, x217000, x217001, x217002 => if x56 = true then (some false) else ((cohousingref23_Has.f k x214000 x217001).bind fun t218 => (if x217001 = 0 then (cohousingref23_Valid.j3 k x4 false x214000 x214001 x217000 x217001 x217002) else (cohousingref23_Valid.j3 k x4 (!t218) x214000 x214001 x217000 x217001 x217002)))
def cohousingref23_Valid.j3 : Nat → Int → Bool → List (S84) → List (S46) → Int → Int → List Int → Option (Bool)
 | 0, _, _, _, _, _, _, _ => none
 | k + 1, x4, x68, x214000, x214001, x217000, x217001, x217002 => if x68 = true then (some false) else (cohousingref23_Valid.l1 k x4 0 x214000 x214001 x217000 x217001 x217002)
def cohousingref23_Valid.l1 : Nat → Int → Int → List (S84) → List (S46) → Int → Int → List Int → Option (Bool)
 | 0, _, _, _, _, _, _, _ => none
 | k + 1, x4, x7, x214000, x214001, x217000, x217001, x217002 => if x7 < x4 then (if x217001 = 0 then (cohousingref23_Valid.l1 k x4 (wrap64 (x7 + 1)) x214000 x214001 x217000 x217001 x217002) else (if 0 ≤ x7 then (if x7 < (x214001.length : Int) then (if ((rd_T46 x214001 x7).f1) = x217001 then (some false) else (cohousingref23_Valid.l1 k x4 (wrap64 (x7 + 1)) x214000 x214001 x217000 x217001 x217002)) else (none)) else (none))) else (cohousingref23_Valid.l2 k x4 0 x214000 x214001 x217000 x217001 x217002)
def cohousingref23_Valid.l2 : Nat → Int → Int → List (S84) → List (S46) → Int → Int → List Int → Option (Bool)
 | 0, _, _, _, _, _, _, _ => none
 | k + 1, x4, x8, x214000, x214001, x217000, x217001, x217002 => if x8 < (x217002.length : Int) then (if 0 ≤ x8 then ((cohousingref23_Has.f k x214000 (rd x217002 x8)).bind fun t221 => (if t221 = true then ((cohousingref23_In.f k x217002 (rd x217002 x8)).bind fun t223 => (if t223 = x8 then (cohousingref23_Valid.l2 k x4 (wrap64 (x8 + 1)) x214000 x214001 x217000 x217001 x217002) else (some false))) else (some false))) else (none)) else (cohousingref23_Valid.l0 k (wrap64 (x4 + 1)) x214000 x214001)
end
def cohousingref23_Valid.f (k : Nat) (l0_0 : List (S84)) (l0_1 : List (S46)) : Option (Bool) := (cohousingref23_Flats.f k l0_0).bind fun t214 => (if t214 = true then (cohousingref23_Valid.j0 k (decide ((l0_1.length : Int) > 64)) l0_0 l0_1) else (cohousingref23_Valid.j0 k true l0_0 l0_1))
theorem cohousingref23_Valid.calls (k : Nat) (A0_0 : Option Addr) (c0_0 : Nat) (l0_0 : List (S84)) (A0_1 : Option Addr) (c0_1 : Nat) (l0_1 : List (S46)) (r : Bool) (w : World) (hr0_0 : Kd.C k84 w A0_0 l0_0.length l0_0) (hc0_0 : l0_0.length ≤ c0_0) (hr0_1 : Kd.C k46 w A0_1 l0_1.length l0_1) (hc0_1 : l0_1.length ≤ c0_1) (h : cohousingref23_Valid.f k l0_0 l0_1 = some r) :
  Calls Try.prog 25 #[.agg #[.slice A0_0 l0_0.length c0_0, .slice A0_1 l0_1.length c0_1]] w fun e w' => e = .returned (.bool r) ∧ Below w.heap.size w w' := by
 have hu25 := Try.underlying25
 have hu46 := Try.underlying46
 have HR0_0 := Aside0.mk hr0_0
 have HC0_0 := Aside0.mk hc0_0
 clear hr0_0 hc0_0
 have HR0_1 := Aside0.mk hr0_1
 have HC0_1 := Aside0.mk hc0_1
 clear hr0_1 hc0_1
 have HB := Aside0.mk (Below.refl w.heap.size w)
 have H : ((cohousingref23_Flats.f k l0_0).bind fun t214 => (if t214 = true then (cohousingref23_Valid.j0 k (decide ((l0_1.length : Int) > 64)) l0_0 l0_1) else (cohousingref23_Valid.j0 k true l0_0 l0_1))) = some r := h
 clear h
 replace H := Option.bind_eq_some_iff.mp H
 obtain ⟨t214, A20, H⟩ := H
 replace H : (if t214 = true then (cohousingref23_Valid.j0 k (decide ((l0_1.length : Int) > 64)) l0_0 l0_1) else (cohousingref23_Valid.j0 k true l0_0 l0_1)) = some r := H
 have A2 := Aside0.mk A20
 clear A20
 have HC3 := Aside0.mk H
 clear H
 go_enter Try.func25, Try.ntmps25
 go_upto_region 2 with (first | ((with_reducible refine gate_dst (N := 1) rfl ?_); (try (refine gate_guard (by rfl) ?_; dsimp only)); refine box_event ?hg (N := 1) ?hd (cs := #[.slice A0_0 l0_0.length c0_0, .slice A0_1 l0_1.length c0_1]) (t := 25) ?hr ?_; (case hd => rfl); (case hg => rfl); (case hr => first | (go_simp; done) | (go_simp; rfl)); intro gb213 hg w4 hbox hb; have n0_ := Aside0.mk (below_step (bb_ HB) hb); have n1_ := Aside0.mk (hbox); have n2_ := Aside0.mk ((by rw [hg]; exact (below_size (bb_ HB)) : w.heap.size ≤ gb213)); have n3_ := Aside0.mk ((by rw [hg]; exact (below_size (bb_ HB)) : w.heap.size ≤ gb213)); clear HB; have HB := n0_; have BK213 := n1_; have GW213 := n2_; have GE213 := n3_; clear n0_ n1_ n2_ n3_; clear hb hbox hg; have hcz5_0 : w4.cell? ⟨gb213, 0, none⟩ = some (.slice A0_0 l0_0.length c0_0) := (blk_cell BK213.out 0).trans rfl; have hcz5_1 : w4.cell? ⟨gb213, 1, none⟩ = some (.slice A0_1 l0_1.length c0_1) := (blk_cell BK213.out 1).trans rfl; have hfz5_0 := blk_frozen BK213.out 0; have hfz5_1 := blk_frozen BK213.out 1) | (go_at_call 44; (with_reducible refine (cohousingref23_Flats.calls k _ _ l0_0 t214 _ ?side1 ?side2 A2.out).mono ?_); (case side1 => exact cc_ ((Kd.C_below HR0_0.out HB.out))); (case side2 => exact HC0_0.out); rintro e w' ⟨rfl, ⟨nd, rfl⟩⟩; (try first | exact ⟨rfl, _, World.drewN_drewN _ _ _⟩ | exact ⟨rfl, _, Eq.trans (World.drewN_drewN _ _ _) (congrArg (World.drewN _) (Nat.add_assoc _ _ _))⟩)))
 repeat (go_quiet (first | ((with_reducible refine gate_dst (N := 1) rfl ?_); (try (refine gate_guard (by rfl) ?_; dsimp only)); refine box_event ?hg (N := 1) ?hd (cs := #[.slice A0_0 l0_0.length c0_0, .slice A0_1 l0_1.length c0_1]) (t := 25) ?hr ?_; (case hd => rfl); (case hg => rfl); (case hr => first | (go_simp; done) | (go_simp; rfl)); intro gb213 hg w4 hbox hb; have n0_ := Aside0.mk (below_step (bb_ HB) hb); have n1_ := Aside0.mk (hbox); have n2_ := Aside0.mk ((by rw [hg]; exact (below_size (bb_ HB)) : w.heap.size ≤ gb213)); have n3_ := Aside0.mk ((by rw [hg]; exact (below_size (bb_ HB)) : w.heap.size ≤ gb213)); clear HB; have HB := n0_; have BK213 := n1_; have GW213 := n2_; have GE213 := n3_; clear n0_ n1_ n2_ n3_; clear hb hbox hg; have hcz5_0 : w4.cell? ⟨gb213, 0, none⟩ = some (.slice A0_0 l0_0.length c0_0) := (blk_cell BK213.out 0).trans rfl; have hcz5_1 : w4.cell? ⟨gb213, 1, none⟩ = some (.slice A0_1 l0_1.length c0_1) := (blk_cell BK213.out 1).trans rfl; have hfz5_0 := blk_frozen BK213.out 0; have hfz5_1 := blk_frozen BK213.out 1) | (go_at_call 44; (with_reducible refine (cohousingref23_Flats.calls k _ _ l0_0 t214 _ ?side1 ?side2 A2.out).mono ?_); (case side1 => exact cc_ ((Kd.C_below HR0_0.out HB.out))); (case side2 => exact HC0_0.out); rintro e w' ⟨rfl, ⟨nd, rfl⟩⟩; (try first | exact ⟨rfl, _, World.drewN_drewN _ _ _⟩ | exact ⟨rfl, _, Eq.trans (World.drewN_drewN _ _ _) (congrArg (World.drewN _) (Nat.add_assoc _ _ _))⟩))); go_upto_region 2 with (first | ((with_reducible refine gate_dst (N := 1) rfl ?_); (try (refine gate_guard (by rfl) ?_; dsimp only)); refine box_event ?hg (N := 1) ?hd (cs := #[.slice A0_0 l0_0.length c0_0, .slice A0_1 l0_1.length c0_1]) (t := 25) ?hr ?_; (case hd => rfl); (case hg => rfl); (case hr => first | (go_simp; done) | (go_simp; rfl)); intro gb213 hg w4 hbox hb; have n0_ := Aside0.mk (below_step (bb_ HB) hb); have n1_ := Aside0.mk (hbox); have n2_ := Aside0.mk ((by rw [hg]; exact (below_size (bb_ HB)) : w.heap.size ≤ gb213)); have n3_ := Aside0.mk ((by rw [hg]; exact (below_size (bb_ HB)) : w.heap.size ≤ gb213)); clear HB; have HB := n0_; have BK213 := n1_; have GW213 := n2_; have GE213 := n3_; clear n0_ n1_ n2_ n3_; clear hb hbox hg; have hcz5_0 : w4.cell? ⟨gb213, 0, none⟩ = some (.slice A0_0 l0_0.length c0_0) := (blk_cell BK213.out 0).trans rfl; have hcz5_1 : w4.cell? ⟨gb213, 1, none⟩ = some (.slice A0_1 l0_1.length c0_1) := (blk_cell BK213.out 1).trans rfl; have hfz5_0 := blk_frozen BK213.out 0; have hfz5_1 := blk_frozen BK213.out 1) | (go_at_call 44; (with_reducible refine (cohousingref23_Flats.calls k _ _ l0_0 t214 _ ?side1 ?side2 A2.out).mono ?_); (case side1 => exact cc_ ((Kd.C_below HR0_0.out HB.out))); (case side2 => exact HC0_0.out); rintro e w' ⟨rfl, ⟨nd, rfl⟩⟩; (try first | exact ⟨rfl, _, World.drewN_drewN _ _ _⟩ | exact ⟨rfl, _, Eq.trans (World.drewN_drewN _ _ _) (congrArg (World.drewN _) (Nat.add_assoc _ _ _))⟩))))
 (try simp only [Act.put, sI_, s0_, sS_])
 go_cut [20] (fun v20 wc => ∃ (kq : Nat) (x20_2 : Bool), v20 = .bool x20_2 ∧ Aside0 (cohousingref23_Valid.j0 kq x20_2 l0_0 l0_1 = some r) ∧ Aside0 (kq ≤ k) ∧ Aside0 (wc.heap[gb213]? = some (.cells #[(.slice A0_0 l0_0.length c0_0), (.slice A0_1 l0_1.length c0_1)] 25 (0, 0))) ∧ Aside0 (Below w.heap.size w wc))
 case first =>
  have H := HC3.out
  clear HC3
  by_cases c6 : t214 = true
  ·subst c6
   have H1 : (cohousingref23_Valid.j0 k (decide ((l0_1.length : Int) > 64)) l0_0 l0_1) = some r := by rw [if_pos rfl] at H; exact H
   clear H
   have H := H1
   clear H1
   have H' := Aside0.mk H
   clear H
   have hcz7_0 : w4.cell? ⟨gb213, 0, none⟩ = some (.slice A0_0 l0_0.length c0_0) := (blk_cell BK213.out 0).trans rfl
   have hcz7_1 : w4.cell? ⟨gb213, 1, none⟩ = some (.slice A0_1 l0_1.length c0_1) := (blk_cell BK213.out 1).trans rfl
   have hfz7_0 := blk_frozen BK213.out 0
   have hfz7_1 := blk_frozen BK213.out 1
   go_wp2
   repeat (go_quiet (fail); try go_wp2)
   go_meet
   case rel => exact ⟨_, (decide ((l0_1.length : Int) > 64)), sd_, H', ⟨by first | omega | exact Nat.le_refl _⟩, ⟨by (with_reducible repeat (first | refine blk_drewN ?_ _ | refine blk_drew ?_ | refine blk_alloc ?_ _)); exact BK213.out⟩, ⟨by repeat (first | (with_reducible first | exact HB.out | apply below_alloc | apply pw_below_drewN | apply below_drew1 | refine below_set ?_ GE213.out) | exact HB.out)⟩⟩
  ·replace c6 := Bool.eq_false_iff.mpr c6
   subst c6
   have H1 : (cohousingref23_Valid.j0 k true l0_0 l0_1) = some r := by rw [if_neg (show ¬ (false = true) by decide)] at H; exact H
   clear H
   have H := H1
   clear H1
   have H' := Aside0.mk H
   clear H
   go_wp2
   repeat (go_quiet (fail); try go_wp2)
   go_meet
   case rel => exact ⟨_, (true), sd_, H', ⟨by first | omega | exact Nat.le_refl _⟩, ⟨by (with_reducible repeat (first | refine blk_drewN ?_ _ | refine blk_drew ?_ | refine blk_alloc ?_ _)); exact BK213.out⟩, ⟨by repeat (first | (with_reducible first | exact HB.out | apply below_alloc | apply pw_below_drewN | apply below_drew1 | refine below_set ?_ GE213.out) | exact HB.out)⟩⟩
 case rest =>
  clear HC3
  try clear c2
  try clear p2
  try clear c6
  try clear hcz5_0
  try clear hcz5_1
  try clear hcz7_0
  try clear hcz7_1
  try clear hfz5_0
  try clear hfz5_1
  try clear hfz7_0
  try clear hfz7_1
  obtain ⟨kq, x20_2, rfl, HA, HJ2, BK213, HB⟩ := hcut
  cases kq with
  | zero => exact absurd HA.out (by simp [cohousingref23_Valid.j0])
  | succ kj2 =>
   have H := HA.out
   clear HA
   simp only [cohousingref23_Valid.j0] at H
   by_cases c8 : x20_2 = true
   ·subst c8
    have H1 : (some false) = some r := by rw [if_pos rfl] at H; exact H
    clear H
    have H := H1
    clear H1
    obtain rfl := Option.some.inj H
    go_wp2
    repeat (go_quiet (fail); try go_wp2)
    go_ret
    exact ⟨ew_, by repeat (first | (with_reducible first | exact HB.out | apply below_alloc | apply pw_below_drewN | apply below_drew1 | refine below_set ?_ GE213.out) | exact HB.out)⟩
   ·replace c8 := Bool.eq_false_iff.mpr c8
    subst c8
    have H1 : (cohousingref23_Valid.l0 kj2 0 l0_0 l0_1) = some r := by rw [if_neg (show ¬ (false = true) by decide)] at H; exact H
    clear H
    have H := H1
    clear H1
    have H' := Aside0.mk H
    clear H
    go_wp2
    repeat (go_quiet (fail); try go_wp2)
    go_loopg [4] kj2 (fun kq v4 w' => ∃ (x4_2 : Int), v4 = .int .i64 x4_2 ∧ Aside0 (cohousingref23_Valid.l0 kq x4_2 l0_0 l0_1 = some r) ∧ Aside0 (kq ≤ kj2) ∧ Aside0 (w'.heap[gb213]? = some (.cells #[(.slice A0_0 l0_0.length c0_0), (.slice A0_1 l0_1.length c0_1)] 25 (0, 0))) ∧ Aside0 (Below w.heap.size w w'))
    case atStart => exact ⟨(0), sd_, H', ⟨Nat.le_refl _⟩, ⟨by (with_reducible repeat (first | refine blk_drewN ?_ _ | refine blk_drew ?_ | refine blk_alloc ?_ _)); exact BK213.out⟩, ⟨by repeat (first | (with_reducible first | exact HB.out | apply below_alloc | apply pw_below_drewN | apply below_drew1 | refine below_set ?_ GE213.out) | exact HB.out)⟩⟩
    case round =>
     clear H'
     try clear c2
     try clear p2
     try clear c6
     try clear c8
     try clear hcz5_0
     try clear hcz5_1
     try clear hcz7_0
     try clear hcz7_1
     try clear hfz5_0
     try clear hfz5_1
     try clear hfz7_0
     try clear hfz7_1
     try clear p2
     obtain ⟨x4_2, rfl, HA, HK2, BK213, HB⟩ := hrel
     cases gk with
     | zero => exact absurd HA.out (by simp [cohousingref23_Valid.l0])
     | succ k2 =>
      have H := HA.out
      clear HA
      simp only [cohousingref23_Valid.l0] at H
      by_cases c9 : x4_2 < (l0_1.length : Int)
      ·rw [if_pos c9] at H
       have c9b0 : decide (x4_2 < (l0_1.length : Int)) = true := decide_eq_true c9
       clear c9
       by_cases c10 : 0 ≤ x4_2
       ·rw [if_pos c10] at H
        have c10b0 : decide (0 ≤ x4_2) = true := decide_eq_true c10
        clear c10
        have HC11 := Aside0.mk H
        clear H
        have hcz12_0 : wr.cell? ⟨gb213, 0, none⟩ = some (.slice A0_0 l0_0.length c0_0) := (blk_cell BK213.out 0).trans rfl
        have hcz12_1 : wr.cell? ⟨gb213, 1, none⟩ = some (.slice A0_1 l0_1.length c0_1) := (blk_cell BK213.out 1).trans rfl
        have hfz12_0 := blk_frozen BK213.out 0
        have hfz12_1 := blk_frozen BK213.out 1
        have p215 : 0 ≤ (x4_2 : Int) := od_
        have q215 : x4_2 < (l0_1.length : Int) := od_
        obtain ⟨ad215, A215_2, c215_2, e215, hx215_0, hx215_1, hx215_2, hl215_2, hi215_2⟩ := at_T46 HR0_1.out x4_2 p215 q215
        cases e215
        replace hx215_0 := (HB.out.cell (World.block_lt_of_cell? w _ hx215_0)).trans hx215_0
        replace hx215_1 := (HB.out.cell (World.block_lt_of_cell? w _ hx215_1)).trans hx215_1
        replace hx215_2 := (HB.out.cell (World.block_lt_of_cell? w _ hx215_2)).trans hx215_2
        have HR215_2 := Aside0.mk hi215_2
        have HC215_2 := Aside0.mk hl215_2
        clear hi215_2 hl215_2
        replace p215 := eq_true p215
        replace q215 := eq_true q215
        go_upto_region 8 with (first | ((with_reducible refine gate_dst (N := 5) rfl ?_); (try (refine gate_guard (by rfl) ?_; dsimp only)); refine box_event ?hg (N := 5) ?hd (cs := #[.int .i64 0, .int .i64 0, .slice none 0 0]) (t := 46) ?hr ?_; (case hd => rfl); (case hg => rfl); (case hr => first | (go_simp; done) | (go_simp; rfl)); intro gb216 hg w13 hbox hb; have n0_ := Aside0.mk (blk_below (g := gb213) (o := .cells #[.slice A0_0 l0_0.length c0_0, .slice (some ad215) l0_1.length c0_1] 25 (0, 0)) (kk_ BK213) hb); have n1_ := Aside0.mk (below_step (bs_ HB GE213.out) hb); have n2_ := Aside0.mk (hbox); have n3_ := Aside0.mk ((by rw [hg]; exact (below_size (bs_ HB GE213.out)) : w.heap.size ≤ gb216)); have n4_ := Aside0.mk ((by rw [hg]; exact (below_size (bs_ HB GE213.out)) : w.heap.size ≤ gb216)); have n5_ := Aside0.mk ((by rw [hg]; exact Nat.ne_of_lt (blk_lt (g := gb213) (o := .cells #[.slice A0_0 l0_0.length c0_0, .slice (some ad215) l0_1.length c0_1] 25 (0, 0)) (kk_ BK213)) : gb213 ≠ gb216)); have n6_ := Aside0.mk ((by rw [hg]; exact Nat.ne_of_gt (blk_lt (g := gb213) (o := .cells #[.slice A0_0 l0_0.length c0_0, .slice (some ad215) l0_1.length c0_1] 25 (0, 0)) (kk_ BK213)) : gb216 ≠ gb213)); clear BK213; clear HB; have BK213 := n0_; have HB := n1_; have BK216 := n2_; have GW216 := n3_; have GE216 := n4_; have NB213_216 := n5_; have NB216_213 := n6_; clear n0_ n1_ n2_ n3_ n4_ n5_ n6_; clear hb hbox hg; have hnb14 := NB216_213.out; have hnc14 := NB213_216.out; have hcz15_0 : w13.cell? ⟨gb216, 0, none⟩ = some (.int .i64 0) := (blk_cell BK216.out 0).trans rfl; have hcz15_1 : w13.cell? ⟨gb216, 1, none⟩ = some (.int .i64 0) := (blk_cell BK216.out 1).trans rfl; have hcz15_2 : w13.cell? ⟨gb216, 2, none⟩ = some (.slice none 0 0) := (blk_cell BK216.out 2).trans rfl; have hfz15_0 := blk_frozen BK216.out 0; have hfz15_1 := blk_frozen BK216.out 1; have hfz15_2 := blk_frozen BK216.out 2))
        repeat (go_quiet (first | ((with_reducible refine gate_dst (N := 5) rfl ?_); (try (refine gate_guard (by rfl) ?_; dsimp only)); refine box_event ?hg (N := 5) ?hd (cs := #[.int .i64 0, .int .i64 0, .slice none 0 0]) (t := 46) ?hr ?_; (case hd => rfl); (case hg => rfl); (case hr => first | (go_simp; done) | (go_simp; rfl)); intro gb216 hg w13 hbox hb; have n0_ := Aside0.mk (blk_below (g := gb213) (o := .cells #[.slice A0_0 l0_0.length c0_0, .slice (some ad215) l0_1.length c0_1] 25 (0, 0)) (kk_ BK213) hb); have n1_ := Aside0.mk (below_step (bs_ HB GE213.out) hb); have n2_ := Aside0.mk (hbox); have n3_ := Aside0.mk ((by rw [hg]; exact (below_size (bs_ HB GE213.out)) : w.heap.size ≤ gb216)); have n4_ := Aside0.mk ((by rw [hg]; exact (below_size (bs_ HB GE213.out)) : w.heap.size ≤ gb216)); have n5_ := Aside0.mk ((by rw [hg]; exact Nat.ne_of_lt (blk_lt (g := gb213) (o := .cells #[.slice A0_0 l0_0.length c0_0, .slice (some ad215) l0_1.length c0_1] 25 (0, 0)) (kk_ BK213)) : gb213 ≠ gb216)); have n6_ := Aside0.mk ((by rw [hg]; exact Nat.ne_of_gt (blk_lt (g := gb213) (o := .cells #[.slice A0_0 l0_0.length c0_0, .slice (some ad215) l0_1.length c0_1] 25 (0, 0)) (kk_ BK213)) : gb216 ≠ gb213)); clear BK213; clear HB; have BK213 := n0_; have HB := n1_; have BK216 := n2_; have GW216 := n3_; have GE216 := n4_; have NB213_216 := n5_; have NB216_213 := n6_; clear n0_ n1_ n2_ n3_ n4_ n5_ n6_; clear hb hbox hg; have hnb14 := NB216_213.out; have hnc14 := NB213_216.out; have hcz15_0 : w13.cell? ⟨gb216, 0, none⟩ = some (.int .i64 0) := (blk_cell BK216.out 0).trans rfl; have hcz15_1 : w13.cell? ⟨gb216, 1, none⟩ = some (.int .i64 0) := (blk_cell BK216.out 1).trans rfl; have hcz15_2 : w13.cell? ⟨gb216, 2, none⟩ = some (.slice none 0 0) := (blk_cell BK216.out 2).trans rfl; have hfz15_0 := blk_frozen BK216.out 0; have hfz15_1 := blk_frozen BK216.out 1; have hfz15_2 := blk_frozen BK216.out 2)); go_upto_region 8 with (first | ((with_reducible refine gate_dst (N := 5) rfl ?_); (try (refine gate_guard (by rfl) ?_; dsimp only)); refine box_event ?hg (N := 5) ?hd (cs := #[.int .i64 0, .int .i64 0, .slice none 0 0]) (t := 46) ?hr ?_; (case hd => rfl); (case hg => rfl); (case hr => first | (go_simp; done) | (go_simp; rfl)); intro gb216 hg w13 hbox hb; have n0_ := Aside0.mk (blk_below (g := gb213) (o := .cells #[.slice A0_0 l0_0.length c0_0, .slice (some ad215) l0_1.length c0_1] 25 (0, 0)) (kk_ BK213) hb); have n1_ := Aside0.mk (below_step (bs_ HB GE213.out) hb); have n2_ := Aside0.mk (hbox); have n3_ := Aside0.mk ((by rw [hg]; exact (below_size (bs_ HB GE213.out)) : w.heap.size ≤ gb216)); have n4_ := Aside0.mk ((by rw [hg]; exact (below_size (bs_ HB GE213.out)) : w.heap.size ≤ gb216)); have n5_ := Aside0.mk ((by rw [hg]; exact Nat.ne_of_lt (blk_lt (g := gb213) (o := .cells #[.slice A0_0 l0_0.length c0_0, .slice (some ad215) l0_1.length c0_1] 25 (0, 0)) (kk_ BK213)) : gb213 ≠ gb216)); have n6_ := Aside0.mk ((by rw [hg]; exact Nat.ne_of_gt (blk_lt (g := gb213) (o := .cells #[.slice A0_0 l0_0.length c0_0, .slice (some ad215) l0_1.length c0_1] 25 (0, 0)) (kk_ BK213)) : gb216 ≠ gb213)); clear BK213; clear HB; have BK213 := n0_; have HB := n1_; have BK216 := n2_; have GW216 := n3_; have GE216 := n4_; have NB213_216 := n5_; have NB216_213 := n6_; clear n0_ n1_ n2_ n3_ n4_ n5_ n6_; clear hb hbox hg; have hnb14 := NB216_213.out; have hnc14 := NB213_216.out; have hcz15_0 : w13.cell? ⟨gb216, 0, none⟩ = some (.int .i64 0) := (blk_cell BK216.out 0).trans rfl; have hcz15_1 : w13.cell? ⟨gb216, 1, none⟩ = some (.int .i64 0) := (blk_cell BK216.out 1).trans rfl; have hcz15_2 : w13.cell? ⟨gb216, 2, none⟩ = some (.slice none 0 0) := (blk_cell BK216.out 2).trans rfl; have hfz15_0 := blk_frozen BK216.out 0; have hfz15_1 := blk_frozen BK216.out 1; have hfz15_2 := blk_frozen BK216.out 2)))
        (try simp only [Act.put, sI_, s0_, sS_])
        go_cut [56] (fun v56 wc => ∃ (kq : Nat) (x56_10 : Bool), v56 = .bool x56_10 ∧ Aside0 (cohousingref23_Valid.j2 kq x4_2 x56_10 l0_0 l0_1 ((rd_T46 l0_1 x4_2).f0) ((rd_T46 l0_1 x4_2).f1) ((rd_T46 l0_1 x4_2).f2) = some r) ∧ Aside0 (kq ≤ k2) ∧ Aside0 (wc.heap[gb213]? = some (.cells #[(.slice A0_0 l0_0.length c0_0), (.slice (some ad215) l0_1.length c0_1)] 25 (0, 0))) ∧ Aside0 (wc.heap[gb216]? = some (.cells #[.int .i64 ((rd_T46 l0_1 x4_2).f0), .int .i64 ((rd_T46 l0_1 x4_2).f1), (.slice A215_2 ((rd_T46 l0_1 x4_2).f2).length c215_2)] 46 (0, 0))) ∧ Aside0 (Below w.heap.size w wc))
        case first =>
         have H := HC11.out
         clear HC11
         by_cases c16 : ((rd_T46 l0_1 x4_2).f0) < 1
         ·rw [if_pos c16] at H
          have c16b0 : decide (((rd_T46 l0_1 x4_2).f0) < 1) = true := decide_eq_true c16
          clear c16
          (first | rw [c16b0] | (simp only [i64_w, i32_w]; rw [c16b0]) | skip)
          have H' := Aside0.mk H
          clear H
          have hnb17 := NB216_213.out
          have hnc17 := NB213_216.out
          have hcz18_0 : w13.cell? ⟨gb216, 0, none⟩ = some (.int .i64 0) := (blk_cell BK216.out 0).trans rfl
          have hcz18_1 : w13.cell? ⟨gb216, 1, none⟩ = some (.int .i64 0) := (blk_cell BK216.out 1).trans rfl
          have hcz18_2 : w13.cell? ⟨gb216, 2, none⟩ = some (.slice none 0 0) := (blk_cell BK216.out 2).trans rfl
          have hfz18_0 := blk_frozen BK216.out 0
          have hfz18_1 := blk_frozen BK216.out 1
          have hfz18_2 := blk_frozen BK216.out 2
          go_wp2
          repeat (go_quiet (fail); try go_wp2)
          go_meet
          case rel => exact ⟨_, (true), sd_, H', ⟨by have := HJ2.out; have := HK2.out; first | omega | exact Nat.le_refl _⟩, ⟨by (with_reducible repeat (first | refine blk_drewN ?_ _ | refine blk_drew ?_ | refine blk_alloc ?_ _)); refine blk_far ?_ NB213_216.out _; (with_reducible repeat (first | refine blk_drewN ?_ _ | refine blk_drew ?_ | refine blk_alloc ?_ _)); refine blk_far ?_ NB213_216.out _; (with_reducible repeat (first | refine blk_drewN ?_ _ | refine blk_drew ?_ | refine blk_alloc ?_ _)); refine blk_far ?_ NB213_216.out _; (with_reducible repeat (first | refine blk_drewN ?_ _ | refine blk_drew ?_ | refine blk_alloc ?_ _)); exact BK213.out⟩, ⟨by (with_reducible repeat (first | refine blk_drewN ?_ _ | refine blk_drew ?_ | refine blk_alloc ?_ _)); refine blk_put (cs := #[.int .i64 ((rd_T46 l0_1 x4_2).f0), .int .i64 ((rd_T46 l0_1 x4_2).f1), .slice none 0 0]) ?_ 2 _ rfl; (with_reducible repeat (first | refine blk_drewN ?_ _ | refine blk_drew ?_ | refine blk_alloc ?_ _)); refine blk_put (cs := #[.int .i64 ((rd_T46 l0_1 x4_2).f0), .int .i64 0, .slice none 0 0]) ?_ 1 _ rfl; (with_reducible repeat (first | refine blk_drewN ?_ _ | refine blk_drew ?_ | refine blk_alloc ?_ _)); refine blk_put (cs := #[.int .i64 0, .int .i64 0, .slice none 0 0]) ?_ 0 _ rfl; (with_reducible repeat (first | refine blk_drewN ?_ _ | refine blk_drew ?_ | refine blk_alloc ?_ _)); exact BK216.out⟩, ⟨by repeat (first | (with_reducible first | exact HB.out | apply below_alloc | apply pw_below_drewN | apply below_drew1 | refine below_set ?_ GE213.out | refine below_set ?_ GE216.out) | exact HB.out)⟩⟩
         ·rw [if_neg c16] at H
          have c16b0 : decide (((rd_T46 l0_1 x4_2).f0) < 1) = false := decide_eq_false c16
          clear c16
          (first | rw [c16b0] | (simp only [i64_w, i32_w]; rw [c16b0]) | skip)
          by_cases c19 : ((rd_T46 l0_1 x4_2).f0) > 64
          ·rw [if_pos c19] at H
           have c19b0 : decide (64 < ((rd_T46 l0_1 x4_2).f0)) = true := decide_eq_true c19
           clear c19
           have H' := Aside0.mk H
           clear H
           have hnb20 := NB216_213.out
           have hnc20 := NB213_216.out
           have hcz21_0 : w13.cell? ⟨gb216, 0, none⟩ = some (.int .i64 0) := (blk_cell BK216.out 0).trans rfl
           have hcz21_1 : w13.cell? ⟨gb216, 1, none⟩ = some (.int .i64 0) := (blk_cell BK216.out 1).trans rfl
           have hcz21_2 : w13.cell? ⟨gb216, 2, none⟩ = some (.slice none 0 0) := (blk_cell BK216.out 2).trans rfl
           have hfz21_0 := blk_frozen BK216.out 0
           have hfz21_1 := blk_frozen BK216.out 1
           have hfz21_2 := blk_frozen BK216.out 2
           go_wp2
           repeat (go_quiet (fail); try go_wp2)
           go_meet
           case rel => exact ⟨_, (true), sd_, H', ⟨by have := HJ2.out; have := HK2.out; first | omega | exact Nat.le_refl _⟩, ⟨by (with_reducible repeat (first | refine blk_drewN ?_ _ | refine blk_drew ?_ | refine blk_alloc ?_ _)); refine blk_far ?_ NB213_216.out _; (with_reducible repeat (first | refine blk_drewN ?_ _ | refine blk_drew ?_ | refine blk_alloc ?_ _)); refine blk_far ?_ NB213_216.out _; (with_reducible repeat (first | refine blk_drewN ?_ _ | refine blk_drew ?_ | refine blk_alloc ?_ _)); refine blk_far ?_ NB213_216.out _; (with_reducible repeat (first | refine blk_drewN ?_ _ | refine blk_drew ?_ | refine blk_alloc ?_ _)); exact BK213.out⟩, ⟨by (with_reducible repeat (first | refine blk_drewN ?_ _ | refine blk_drew ?_ | refine blk_alloc ?_ _)); refine blk_put (cs := #[.int .i64 ((rd_T46 l0_1 x4_2).f0), .int .i64 ((rd_T46 l0_1 x4_2).f1), .slice none 0 0]) ?_ 2 _ rfl; (with_reducible repeat (first | refine blk_drewN ?_ _ | refine blk_drew ?_ | refine blk_alloc ?_ _)); refine blk_put (cs := #[.int .i64 ((rd_T46 l0_1 x4_2).f0), .int .i64 0, .slice none 0 0]) ?_ 1 _ rfl; (with_reducible repeat (first | refine blk_drewN ?_ _ | refine blk_drew ?_ | refine blk_alloc ?_ _)); refine blk_put (cs := #[.int .i64 0, .int .i64 0, .slice none 0 0]) ?_ 0 _ rfl; (with_reducible repeat (first | refine blk_drewN ?_ _ | refine blk_drew ?_ | refine blk_alloc ?_ _)); exact BK216.out⟩, ⟨by repeat (first | (with_reducible first | exact HB.out | apply below_alloc | apply pw_below_drewN | apply below_drew1 | refine below_set ?_ GE213.out | refine below_set ?_ GE216.out) | exact HB.out)⟩⟩
          ·rw [if_neg c19] at H
           have c19b0 : decide (64 < ((rd_T46 l0_1 x4_2).f0)) = false := decide_eq_false c19
           clear c19
           by_cases c22 : x4_2 > 0
           ·rw [if_pos c22] at H
            have c22b0 : decide (0 < x4_2) = true := decide_eq_true c22
            clear c22
            obtain ⟨ji23, hji23⟩ : ∃ j_ : Int, (wrap64 (x4_2 - 1)) = j_ := ⟨_, rfl⟩
            replace H : (if 0 ≤ (ji23) then (if (ji23) < (l0_1.length : Int) then (cohousingref23_Valid.j2 k2 x4_2 (decide (((rd_T46 l0_1 x4_2).f0) ≤ ((rd_T46 l0_1 (ji23)).f0))) l0_0 l0_1 ((rd_T46 l0_1 x4_2).f0) ((rd_T46 l0_1 x4_2).f1) ((rd_T46 l0_1 x4_2).f2)) else (none)) else (none)) = some r := by first | (rw [hji23] at H; exact H) | (simp only [hji23] at H ⊢; exact H)
            have hji23w : (IntKind.i64.wrap (x4_2 - 1)) = ji23 := (i64_w _).trans hji23
            by_cases c24 : 0 ≤ (ji23)
            ·rw [if_pos c24] at H
             have c24b0 : decide (0 ≤ (ji23)) = true := decide_eq_true c24
             clear c24
             by_cases c25 : (ji23) < (l0_1.length : Int)
             ·rw [if_pos c25] at H
              have c25b0 : decide ((ji23) < (l0_1.length : Int)) = true := decide_eq_true c25
              clear c25
              have H' := Aside0.mk H
              clear H
              have hnb26 := NB216_213.out
              have hnc26 := NB213_216.out
              have hcz27_0 : w13.cell? ⟨gb216, 0, none⟩ = some (.int .i64 0) := (blk_cell BK216.out 0).trans rfl
              have hcz27_1 : w13.cell? ⟨gb216, 1, none⟩ = some (.int .i64 0) := (blk_cell BK216.out 1).trans rfl
              have hcz27_2 : w13.cell? ⟨gb216, 2, none⟩ = some (.slice none 0 0) := (blk_cell BK216.out 2).trans rfl
              have hfz27_0 := blk_frozen BK216.out 0
              have hfz27_1 := blk_frozen BK216.out 1
              have hfz27_2 := blk_frozen BK216.out 2
              have hcz28_0 : w13.cell? ⟨gb213, 0, none⟩ = some (.slice A0_0 l0_0.length c0_0) := (blk_cell BK213.out 0).trans rfl
              have hcz28_1 : w13.cell? ⟨gb213, 1, none⟩ = some (.slice (some ad215) l0_1.length c0_1) := (blk_cell BK213.out 1).trans rfl
              have hfz28_0 := blk_frozen BK213.out 0
              have hfz28_1 := blk_frozen BK213.out 1
              have p217 : 0 ≤ ((ji23) : Int) := od_
              have q217 : (ji23) < (l0_1.length : Int) := od_
              obtain ⟨ad217, A217_2, c217_2, e217, hx217_0, hx217_1, hx217_2, hl217_2, hi217_2⟩ := at_T46 HR0_1.out (ji23) p217 q217
              obtain rfl : ad215 = ad217 := (by injection e217)
              have hn217_0 : ad215.block ≠ gb216 := Nat.ne_of_lt (Nat.lt_of_lt_of_le (by have := World.block_lt_of_cell? _ _ hx217_0; first | rwa [add_block] at this | exact this) GW216.out)
              have hn217_1 : ad215.block ≠ gb216 := Nat.ne_of_lt (Nat.lt_of_lt_of_le (by have := World.block_lt_of_cell? _ _ hx217_0; first | rwa [add_block] at this | exact this) GW216.out)
              have hn217_2 : ad215.block ≠ gb216 := Nat.ne_of_lt (Nat.lt_of_lt_of_le (by have := World.block_lt_of_cell? _ _ hx217_0; first | rwa [add_block] at this | exact this) GW216.out)
              replace hx217_0 := (HB.out.cell (World.block_lt_of_cell? w _ hx217_0)).trans hx217_0
              replace hx217_1 := (HB.out.cell (World.block_lt_of_cell? w _ hx217_1)).trans hx217_1
              replace hx217_2 := (HB.out.cell (World.block_lt_of_cell? w _ hx217_2)).trans hx217_2
              have HR217_2 := Aside0.mk hi217_2
              have HC217_2 := Aside0.mk hl217_2
              clear hi217_2 hl217_2
              replace hx217_0 := (cell_far (p := ⟨gb216, 0, none⟩) (by first | (rw [add_block]; exact hn217_0) | (show (Addr.add _ _).block ≠ _; rw [add_block]; exact hn217_0) | exact hn217_0) (.int .i64 ((rd_T46 l0_1 x4_2).f0))).trans hx217_0
              replace hx217_1 := (cell_far (p := ⟨gb216, 0, none⟩) (by first | (rw [add_block]; exact hn217_0) | (show (Addr.add _ _).block ≠ _; rw [add_block]; exact hn217_0) | exact hn217_0) (.int .i64 ((rd_T46 l0_1 x4_2).f0))).trans hx217_1
              replace hx217_2 := (cell_far (p := ⟨gb216, 0, none⟩) (by first | (rw [add_block]; exact hn217_0) | (show (Addr.add _ _).block ≠ _; rw [add_block]; exact hn217_0) | exact hn217_0) (.int .i64 ((rd_T46 l0_1 x4_2).f0))).trans hx217_2
              replace hx217_0 := (cell_far (p := ⟨gb216, 1, none⟩) (by first | (rw [add_block]; exact hn217_1) | (show (Addr.add _ _).block ≠ _; rw [add_block]; exact hn217_1) | exact hn217_1) (.int .i64 ((rd_T46 l0_1 x4_2).f1))).trans hx217_0
              replace hx217_1 := (cell_far (p := ⟨gb216, 1, none⟩) (by first | (rw [add_block]; exact hn217_1) | (show (Addr.add _ _).block ≠ _; rw [add_block]; exact hn217_1) | exact hn217_1) (.int .i64 ((rd_T46 l0_1 x4_2).f1))).trans hx217_1
              replace hx217_2 := (cell_far (p := ⟨gb216, 1, none⟩) (by first | (rw [add_block]; exact hn217_1) | (show (Addr.add _ _).block ≠ _; rw [add_block]; exact hn217_1) | exact hn217_1) (.int .i64 ((rd_T46 l0_1 x4_2).f1))).trans hx217_2
              replace hx217_0 := (cell_far (p := ⟨gb216, 2, none⟩) (by first | (rw [add_block]; exact hn217_2) | (show (Addr.add _ _).block ≠ _; rw [add_block]; exact hn217_2) | exact hn217_2) (.slice A215_2 ((rd_T46 l0_1 x4_2).f2).length c215_2)).trans hx217_0
              replace hx217_1 := (cell_far (p := ⟨gb216, 2, none⟩) (by first | (rw [add_block]; exact hn217_2) | (show (Addr.add _ _).block ≠ _; rw [add_block]; exact hn217_2) | exact hn217_2) (.slice A215_2 ((rd_T46 l0_1 x4_2).f2).length c215_2)).trans hx217_1
              replace hx217_2 := (cell_far (p := ⟨gb216, 2, none⟩) (by first | (rw [add_block]; exact hn217_2) | (show (Addr.add _ _).block ≠ _; rw [add_block]; exact hn217_2) | exact hn217_2) (.slice A215_2 ((rd_T46 l0_1 x4_2).f2).length c215_2)).trans hx217_2
              (try have hy217_0 := fun (n_ : Nat) => (show (((((w13.drewN n_).setCell ⟨gb216, 0, none⟩ (.int .i64 ((rd_T46 l0_1 x4_2).f0))).setCell ⟨gb216, 1, none⟩ (.int .i64 ((rd_T46 l0_1 x4_2).f1))).setCell ⟨gb216, 2, none⟩ (.slice A215_2 ((rd_T46 l0_1 x4_2).f2).length c215_2))).cell? _ = some _ from hx217_0))
              (try have hy217_1 := fun (n_ : Nat) => (show (((((w13.drewN n_).setCell ⟨gb216, 0, none⟩ (.int .i64 ((rd_T46 l0_1 x4_2).f0))).setCell ⟨gb216, 1, none⟩ (.int .i64 ((rd_T46 l0_1 x4_2).f1))).setCell ⟨gb216, 2, none⟩ (.slice A215_2 ((rd_T46 l0_1 x4_2).f2).length c215_2))).cell? _ = some _ from hx217_1))
              (try have hy217_2 := fun (n_ : Nat) => (show (((((w13.drewN n_).setCell ⟨gb216, 0, none⟩ (.int .i64 ((rd_T46 l0_1 x4_2).f0))).setCell ⟨gb216, 1, none⟩ (.int .i64 ((rd_T46 l0_1 x4_2).f1))).setCell ⟨gb216, 2, none⟩ (.slice A215_2 ((rd_T46 l0_1 x4_2).f2).length c215_2))).cell? _ = some _ from hx217_2))
              clear hn217_0
              clear hn217_1
              clear hn217_2
              replace p217 := eq_true p217
              replace q217 := eq_true q217
              go_wp2
              repeat (go_quiet (fail); try go_wp2)
              go_meet
              case rel => exact ⟨_, (decide (((rd_T46 l0_1 x4_2).f0) ≤ ((rd_T46 l0_1 (ji23)).f0))), (by first | rfl | (simp; done) | (simp only [← hji23] <;> (first | rfl | simp)) | (simp [*]; done)), H', ⟨by have := HJ2.out; have := HK2.out; first | omega | exact Nat.le_refl _⟩, ⟨by (with_reducible repeat (first | refine blk_drewN ?_ _ | refine blk_drew ?_ | refine blk_alloc ?_ _)); refine blk_far ?_ NB213_216.out _; (with_reducible repeat (first | refine blk_drewN ?_ _ | refine blk_drew ?_ | refine blk_alloc ?_ _)); refine blk_far ?_ NB213_216.out _; (with_reducible repeat (first | refine blk_drewN ?_ _ | refine blk_drew ?_ | refine blk_alloc ?_ _)); refine blk_far ?_ NB213_216.out _; (with_reducible repeat (first | refine blk_drewN ?_ _ | refine blk_drew ?_ | refine blk_alloc ?_ _)); exact BK213.out⟩, ⟨by (with_reducible repeat (first | refine blk_drewN ?_ _ | refine blk_drew ?_ | refine blk_alloc ?_ _)); refine blk_put (cs := #[.int .i64 ((rd_T46 l0_1 x4_2).f0), .int .i64 ((rd_T46 l0_1 x4_2).f1), .slice none 0 0]) ?_ 2 _ rfl; (with_reducible repeat (first | refine blk_drewN ?_ _ | refine blk_drew ?_ | refine blk_alloc ?_ _)); refine blk_put (cs := #[.int .i64 ((rd_T46 l0_1 x4_2).f0), .int .i64 0, .slice none 0 0]) ?_ 1 _ rfl; (with_reducible repeat (first | refine blk_drewN ?_ _ | refine blk_drew ?_ | refine blk_alloc ?_ _)); refine blk_put (cs := #[.int .i64 0, .int .i64 0, .slice none 0 0]) ?_ 0 _ rfl; (with_reducible repeat (first | refine blk_drewN ?_ _ | refine blk_drew ?_ | refine blk_alloc ?_ _)); exact BK216.out⟩, ⟨by repeat (first | (with_reducible first | exact HB.out | apply below_alloc | apply pw_below_drewN | apply below_drew1 | refine below_set ?_ GE213.out | refine below_set ?_ GE216.out) | exact HB.out)⟩⟩
             ·rw [if_neg c25] at H
              exact absurd H (by simp)
            ·rw [if_neg c24] at H
             exact absurd H (by simp)
           ·rw [if_neg c22] at H
            have c22b0 : decide (0 < x4_2) = false := decide_eq_false c22
            clear c22
            have H' := Aside0.mk H
            clear H
            have hnb29 := NB216_213.out
            have hnc29 := NB213_216.out
            have hcz30_0 : w13.cell? ⟨gb216, 0, none⟩ = some (.int .i64 0) := (blk_cell BK216.out 0).trans rfl
            have hcz30_1 : w13.cell? ⟨gb216, 1, none⟩ = some (.int .i64 0) := (blk_cell BK216.out 1).trans rfl
            have hcz30_2 : w13.cell? ⟨gb216, 2, none⟩ = some (.slice none 0 0) := (blk_cell BK216.out 2).trans rfl
            have hfz30_0 := blk_frozen BK216.out 0
            have hfz30_1 := blk_frozen BK216.out 1
            have hfz30_2 := blk_frozen BK216.out 2
            go_wp2
            repeat (go_quiet (fail); try go_wp2)
            go_meet
            case rel => exact ⟨_, (false), sd_, H', ⟨by have := HJ2.out; have := HK2.out; first | omega | exact Nat.le_refl _⟩, ⟨by (with_reducible repeat (first | refine blk_drewN ?_ _ | refine blk_drew ?_ | refine blk_alloc ?_ _)); refine blk_far ?_ NB213_216.out _; (with_reducible repeat (first | refine blk_drewN ?_ _ | refine blk_drew ?_ | refine blk_alloc ?_ _)); refine blk_far ?_ NB213_216.out _; (with_reducible repeat (first | refine blk_drewN ?_ _ | refine blk_drew ?_ | refine blk_alloc ?_ _)); refine blk_far ?_ NB213_216.out _; (with_reducible repeat (first | refine blk_drewN ?_ _ | refine blk_drew ?_ | refine blk_alloc ?_ _)); exact BK213.out⟩, ⟨by (with_reducible repeat (first | refine blk_drewN ?_ _ | refine blk_drew ?_ | refine blk_alloc ?_ _)); refine blk_put (cs := #[.int .i64 ((rd_T46 l0_1 x4_2).f0), .int .i64 ((rd_T46 l0_1 x4_2).f1), .slice none 0 0]) ?_ 2 _ rfl; (with_reducible repeat (first | refine blk_drewN ?_ _ | refine blk_drew ?_ | refine blk_alloc ?_ _)); refine blk_put (cs := #[.int .i64 ((rd_T46 l0_1 x4_2).f0), .int .i64 0, .slice none 0 0]) ?_ 1 _ rfl; (with_reducible repeat (first | refine blk_drewN ?_ _ | refine blk_drew ?_ | refine blk_alloc ?_ _)); refine blk_put (cs := #[.int .i64 0, .int .i64 0, .slice none 0 0]) ?_ 0 _ rfl; (with_reducible repeat (first | refine blk_drewN ?_ _ | refine blk_drew ?_ | refine blk_alloc ?_ _)); exact BK216.out⟩, ⟨by repeat (first | (with_reducible first | exact HB.out | apply below_alloc | apply pw_below_drewN | apply below_drew1 | refine below_set ?_ GE213.out | refine below_set ?_ GE216.out) | exact HB.out)⟩⟩
        case rest =>
         clear HC11
         try clear c1
         try clear c2
         try clear p2
         try clear q2
         try clear hx2
         try clear c6
         try clear p6
         try clear c8
         try clear c9
         try clear c9b0
         try clear c10
         try clear c10b0
         try clear c14
         try clear c16
         try clear c16b0
         try clear c17
         try clear c19
         try clear c19b0
         try clear c20
         try clear c21
         try clear p21
         try clear q21
         try clear hx21
         try clear c22
         try clear c22b0
         try clear c24
         try clear c24b0
         try clear c25
         try clear c25b0
         try clear c26
         try clear c29
         try clear hcz12_0
         try clear hcz12_1
         try clear hcz15_0
         try clear hcz15_1
         try clear hcz15_2
         try clear hcz18_0
         try clear hcz18_1
         try clear hcz18_2
         try clear hcz21_0
         try clear hcz21_1
         try clear hcz21_2
         try clear hcz27_0
         try clear hcz27_1
         try clear hcz27_2
         try clear hcz28_0
         try clear hcz28_1
         try clear hcz30_0
         try clear hcz30_1
         try clear hcz30_2
         try clear hcz5_0
         try clear hcz5_1
         try clear hcz7_0
         try clear hcz7_1
         try clear hfz12_0
         try clear hfz12_1
         try clear hfz15_0
         try clear hfz15_1
         try clear hfz15_2
         try clear hfz18_0
         try clear hfz18_1
         try clear hfz18_2
         try clear hfz21_0
         try clear hfz21_1
         try clear hfz21_2
         try clear hfz27_0
         try clear hfz27_1
         try clear hfz27_2
         try clear hfz28_0
         try clear hfz28_1
         try clear hfz30_0
         try clear hfz30_1
         try clear hfz30_2
         try clear hfz5_0
         try clear hfz5_1
         try clear hfz7_0
         try clear hfz7_1
         try clear hx215_0
         try clear hx215_1
         try clear hx215_2
         try clear hx217_0
         try clear hx217_1
         try clear hx217_2
         try clear p2
         try clear p215
         try clear p217
         try clear q215
         try clear q217
         obtain ⟨kq, x56_10, rfl, HA, HJ10, BK213, BK216, HB⟩ := hcut
         cases kq with
         | zero => exact absurd HA.out (by simp [cohousingref23_Valid.j2])
         | succ kj10 =>
          have H := HA.out
          clear HA
          simp only [cohousingref23_Valid.j2] at H
          by_cases c31 : x56_10 = true
          ·subst c31
           have H1 : (some false) = some r := by rw [if_pos rfl] at H; exact H
           clear H
           have H := H1
           clear H1
           obtain rfl := Option.some.inj H
           go_wp2
           repeat (go_quiet (fail); try go_wp2)
           go_ret
           exact ⟨ew_, by repeat (first | (with_reducible first | exact HB.out | apply below_alloc | apply pw_below_drewN | apply below_drew1 | refine below_set ?_ GE213.out | refine below_set ?_ GE216.out) | exact HB.out)⟩
          ·replace c31 := Bool.eq_false_iff.mpr c31
           subst c31
           have H1 : ((cohousingref23_Has.f kj10 l0_0 ((rd_T46 l0_1 x4_2).f1)).bind fun t218 => (if ((rd_T46 l0_1 x4_2).f1) = 0 then (cohousingref23_Valid.j3 kj10 x4_2 false l0_0 l0_1 ((rd_T46 l0_1 x4_2).f0) ((rd_T46 l0_1 x4_2).f1) ((rd_T46 l0_1 x4_2).f2)) else (cohousingref23_Valid.j3 kj10 x4_2 (!t218) l0_0 l0_1 ((rd_T46 l0_1 x4_2).f0) ((rd_T46 l0_1 x4_2).f1) ((rd_T46 l0_1 x4_2).f2)))) = some r := by rw [if_neg (show ¬ (false = true) by decide)] at H; exact H
           clear H
           have H := H1
           clear H1
           replace H := Option.bind_eq_some_iff.mp H
           obtain ⟨t218, A320, H⟩ := H
           replace H : (if ((rd_T46 l0_1 x4_2).f1) = 0 then (cohousingref23_Valid.j3 kj10 x4_2 false l0_0 l0_1 ((rd_T46 l0_1 x4_2).f0) ((rd_T46 l0_1 x4_2).f1) ((rd_T46 l0_1 x4_2).f2)) else (cohousingref23_Valid.j3 kj10 x4_2 (!t218) l0_0 l0_1 ((rd_T46 l0_1 x4_2).f0) ((rd_T46 l0_1 x4_2).f1) ((rd_T46 l0_1 x4_2).f2))) = some r := H
           have A32 := Aside0.mk A320
           clear A320
           have HC33 := Aside0.mk H
           clear H
           have hnb34 := NB213_216.out
           have hnc34 := NB216_213.out
           have hcz35_0 : wc.cell? ⟨gb213, 0, none⟩ = some (.slice A0_0 l0_0.length c0_0) := (blk_cell BK213.out 0).trans rfl
           have hcz35_1 : wc.cell? ⟨gb213, 1, none⟩ = some (.slice (some ad215) l0_1.length c0_1) := (blk_cell BK213.out 1).trans rfl
           have hfz35_0 := blk_frozen BK213.out 0
           have hfz35_1 := blk_frozen BK213.out 1
           have hcz36_0 : wc.cell? ⟨gb216, 0, none⟩ = some (.int .i64 ((rd_T46 l0_1 x4_2).f0)) := (blk_cell BK216.out 0).trans rfl
           have hcz36_1 : wc.cell? ⟨gb216, 1, none⟩ = some (.int .i64 ((rd_T46 l0_1 x4_2).f1)) := (blk_cell BK216.out 1).trans rfl
           have hcz36_2 : wc.cell? ⟨gb216, 2, none⟩ = some (.slice A215_2 ((rd_T46 l0_1 x4_2).f2).length c215_2) := (blk_cell BK216.out 2).trans rfl
           have hfz36_0 := blk_frozen BK216.out 0
           have hfz36_1 := blk_frozen BK216.out 1
           have hfz36_2 := blk_frozen BK216.out 2
           go_upto_region 11 with (first | (go_at_call 45; (with_reducible refine (cohousingref23_Has.calls kj10 _ _ l0_0 ((rd_T46 l0_1 x4_2).f1) t218 _ ?side1 ?side2 A32.out).mono ?_); (case side1 => exact cc_ ((Kd.C_below HR0_0.out HB.out))); (case side2 => exact HC0_0.out); rintro e w' ⟨rfl, ⟨nd, rfl⟩⟩; (try first | exact ⟨rfl, _, World.drewN_drewN _ _ _⟩ | exact ⟨rfl, _, Eq.trans (World.drewN_drewN _ _ _) (congrArg (World.drewN _) (Nat.add_assoc _ _ _))⟩)))
           repeat (go_quiet (first | (go_at_call 45; (with_reducible refine (cohousingref23_Has.calls kj10 _ _ l0_0 ((rd_T46 l0_1 x4_2).f1) t218 _ ?side1 ?side2 A32.out).mono ?_); (case side1 => exact cc_ ((Kd.C_below HR0_0.out HB.out))); (case side2 => exact HC0_0.out); rintro e w' ⟨rfl, ⟨nd, rfl⟩⟩; (try first | exact ⟨rfl, _, World.drewN_drewN _ _ _⟩ | exact ⟨rfl, _, Eq.trans (World.drewN_drewN _ _ _) (congrArg (World.drewN _) (Nat.add_assoc _ _ _))⟩))); go_upto_region 11 with (first | (go_at_call 45; (with_reducible refine (cohousingref23_Has.calls kj10 _ _ l0_0 ((rd_T46 l0_1 x4_2).f1) t218 _ ?side1 ?side2 A32.out).mono ?_); (case side1 => exact cc_ ((Kd.C_below HR0_0.out HB.out))); (case side2 => exact HC0_0.out); rintro e w' ⟨rfl, ⟨nd, rfl⟩⟩; (try first | exact ⟨rfl, _, World.drewN_drewN _ _ _⟩ | exact ⟨rfl, _, Eq.trans (World.drewN_drewN _ _ _) (congrArg (World.drewN _) (Nat.add_assoc _ _ _))⟩))))
           (try simp only [Act.put, sI_, s0_, sS_])
           go_cut [68] (fun v68 wc => ∃ (kq : Nat) (x68_32 : Bool), v68 = .bool x68_32 ∧ Aside0 (cohousingref23_Valid.j3 kq x4_2 x68_32 l0_0 l0_1 ((rd_T46 l0_1 x4_2).f0) ((rd_T46 l0_1 x4_2).f1) ((rd_T46 l0_1 x4_2).f2) = some r) ∧ Aside0 (kq ≤ kj10) ∧ Aside0 (wc.heap[gb213]? = some (.cells #[(.slice A0_0 l0_0.length c0_0), (.slice (some ad215) l0_1.length c0_1)] 25 (0, 0))) ∧ Aside0 (wc.heap[gb216]? = some (.cells #[.int .i64 ((rd_T46 l0_1 x4_2).f0), .int .i64 ((rd_T46 l0_1 x4_2).f1), (.slice A215_2 ((rd_T46 l0_1 x4_2).f2).length c215_2)] 46 (0, 0))) ∧ Aside0 (Below w.heap.size w wc))
           case first =>
            have H := HC33.out
            clear HC33
            by_cases c37 : ((rd_T46 l0_1 x4_2).f1) = 0
            ·rw [if_pos c37] at H
             have c37b0 : (((rd_T46 l0_1 x4_2).f1) == 0) = true := beq_iff_eq.mpr c37
             have c37b1 : (((rd_T46 l0_1 x4_2).f1) != 0) = false := bne_eq_false_iff_eq.mpr c37
             clear c37
             (first | rw [c37b0] | (simp only [i64_w, i32_w]; rw [c37b0]) | skip)
             have H' := Aside0.mk H
             clear H
             have hnb38 := NB216_213.out
             have hnc38 := NB213_216.out
             have hcz39_0 : wc.cell? ⟨gb216, 0, none⟩ = some (.int .i64 ((rd_T46 l0_1 x4_2).f0)) := (blk_cell BK216.out 0).trans rfl
             have hcz39_1 : wc.cell? ⟨gb216, 1, none⟩ = some (.int .i64 ((rd_T46 l0_1 x4_2).f1)) := (blk_cell BK216.out 1).trans rfl
             have hcz39_2 : wc.cell? ⟨gb216, 2, none⟩ = some (.slice A215_2 ((rd_T46 l0_1 x4_2).f2).length c215_2) := (blk_cell BK216.out 2).trans rfl
             have hfz39_0 := blk_frozen BK216.out 0
             have hfz39_1 := blk_frozen BK216.out 1
             have hfz39_2 := blk_frozen BK216.out 2
             go_wp2
             repeat (go_quiet (fail); try go_wp2)
             go_meet
             case rel => exact ⟨_, (false), sd_, H', ⟨by have := HJ2.out; have := HK2.out; have := HJ10.out; first | omega | exact Nat.le_refl _⟩, ⟨by (with_reducible repeat (first | refine blk_drewN ?_ _ | refine blk_drew ?_ | refine blk_alloc ?_ _)); exact BK213.out⟩, ⟨by (with_reducible repeat (first | refine blk_drewN ?_ _ | refine blk_drew ?_ | refine blk_alloc ?_ _)); exact BK216.out⟩, ⟨by repeat (first | (with_reducible first | exact HB.out | apply below_alloc | apply pw_below_drewN | apply below_drew1 | refine below_set ?_ GE213.out | refine below_set ?_ GE216.out) | exact HB.out)⟩⟩
            ·rw [if_neg c37] at H
             have c37b0 : (((rd_T46 l0_1 x4_2).f1) == 0) = false := beq_eq_false_iff_ne.mpr c37
             have c37b1 : (((rd_T46 l0_1 x4_2).f1) != 0) = true := bne_iff_ne.mpr c37
             (first | rw [c37b0] | (simp only [i64_w, i32_w]; rw [c37b0]) | skip)
             have H' := Aside0.mk H
             clear H
             have hnb40 := NB216_213.out
             have hnc40 := NB213_216.out
             have hcz41_0 : wc.cell? ⟨gb216, 0, none⟩ = some (.int .i64 ((rd_T46 l0_1 x4_2).f0)) := (blk_cell BK216.out 0).trans rfl
             have hcz41_1 : wc.cell? ⟨gb216, 1, none⟩ = some (.int .i64 ((rd_T46 l0_1 x4_2).f1)) := (blk_cell BK216.out 1).trans rfl
             have hcz41_2 : wc.cell? ⟨gb216, 2, none⟩ = some (.slice A215_2 ((rd_T46 l0_1 x4_2).f2).length c215_2) := (blk_cell BK216.out 2).trans rfl
             have hfz41_0 := blk_frozen BK216.out 0
             have hfz41_1 := blk_frozen BK216.out 1
             have hfz41_2 := blk_frozen BK216.out 2
             go_wp2
             repeat (go_quiet (fail); try go_wp2)
             go_meet
             case rel => exact ⟨_, (!t218), sd_, H', ⟨by have := HJ2.out; have := HK2.out; have := HJ10.out; first | omega | exact Nat.le_refl _⟩, ⟨by (with_reducible repeat (first | refine blk_drewN ?_ _ | refine blk_drew ?_ | refine blk_alloc ?_ _)); exact BK213.out⟩, ⟨by (with_reducible repeat (first | refine blk_drewN ?_ _ | refine blk_drew ?_ | refine blk_alloc ?_ _)); exact BK216.out⟩, ⟨by repeat (first | (with_reducible first | exact HB.out | apply below_alloc | apply pw_below_drewN | apply below_drew1 | refine below_set ?_ GE213.out | refine below_set ?_ GE216.out) | exact HB.out)⟩⟩
           case rest =>
            clear HC33
            try clear c1
            try clear c2
            try clear p2
            try clear q2
            try clear hx2
            try clear c3
            try clear c4
            try clear c6
            try clear p6
            try clear c8
            try clear c9
            try clear c9b0
            try clear c10
            try clear c10b0
            try clear c14
            try clear c16
            try clear c16b0
            try clear c17
            try clear c19
            try clear c19b0
            try clear c20
            try clear c21
            try clear p21
            try clear q21
            try clear hx21
            try clear c22
            try clear c22b0
            try clear c24
            try clear c24b0
            try clear c25
            try clear c25b0
            try clear c26
            try clear c29
            try clear c31
            try clear c34
            try clear c37
            try clear c37b0
            try clear c37b1
            try clear c38
            try clear c40
            try clear hcz12_0
            try clear hcz12_1
            try clear hcz15_0
            try clear hcz15_1
            try clear hcz15_2
            try clear hcz18_0
            try clear hcz18_1
            try clear hcz18_2
            try clear hcz21_0
            try clear hcz21_1
            try clear hcz21_2
            try clear hcz27_0
            try clear hcz27_1
            try clear hcz27_2
            try clear hcz28_0
            try clear hcz28_1
            try clear hcz30_0
            try clear hcz30_1
            try clear hcz30_2
            try clear hcz35_0
            try clear hcz35_1
            try clear hcz36_0
            try clear hcz36_1
            try clear hcz36_2
            try clear hcz39_0
            try clear hcz39_1
            try clear hcz39_2
            try clear hcz41_0
            try clear hcz41_1
            try clear hcz41_2
            try clear hcz5_0
            try clear hcz5_1
            try clear hcz7_0
            try clear hcz7_1
            try clear hfz12_0
            try clear hfz12_1
            try clear hfz15_0
            try clear hfz15_1
            try clear hfz15_2
            try clear hfz18_0
            try clear hfz18_1
            try clear hfz18_2
            try clear hfz21_0
            try clear hfz21_1
            try clear hfz21_2
            try clear hfz27_0
            try clear hfz27_1
            try clear hfz27_2
            try clear hfz28_0
            try clear hfz28_1
            try clear hfz30_0
            try clear hfz30_1
            try clear hfz30_2
            try clear hfz35_0
            try clear hfz35_1
            try clear hfz36_0
            try clear hfz36_1
            try clear hfz36_2
            try clear hfz39_0
            try clear hfz39_1
            try clear hfz39_2
            try clear hfz41_0
            try clear hfz41_1
            try clear hfz41_2
            try clear hfz5_0
            try clear hfz5_1
            try clear hfz7_0
            try clear hfz7_1
            try clear hx215_0
            try clear hx215_1
            try clear hx215_2
            try clear hx217_0
            try clear hx217_1
            try clear hx217_2
            try clear p2
            try clear p21
            try clear p215
            try clear p217
            try clear p6
            try clear q2
            try clear q21
            try clear q215
            try clear q217
            obtain ⟨kq, x68_32, rfl, HA, HJ32, BK213, BK216, HB⟩ := hcut
            cases kq with
            | zero => exact absurd HA.out (by simp [cohousingref23_Valid.j3])
            | succ kj32 =>
             have H := HA.out
             clear HA
             simp only [cohousingref23_Valid.j3] at H
             by_cases c42 : x68_32 = true
             ·subst c42
              have H1 : (some false) = some r := by rw [if_pos rfl] at H; exact H
              clear H
              have H := H1
              clear H1
              obtain rfl := Option.some.inj H
              go_wp2
              repeat (go_quiet (fail); try go_wp2)
              go_ret
              exact ⟨ew_, by repeat (first | (with_reducible first | exact HB.out | apply below_alloc | apply pw_below_drewN | apply below_drew1 | refine below_set ?_ GE213.out | refine below_set ?_ GE216.out) | exact HB.out)⟩
             ·replace c42 := Bool.eq_false_iff.mpr c42
              subst c42
              have H1 : (cohousingref23_Valid.l1 kj32 x4_2 0 l0_0 l0_1 ((rd_T46 l0_1 x4_2).f0) ((rd_T46 l0_1 x4_2).f1) ((rd_T46 l0_1 x4_2).f2)) = some r := by rw [if_neg (show ¬ (false = true) by decide)] at H; exact H
              clear H
              have H := H1
              clear H1
              have H' := Aside0.mk H
              clear H
              go_wp2
              repeat (go_quiet (fail); try go_wp2)
              go_loopg [7] kj32 (fun kq v7 w' => ∃ (x7_5 : Int), v7 = .int .i64 x7_5 ∧ Aside0 (cohousingref23_Valid.l1 kq x4_2 x7_5 l0_0 l0_1 ((rd_T46 l0_1 x4_2).f0) ((rd_T46 l0_1 x4_2).f1) ((rd_T46 l0_1 x4_2).f2) = some r) ∧ Aside0 (kq ≤ kj32) ∧ Aside0 (w'.heap[gb213]? = some (.cells #[(.slice A0_0 l0_0.length c0_0), (.slice (some ad215) l0_1.length c0_1)] 25 (0, 0))) ∧ Aside0 (w'.heap[gb216]? = some (.cells #[.int .i64 ((rd_T46 l0_1 x4_2).f0), .int .i64 ((rd_T46 l0_1 x4_2).f1), (.slice A215_2 ((rd_T46 l0_1 x4_2).f2).length c215_2)] 46 (0, 0))) ∧ Aside0 (Below w.heap.size w w'))
              case atStart => exact ⟨(0), sd_, H', ⟨Nat.le_refl _⟩, ⟨by (with_reducible repeat (first | refine blk_drewN ?_ _ | refine blk_drew ?_ | refine blk_alloc ?_ _)); exact BK213.out⟩, ⟨by (with_reducible repeat (first | refine blk_drewN ?_ _ | refine blk_drew ?_ | refine blk_alloc ?_ _)); exact BK216.out⟩, ⟨by repeat (first | (with_reducible first | exact HB.out | apply below_alloc | apply pw_below_drewN | apply below_drew1 | refine below_set ?_ GE213.out | refine below_set ?_ GE216.out) | exact HB.out)⟩⟩
              case round =>
               clear H'
               try clear c1
               try clear c2
               try clear p2
               try clear q2
               try clear hx2
               try clear c3
               try clear c4
               try clear c6
               try clear p6
               try clear c8
               try clear c9
               try clear c9b0
               try clear c10
               try clear c10b0
               try clear c14
               try clear c16
               try clear c16b0
               try clear c17
               try clear c19
               try clear c19b0
               try clear c20
               try clear c21
               try clear p21
               try clear q21
               try clear hx21
               try clear c22
               try clear c22b0
               try clear c24
               try clear c24b0
               try clear c25
               try clear c25b0
               try clear c26
               try clear c29
               try clear c31
               try clear c34
               try clear c37
               try clear c37b0
               try clear c37b1
               try clear c38
               try clear c40
               try clear c42
               try clear hcz12_0
               try clear hcz12_1
               try clear hcz15_0
               try clear hcz15_1
               try clear hcz15_2
               try clear hcz18_0
               try clear hcz18_1
               try clear hcz18_2
               try clear hcz21_0
               try clear hcz21_1
               try clear hcz21_2
               try clear hcz27_0
               try clear hcz27_1
               try clear hcz27_2
               try clear hcz28_0
               try clear hcz28_1
               try clear hcz30_0
               try clear hcz30_1
               try clear hcz30_2
               try clear hcz35_0
               try clear hcz35_1
               try clear hcz36_0
               try clear hcz36_1
               try clear hcz36_2
               try clear hcz39_0
               try clear hcz39_1
               try clear hcz39_2
               try clear hcz41_0
               try clear hcz41_1
               try clear hcz41_2
               try clear hcz5_0
               try clear hcz5_1
               try clear hcz7_0
               try clear hcz7_1
               try clear hfz12_0
               try clear hfz12_1
               try clear hfz15_0
               try clear hfz15_1
               try clear hfz15_2
               try clear hfz18_0
               try clear hfz18_1
               try clear hfz18_2
               try clear hfz21_0
               try clear hfz21_1
               try clear hfz21_2
               try clear hfz27_0
               try clear hfz27_1
               try clear hfz27_2
               try clear hfz28_0
               try clear hfz28_1
               try clear hfz30_0
               try clear hfz30_1
               try clear hfz30_2
               try clear hfz35_0
               try clear hfz35_1
               try clear hfz36_0
               try clear hfz36_1
               try clear hfz36_2
               try clear hfz39_0
               try clear hfz39_1
               try clear hfz39_2
               try clear hfz41_0
               try clear hfz41_1
               try clear hfz41_2
               try clear hfz5_0
               try clear hfz5_1
               try clear hfz7_0
               try clear hfz7_1
               try clear hx215_0
               try clear hx215_1
               try clear hx215_2
               try clear hx217_0
               try clear hx217_1
               try clear hx217_2
               try clear p2
               try clear p21
               try clear p215
               try clear p217
               try clear p6
               try clear q2
               try clear q21
               try clear q215
               try clear q217
               obtain ⟨x7_5, rfl, HA, HK5, BK213, BK216, HB⟩ := hrel
               cases gk with
               | zero => exact absurd HA.out (by simp [cohousingref23_Valid.l1])
               | succ k5 =>
                have H := HA.out
                clear HA
                simp only [cohousingref23_Valid.l1] at H
                by_cases c43 : x7_5 < x4_2
                ·rw [if_pos c43] at H
                 have c43b0 : decide (x7_5 < x4_2) = true := decide_eq_true c43
                 clear c43
                 by_cases c44 : ((rd_T46 l0_1 x4_2).f1) = 0
                 ·rw [if_pos c44] at H
                  have c44b0 : (((rd_T46 l0_1 x4_2).f1) == 0) = true := beq_iff_eq.mpr c44
                  have c44b1 : (((rd_T46 l0_1 x4_2).f1) != 0) = false := bne_eq_false_iff_eq.mpr c44
                  clear c44
                  have H' := Aside0.mk H
                  clear H
                  have hnb45 := NB216_213.out
                  have hnc45 := NB213_216.out
                  have hcz46_0 : wr.cell? ⟨gb216, 0, none⟩ = some (.int .i64 ((rd_T46 l0_1 x4_2).f0)) := (blk_cell BK216.out 0).trans rfl
                  have hcz46_1 : wr.cell? ⟨gb216, 1, none⟩ = some (.int .i64 ((rd_T46 l0_1 x4_2).f1)) := (blk_cell BK216.out 1).trans rfl
                  have hcz46_2 : wr.cell? ⟨gb216, 2, none⟩ = some (.slice A215_2 ((rd_T46 l0_1 x4_2).f2).length c215_2) := (blk_cell BK216.out 2).trans rfl
                  have hfz46_0 := blk_frozen BK216.out 0
                  have hfz46_1 := blk_frozen BK216.out 1
                  have hfz46_2 := blk_frozen BK216.out 2
                  go_wp2
                  repeat (go_quiet (fail); try go_wp2)
                  go_roundg k5
                  case measure => have := HJ2.out; have := HK2.out; have := HJ10.out; have := HJ32.out; have := HK5.out; omega
                  case rel => exact ⟨(wrap64 (x7_5 + 1)), sd_, H', ⟨by have := HJ2.out; have := HK2.out; have := HJ10.out; have := HJ32.out; have := HK5.out; omega⟩, ⟨by (with_reducible repeat (first | refine blk_drewN ?_ _ | refine blk_drew ?_ | refine blk_alloc ?_ _)); exact BK213.out⟩, ⟨by (with_reducible repeat (first | refine blk_drewN ?_ _ | refine blk_drew ?_ | refine blk_alloc ?_ _)); exact BK216.out⟩, ⟨by repeat (first | (with_reducible first | exact HB.out | apply below_alloc | apply pw_below_drewN | apply below_drew1 | refine below_set ?_ GE213.out | refine below_set ?_ GE216.out) | exact HB.out)⟩⟩
                 ·rw [if_neg c44] at H
                  have c44b0 : (((rd_T46 l0_1 x4_2).f1) == 0) = false := beq_eq_false_iff_ne.mpr c44
                  have c44b1 : (((rd_T46 l0_1 x4_2).f1) != 0) = true := bne_iff_ne.mpr c44
                  by_cases c47 : 0 ≤ x7_5
                  ·rw [if_pos c47] at H
                   have c47b0 : decide (0 ≤ x7_5) = true := decide_eq_true c47
                   clear c47
                   by_cases c48 : x7_5 < (l0_1.length : Int)
                   ·rw [if_pos c48] at H
                    have c48b0 : decide (x7_5 < (l0_1.length : Int)) = true := decide_eq_true c48
                    clear c48
                    by_cases c49 : ((rd_T46 l0_1 x7_5).f1) = ((rd_T46 l0_1 x4_2).f1)
                    ·rw [if_pos c49] at H
                     have c49b0 : (((rd_T46 l0_1 x7_5).f1) == ((rd_T46 l0_1 x4_2).f1)) = true := beq_iff_eq.mpr c49
                     have c49b1 : (((rd_T46 l0_1 x7_5).f1) != ((rd_T46 l0_1 x4_2).f1)) = false := bne_eq_false_iff_eq.mpr c49
                     clear c49
                     obtain rfl := Option.some.inj H
                     have hnb50 := NB216_213.out
                     have hnc50 := NB213_216.out
                     have hcz51_0 : wr.cell? ⟨gb216, 0, none⟩ = some (.int .i64 ((rd_T46 l0_1 x4_2).f0)) := (blk_cell BK216.out 0).trans rfl
                     have hcz51_1 : wr.cell? ⟨gb216, 1, none⟩ = some (.int .i64 ((rd_T46 l0_1 x4_2).f1)) := (blk_cell BK216.out 1).trans rfl
                     have hcz51_2 : wr.cell? ⟨gb216, 2, none⟩ = some (.slice A215_2 ((rd_T46 l0_1 x4_2).f2).length c215_2) := (blk_cell BK216.out 2).trans rfl
                     have hfz51_0 := blk_frozen BK216.out 0
                     have hfz51_1 := blk_frozen BK216.out 1
                     have hfz51_2 := blk_frozen BK216.out 2
                     have hcz52_0 : wr.cell? ⟨gb213, 0, none⟩ = some (.slice A0_0 l0_0.length c0_0) := (blk_cell BK213.out 0).trans rfl
                     have hcz52_1 : wr.cell? ⟨gb213, 1, none⟩ = some (.slice (some ad215) l0_1.length c0_1) := (blk_cell BK213.out 1).trans rfl
                     have hfz52_0 := blk_frozen BK213.out 0
                     have hfz52_1 := blk_frozen BK213.out 1
                     have p219 : 0 ≤ (x7_5 : Int) := od_
                     have q219 : x7_5 < (l0_1.length : Int) := od_
                     obtain ⟨ad219, A219_2, c219_2, e219, hx219_0, hx219_1, hx219_2, hl219_2, hi219_2⟩ := at_T46 HR0_1.out x7_5 p219 q219
                     obtain rfl : ad215 = ad219 := (by injection e219)
                     replace hx219_0 := (HB.out.cell (World.block_lt_of_cell? w _ hx219_0)).trans hx219_0
                     replace hx219_1 := (HB.out.cell (World.block_lt_of_cell? w _ hx219_1)).trans hx219_1
                     replace hx219_2 := (HB.out.cell (World.block_lt_of_cell? w _ hx219_2)).trans hx219_2
                     have HR219_2 := Aside0.mk hi219_2
                     have HC219_2 := Aside0.mk hl219_2
                     clear hi219_2 hl219_2
                     replace p219 := eq_true p219
                     replace q219 := eq_true q219
                     go_wp2
                     repeat (go_quiet (fail); try go_wp2)
                     go_ret
                     exact ⟨ew_, by repeat (first | (with_reducible first | exact HB.out | apply below_alloc | apply pw_below_drewN | apply below_drew1 | refine below_set ?_ GE213.out | refine below_set ?_ GE216.out) | exact HB.out)⟩
                    ·rw [if_neg c49] at H
                     have c49b0 : (((rd_T46 l0_1 x7_5).f1) == ((rd_T46 l0_1 x4_2).f1)) = false := beq_eq_false_iff_ne.mpr c49
                     have c49b1 : (((rd_T46 l0_1 x7_5).f1) != ((rd_T46 l0_1 x4_2).f1)) = true := bne_iff_ne.mpr c49
                     have H' := Aside0.mk H
                     clear H
                     have hnb53 := NB216_213.out
                     have hnc53 := NB213_216.out
                     have hcz54_0 : wr.cell? ⟨gb216, 0, none⟩ = some (.int .i64 ((rd_T46 l0_1 x4_2).f0)) := (blk_cell BK216.out 0).trans rfl
                     have hcz54_1 : wr.cell? ⟨gb216, 1, none⟩ = some (.int .i64 ((rd_T46 l0_1 x4_2).f1)) := (blk_cell BK216.out 1).trans rfl
                     have hcz54_2 : wr.cell? ⟨gb216, 2, none⟩ = some (.slice A215_2 ((rd_T46 l0_1 x4_2).f2).length c215_2) := (blk_cell BK216.out 2).trans rfl
                     have hfz54_0 := blk_frozen BK216.out 0
                     have hfz54_1 := blk_frozen BK216.out 1
                     have hfz54_2 := blk_frozen BK216.out 2
                     have hcz55_0 : wr.cell? ⟨gb213, 0, none⟩ = some (.slice A0_0 l0_0.length c0_0) := (blk_cell BK213.out 0).trans rfl
                     have hcz55_1 : wr.cell? ⟨gb213, 1, none⟩ = some (.slice (some ad215) l0_1.length c0_1) := (blk_cell BK213.out 1).trans rfl
                     have hfz55_0 := blk_frozen BK213.out 0
                     have hfz55_1 := blk_frozen BK213.out 1
                     have p219 : 0 ≤ (x7_5 : Int) := od_
                     have q219 : x7_5 < (l0_1.length : Int) := od_
                     obtain ⟨ad219, A219_2, c219_2, e219, hx219_0, hx219_1, hx219_2, hl219_2, hi219_2⟩ := at_T46 HR0_1.out x7_5 p219 q219
                     obtain rfl : ad215 = ad219 := (by injection e219)
                     replace hx219_0 := (HB.out.cell (World.block_lt_of_cell? w _ hx219_0)).trans hx219_0
                     replace hx219_1 := (HB.out.cell (World.block_lt_of_cell? w _ hx219_1)).trans hx219_1
                     replace hx219_2 := (HB.out.cell (World.block_lt_of_cell? w _ hx219_2)).trans hx219_2
                     have HR219_2 := Aside0.mk hi219_2
                     have HC219_2 := Aside0.mk hl219_2
                     clear hi219_2 hl219_2
                     replace p219 := eq_true p219
                     replace q219 := eq_true q219
                     go_wp2
                     repeat (go_quiet (fail); try go_wp2)
                     go_roundg k5
                     case measure => have := HJ2.out; have := HK2.out; have := HJ10.out; have := HJ32.out; have := HK5.out; omega
                     case rel => exact ⟨(wrap64 (x7_5 + 1)), sd_, H', ⟨by have := HJ2.out; have := HK2.out; have := HJ10.out; have := HJ32.out; have := HK5.out; omega⟩, ⟨by (with_reducible repeat (first | refine blk_drewN ?_ _ | refine blk_drew ?_ | refine blk_alloc ?_ _)); exact BK213.out⟩, ⟨by (with_reducible repeat (first | refine blk_drewN ?_ _ | refine blk_drew ?_ | refine blk_alloc ?_ _)); exact BK216.out⟩, ⟨by repeat (first | (with_reducible first | exact HB.out | apply below_alloc | apply pw_below_drewN | apply below_drew1 | refine below_set ?_ GE213.out | refine below_set ?_ GE216.out) | exact HB.out)⟩⟩
                   ·rw [if_neg c48] at H
                    exact absurd H (by simp)
                  ·rw [if_neg c47] at H
                   exact absurd H (by simp)
                ·rw [if_neg c43] at H
                 have c43b0 : decide (x7_5 < x4_2) = false := decide_eq_false c43
                 clear c43
                 have H' := Aside0.mk H
                 clear H
                 go_wp2
                 repeat (go_quiet (fail); try go_wp2)
                 go_loopg [8] k5 (fun kq v8 w' => ∃ (x8_6 : Int), v8 = .int .i64 x8_6 ∧ Aside0 (cohousingref23_Valid.l2 kq x4_2 x8_6 l0_0 l0_1 ((rd_T46 l0_1 x4_2).f0) ((rd_T46 l0_1 x4_2).f1) ((rd_T46 l0_1 x4_2).f2) = some r) ∧ Aside0 (kq ≤ k5) ∧ Aside0 (w'.heap[gb213]? = some (.cells #[(.slice A0_0 l0_0.length c0_0), (.slice (some ad215) l0_1.length c0_1)] 25 (0, 0))) ∧ Aside0 (w'.heap[gb216]? = some (.cells #[.int .i64 ((rd_T46 l0_1 x4_2).f0), .int .i64 ((rd_T46 l0_1 x4_2).f1), (.slice A215_2 ((rd_T46 l0_1 x4_2).f2).length c215_2)] 46 (0, 0))) ∧ Aside0 (Below w.heap.size w w'))
                 case atStart => exact ⟨(0), sd_, H', ⟨Nat.le_refl _⟩, ⟨by (with_reducible repeat (first | refine blk_drewN ?_ _ | refine blk_drew ?_ | refine blk_alloc ?_ _)); exact BK213.out⟩, ⟨by (with_reducible repeat (first | refine blk_drewN ?_ _ | refine blk_drew ?_ | refine blk_alloc ?_ _)); exact BK216.out⟩, ⟨by repeat (first | (with_reducible first | exact HB.out | apply below_alloc | apply pw_below_drewN | apply below_drew1 | refine below_set ?_ GE213.out | refine below_set ?_ GE216.out) | exact HB.out)⟩⟩
                 case round =>
                  clear H'
                  try clear c1
                  try clear c2
                  try clear p2
                  try clear q2
                  try clear hx2
                  try clear c3
                  try clear c4
                  try clear c5
                  try clear c6
                  try clear p6
                  try clear c8
                  try clear c9
                  try clear c9b0
                  try clear c10
                  try clear c10b0
                  try clear c14
                  try clear c16
                  try clear c16b0
                  try clear c17
                  try clear c19
                  try clear c19b0
                  try clear c20
                  try clear c21
                  try clear p21
                  try clear q21
                  try clear hx21
                  try clear c22
                  try clear c22b0
                  try clear c24
                  try clear c24b0
                  try clear c25
                  try clear c25b0
                  try clear c26
                  try clear c29
                  try clear c31
                  try clear c34
                  try clear c37
                  try clear c37b0
                  try clear c37b1
                  try clear c38
                  try clear c40
                  try clear c42
                  try clear c43
                  try clear c43b0
                  try clear c44
                  try clear c44b0
                  try clear c44b1
                  try clear c45
                  try clear c47
                  try clear c47b0
                  try clear c48
                  try clear c48b0
                  try clear c49
                  try clear c49b0
                  try clear c49b1
                  try clear c50
                  try clear c53
                  try clear hcz12_0
                  try clear hcz12_1
                  try clear hcz15_0
                  try clear hcz15_1
                  try clear hcz15_2
                  try clear hcz18_0
                  try clear hcz18_1
                  try clear hcz18_2
                  try clear hcz21_0
                  try clear hcz21_1
                  try clear hcz21_2
                  try clear hcz27_0
                  try clear hcz27_1
                  try clear hcz27_2
                  try clear hcz28_0
                  try clear hcz28_1
                  try clear hcz30_0
                  try clear hcz30_1
                  try clear hcz30_2
                  try clear hcz35_0
                  try clear hcz35_1
                  try clear hcz36_0
                  try clear hcz36_1
                  try clear hcz36_2
                  try clear hcz39_0
                  try clear hcz39_1
                  try clear hcz39_2
                  try clear hcz41_0
                  try clear hcz41_1
                  try clear hcz41_2
                  try clear hcz46_0
                  try clear hcz46_1
                  try clear hcz46_2
                  try clear hcz51_0
                  try clear hcz51_1
                  try clear hcz51_2
                  try clear hcz52_0
                  try clear hcz52_1
                  try clear hcz54_0
                  try clear hcz54_1
                  try clear hcz54_2
                  try clear hcz55_0
                  try clear hcz55_1
                  try clear hcz5_0
                  try clear hcz5_1
                  try clear hcz7_0
                  try clear hcz7_1
                  try clear hfz12_0
                  try clear hfz12_1
                  try clear hfz15_0
                  try clear hfz15_1
                  try clear hfz15_2
                  try clear hfz18_0
                  try clear hfz18_1
                  try clear hfz18_2
                  try clear hfz21_0
                  try clear hfz21_1
                  try clear hfz21_2
                  try clear hfz27_0
                  try clear hfz27_1
                  try clear hfz27_2
                  try clear hfz28_0
                  try clear hfz28_1
                  try clear hfz30_0
                  try clear hfz30_1
                  try clear hfz30_2
                  try clear hfz35_0
                  try clear hfz35_1
                  try clear hfz36_0
                  try clear hfz36_1
                  try clear hfz36_2
                  try clear hfz39_0
                  try clear hfz39_1
                  try clear hfz39_2
                  try clear hfz41_0
                  try clear hfz41_1
                  try clear hfz41_2
                  try clear hfz46_0
                  try clear hfz46_1
                  try clear hfz46_2
                  try clear hfz51_0
                  try clear hfz51_1
                  try clear hfz51_2
                  try clear hfz52_0
                  try clear hfz52_1
                  try clear hfz54_0
                  try clear hfz54_1
                  try clear hfz54_2
                  try clear hfz55_0
                  try clear hfz55_1
                  try clear hfz5_0
                  try clear hfz5_1
                  try clear hfz7_0
                  try clear hfz7_1
                  try clear hx215_0
                  try clear hx215_1
                  try clear hx215_2
                  try clear hx217_0
                  try clear hx217_1
                  try clear hx217_2
                  try clear hx219_0
                  try clear hx219_1
                  try clear hx219_2
                  try clear p2
                  try clear p21
                  try clear p215
                  try clear p217
                  try clear p219
                  try clear p6
                  try clear q2
                  try clear q21
                  try clear q215
                  try clear q217
                  try clear q219
                  obtain ⟨x8_6, rfl, HA, HK6, BK213, BK216, HB⟩ := hrel
                  cases gk with
                  | zero => exact absurd HA.out (by simp [cohousingref23_Valid.l2])
                  | succ k6 =>
                   have H := HA.out
                   clear HA
                   simp only [cohousingref23_Valid.l2] at H
                   by_cases c56 : x8_6 < (((rd_T46 l0_1 x4_2).f2).length : Int)
                   ·rw [if_pos c56] at H
                    have c56b0 : decide (x8_6 < (((rd_T46 l0_1 x4_2).f2).length : Int)) = true := decide_eq_true c56
                    clear c56
                    by_cases c57 : 0 ≤ x8_6
                    ·rw [if_pos c57] at H
                     have c57b0 : decide (0 ≤ x8_6) = true := decide_eq_true c57
                     clear c57
                     replace H := Option.bind_eq_some_iff.mp H
                     obtain ⟨t221, A580, H⟩ := H
                     replace H : (if t221 = true then ((cohousingref23_In.f k6 ((rd_T46 l0_1 x4_2).f2) (rd ((rd_T46 l0_1 x4_2).f2) x8_6)).bind fun t223 => (if t223 = x8_6 then (cohousingref23_Valid.l2 k6 x4_2 (wrap64 (x8_6 + 1)) l0_0 l0_1 ((rd_T46 l0_1 x4_2).f0) ((rd_T46 l0_1 x4_2).f1) ((rd_T46 l0_1 x4_2).f2)) else (some false))) else (some false)) = some r := H
                     have A58 := Aside0.mk A580
                     clear A580
                     by_cases c59 : t221 = true
                     ·subst c59
                      have H1 : ((cohousingref23_In.f k6 ((rd_T46 l0_1 x4_2).f2) (rd ((rd_T46 l0_1 x4_2).f2) x8_6)).bind fun t223 => (if t223 = x8_6 then (cohousingref23_Valid.l2 k6 x4_2 (wrap64 (x8_6 + 1)) l0_0 l0_1 ((rd_T46 l0_1 x4_2).f0) ((rd_T46 l0_1 x4_2).f1) ((rd_T46 l0_1 x4_2).f2)) else (some false))) = some r := by rw [if_pos rfl] at H; exact H
                      clear H
                      have H := H1
                      clear H1
                      replace H := Option.bind_eq_some_iff.mp H
                      obtain ⟨t223, A600, H⟩ := H
                      replace H : (if t223 = x8_6 then (cohousingref23_Valid.l2 k6 x4_2 (wrap64 (x8_6 + 1)) l0_0 l0_1 ((rd_T46 l0_1 x4_2).f0) ((rd_T46 l0_1 x4_2).f1) ((rd_T46 l0_1 x4_2).f2)) else (some false)) = some r := H
                      have A60 := Aside0.mk A600
                      clear A600
                      by_cases c61 : t223 = x8_6
                      ·rw [if_pos c61] at H
                       have c61b0 : (t223 == x8_6) = true := beq_iff_eq.mpr c61
                       have c61b1 : (t223 != x8_6) = false := bne_eq_false_iff_eq.mpr c61
                       clear c61
                       have H' := Aside0.mk H
                       clear H
                       have hnb62 := NB216_213.out
                       have hnc62 := NB213_216.out
                       have hcz63_0 : wr.cell? ⟨gb216, 0, none⟩ = some (.int .i64 ((rd_T46 l0_1 x4_2).f0)) := (blk_cell BK216.out 0).trans rfl
                       have hcz63_1 : wr.cell? ⟨gb216, 1, none⟩ = some (.int .i64 ((rd_T46 l0_1 x4_2).f1)) := (blk_cell BK216.out 1).trans rfl
                       have hcz63_2 : wr.cell? ⟨gb216, 2, none⟩ = some (.slice A215_2 ((rd_T46 l0_1 x4_2).f2).length c215_2) := (blk_cell BK216.out 2).trans rfl
                       have hfz63_0 := blk_frozen BK216.out 0
                       have hfz63_1 := blk_frozen BK216.out 1
                       have hfz63_2 := blk_frozen BK216.out 2
                       have hcz64_0 : wr.cell? ⟨gb213, 0, none⟩ = some (.slice A0_0 l0_0.length c0_0) := (blk_cell BK213.out 0).trans rfl
                       have hcz64_1 : wr.cell? ⟨gb213, 1, none⟩ = some (.slice (some ad215) l0_1.length c0_1) := (blk_cell BK213.out 1).trans rfl
                       have hfz64_0 := blk_frozen BK213.out 0
                       have hfz64_1 := blk_frozen BK213.out 1
                       have p220 : 0 ≤ (x8_6 : Int) := od_
                       have q220 : x8_6 < (((rd_T46 l0_1 x4_2).f2).length : Int) := od_
                       obtain ⟨ad220, e220, hx220_0⟩ := Kd.at_int HR215_2.out x8_6 p220 q220
                       cases e220
                       replace hx220_0 := (HB.out.cell (World.block_lt_of_cell? w _ hx220_0)).trans hx220_0
                       replace p220 := eq_true p220
                       replace q220 := eq_true q220
                       go_wp2_with (first | (go_at_call 45; (with_reducible refine (cohousingref23_Has.calls k6 _ _ l0_0 (rd ((rd_T46 l0_1 x4_2).f2) x8_6) true _ ?side1 ?side2 A58.out).mono ?_); (case side1 => exact cc_ ((Kd.C_below HR0_0.out HB.out))); (case side2 => exact HC0_0.out); rintro e w' ⟨rfl, ⟨nd, rfl⟩⟩; (try first | exact ⟨rfl, _, World.drewN_drewN _ _ _⟩ | exact ⟨rfl, _, Eq.trans (World.drewN_drewN _ _ _) (congrArg (World.drewN _) (Nat.add_assoc _ _ _))⟩); have p222 : 0 ≤ (x8_6 : Int) := od_; have q222 : x8_6 < (((rd_T46 l0_1 x4_2).f2).length : Int) := od_; obtain ⟨ad222, e222, hx222_0⟩ := Kd.at_int HR215_2.out x8_6 p222 q222; obtain rfl : ad220 = ad222 := (by injection e222); replace hx222_0 := (HB.out.cell (World.block_lt_of_cell? w _ hx222_0)).trans hx222_0; replace p222 := eq_true p222; replace q222 := eq_true q222) | (go_at_call 24; (with_reducible refine (cohousingref23_In.calls k6 _ _ ((rd_T46 l0_1 x4_2).f2) (rd ((rd_T46 l0_1 x4_2).f2) x8_6) t223 _ ?side1 ?side2 A60.out).mono ?_); (case side1 => repeat (first | exact (Kd.C_below HR215_2.out (by repeat (first | (with_reducible first | exact HB.out | apply below_alloc | apply pw_below_drewN | apply below_drew1 | refine below_set ?_ GE213.out | refine below_set ?_ GE216.out) | exact HB.out))) | (with_reducible refine Kd.C_alloc ?_ _) | (with_reducible refine Kd.C_drewN ?_ _) | (with_reducible refine Kd.C_drew ?_))); (case side2 => exact HC215_2.out); rintro e w' ⟨rfl, ⟨nd, rfl⟩⟩; (try first | exact ⟨rfl, _, World.drewN_drewN _ _ _⟩ | exact ⟨rfl, _, Eq.trans (World.drewN_drewN _ _ _) (congrArg (World.drewN _) (Nat.add_assoc _ _ _))⟩)))
                       repeat (go_quiet (first | (go_at_call 45; (with_reducible refine (cohousingref23_Has.calls k6 _ _ l0_0 (rd ((rd_T46 l0_1 x4_2).f2) x8_6) true _ ?side1 ?side2 A58.out).mono ?_); (case side1 => exact cc_ ((Kd.C_below HR0_0.out HB.out))); (case side2 => exact HC0_0.out); rintro e w' ⟨rfl, ⟨nd, rfl⟩⟩; (try first | exact ⟨rfl, _, World.drewN_drewN _ _ _⟩ | exact ⟨rfl, _, Eq.trans (World.drewN_drewN _ _ _) (congrArg (World.drewN _) (Nat.add_assoc _ _ _))⟩); have p222 : 0 ≤ (x8_6 : Int) := od_; have q222 : x8_6 < (((rd_T46 l0_1 x4_2).f2).length : Int) := od_; obtain ⟨ad222, e222, hx222_0⟩ := Kd.at_int HR215_2.out x8_6 p222 q222; obtain rfl : ad220 = ad222 := (by injection e222); replace hx222_0 := (HB.out.cell (World.block_lt_of_cell? w _ hx222_0)).trans hx222_0; replace p222 := eq_true p222; replace q222 := eq_true q222) | (go_at_call 24; (with_reducible refine (cohousingref23_In.calls k6 _ _ ((rd_T46 l0_1 x4_2).f2) (rd ((rd_T46 l0_1 x4_2).f2) x8_6) t223 _ ?side1 ?side2 A60.out).mono ?_); (case side1 => repeat (first | exact (Kd.C_below HR215_2.out (by repeat (first | (with_reducible first | exact HB.out | apply below_alloc | apply pw_below_drewN | apply below_drew1 | refine below_set ?_ GE213.out | refine below_set ?_ GE216.out) | exact HB.out))) | (with_reducible refine Kd.C_alloc ?_ _) | (with_reducible refine Kd.C_drewN ?_ _) | (with_reducible refine Kd.C_drew ?_))); (case side2 => exact HC215_2.out); rintro e w' ⟨rfl, ⟨nd, rfl⟩⟩; (try first | exact ⟨rfl, _, World.drewN_drewN _ _ _⟩ | exact ⟨rfl, _, Eq.trans (World.drewN_drewN _ _ _) (congrArg (World.drewN _) (Nat.add_assoc _ _ _))⟩))); try go_wp2_with (first | (go_at_call 45; (with_reducible refine (cohousingref23_Has.calls k6 _ _ l0_0 (rd ((rd_T46 l0_1 x4_2).f2) x8_6) true _ ?side1 ?side2 A58.out).mono ?_); (case side1 => exact cc_ ((Kd.C_below HR0_0.out HB.out))); (case side2 => exact HC0_0.out); rintro e w' ⟨rfl, ⟨nd, rfl⟩⟩; (try first | exact ⟨rfl, _, World.drewN_drewN _ _ _⟩ | exact ⟨rfl, _, Eq.trans (World.drewN_drewN _ _ _) (congrArg (World.drewN _) (Nat.add_assoc _ _ _))⟩); have p222 : 0 ≤ (x8_6 : Int) := od_; have q222 : x8_6 < (((rd_T46 l0_1 x4_2).f2).length : Int) := od_; obtain ⟨ad222, e222, hx222_0⟩ := Kd.at_int HR215_2.out x8_6 p222 q222; obtain rfl : ad220 = ad222 := (by injection e222); replace hx222_0 := (HB.out.cell (World.block_lt_of_cell? w _ hx222_0)).trans hx222_0; replace p222 := eq_true p222; replace q222 := eq_true q222) | (go_at_call 24; (with_reducible refine (cohousingref23_In.calls k6 _ _ ((rd_T46 l0_1 x4_2).f2) (rd ((rd_T46 l0_1 x4_2).f2) x8_6) t223 _ ?side1 ?side2 A60.out).mono ?_); (case side1 => repeat (first | exact (Kd.C_below HR215_2.out (by repeat (first | (with_reducible first | exact HB.out | apply below_alloc | apply pw_below_drewN | apply below_drew1 | refine below_set ?_ GE213.out | refine below_set ?_ GE216.out) | exact HB.out))) | (with_reducible refine Kd.C_alloc ?_ _) | (with_reducible refine Kd.C_drewN ?_ _) | (with_reducible refine Kd.C_drew ?_))); (case side2 => exact HC215_2.out); rintro e w' ⟨rfl, ⟨nd, rfl⟩⟩; (try first | exact ⟨rfl, _, World.drewN_drewN _ _ _⟩ | exact ⟨rfl, _, Eq.trans (World.drewN_drewN _ _ _) (congrArg (World.drewN _) (Nat.add_assoc _ _ _))⟩))))
                       go_roundg k6
                       case measure => have := HJ2.out; have := HK2.out; have := HJ10.out; have := HJ32.out; have := HK5.out; have := HK6.out; omega
                       case rel => exact ⟨(wrap64 (x8_6 + 1)), sd_, H', ⟨by have := HJ2.out; have := HK2.out; have := HJ10.out; have := HJ32.out; have := HK5.out; have := HK6.out; omega⟩, ⟨by (with_reducible repeat (first | refine blk_drewN ?_ _ | refine blk_drew ?_ | refine blk_alloc ?_ _)); exact BK213.out⟩, ⟨by (with_reducible repeat (first | refine blk_drewN ?_ _ | refine blk_drew ?_ | refine blk_alloc ?_ _)); exact BK216.out⟩, ⟨by repeat (first | (with_reducible first | exact HB.out | apply below_alloc | apply pw_below_drewN | apply below_drew1 | refine below_set ?_ GE213.out | refine below_set ?_ GE216.out) | exact HB.out)⟩⟩
                      ·rw [if_neg c61] at H
                       have c61b0 : (t223 == x8_6) = false := beq_eq_false_iff_ne.mpr c61
                       have c61b1 : (t223 != x8_6) = true := bne_iff_ne.mpr c61
                       obtain rfl := Option.some.inj H
                       have hnb65 := NB216_213.out
                       have hnc65 := NB213_216.out
                       have hcz66_0 : wr.cell? ⟨gb216, 0, none⟩ = some (.int .i64 ((rd_T46 l0_1 x4_2).f0)) := (blk_cell BK216.out 0).trans rfl
                       have hcz66_1 : wr.cell? ⟨gb216, 1, none⟩ = some (.int .i64 ((rd_T46 l0_1 x4_2).f1)) := (blk_cell BK216.out 1).trans rfl
                       have hcz66_2 : wr.cell? ⟨gb216, 2, none⟩ = some (.slice A215_2 ((rd_T46 l0_1 x4_2).f2).length c215_2) := (blk_cell BK216.out 2).trans rfl
                       have hfz66_0 := blk_frozen BK216.out 0
                       have hfz66_1 := blk_frozen BK216.out 1
                       have hfz66_2 := blk_frozen BK216.out 2
                       have hcz67_0 : wr.cell? ⟨gb213, 0, none⟩ = some (.slice A0_0 l0_0.length c0_0) := (blk_cell BK213.out 0).trans rfl
                       have hcz67_1 : wr.cell? ⟨gb213, 1, none⟩ = some (.slice (some ad215) l0_1.length c0_1) := (blk_cell BK213.out 1).trans rfl
                       have hfz67_0 := blk_frozen BK213.out 0
                       have hfz67_1 := blk_frozen BK213.out 1
                       have p220 : 0 ≤ (x8_6 : Int) := od_
                       have q220 : x8_6 < (((rd_T46 l0_1 x4_2).f2).length : Int) := od_
                       obtain ⟨ad220, e220, hx220_0⟩ := Kd.at_int HR215_2.out x8_6 p220 q220
                       cases e220
                       replace hx220_0 := (HB.out.cell (World.block_lt_of_cell? w _ hx220_0)).trans hx220_0
                       replace p220 := eq_true p220
                       replace q220 := eq_true q220
                       go_wp2_with (first | (go_at_call 45; (with_reducible refine (cohousingref23_Has.calls k6 _ _ l0_0 (rd ((rd_T46 l0_1 x4_2).f2) x8_6) true _ ?side1 ?side2 A58.out).mono ?_); (case side1 => exact cc_ ((Kd.C_below HR0_0.out HB.out))); (case side2 => exact HC0_0.out); rintro e w' ⟨rfl, ⟨nd, rfl⟩⟩; (try first | exact ⟨rfl, _, World.drewN_drewN _ _ _⟩ | exact ⟨rfl, _, Eq.trans (World.drewN_drewN _ _ _) (congrArg (World.drewN _) (Nat.add_assoc _ _ _))⟩); have p222 : 0 ≤ (x8_6 : Int) := od_; have q222 : x8_6 < (((rd_T46 l0_1 x4_2).f2).length : Int) := od_; obtain ⟨ad222, e222, hx222_0⟩ := Kd.at_int HR215_2.out x8_6 p222 q222; obtain rfl : ad220 = ad222 := (by injection e222); replace hx222_0 := (HB.out.cell (World.block_lt_of_cell? w _ hx222_0)).trans hx222_0; replace p222 := eq_true p222; replace q222 := eq_true q222) | (go_at_call 24; (with_reducible refine (cohousingref23_In.calls k6 _ _ ((rd_T46 l0_1 x4_2).f2) (rd ((rd_T46 l0_1 x4_2).f2) x8_6) t223 _ ?side1 ?side2 A60.out).mono ?_); (case side1 => repeat (first | exact (Kd.C_below HR215_2.out (by repeat (first | (with_reducible first | exact HB.out | apply below_alloc | apply pw_below_drewN | apply below_drew1 | refine below_set ?_ GE213.out | refine below_set ?_ GE216.out) | exact HB.out))) | (with_reducible refine Kd.C_alloc ?_ _) | (with_reducible refine Kd.C_drewN ?_ _) | (with_reducible refine Kd.C_drew ?_))); (case side2 => exact HC215_2.out); rintro e w' ⟨rfl, ⟨nd, rfl⟩⟩; (try first | exact ⟨rfl, _, World.drewN_drewN _ _ _⟩ | exact ⟨rfl, _, Eq.trans (World.drewN_drewN _ _ _) (congrArg (World.drewN _) (Nat.add_assoc _ _ _))⟩)))
                       repeat (go_quiet (first | (go_at_call 45; (with_reducible refine (cohousingref23_Has.calls k6 _ _ l0_0 (rd ((rd_T46 l0_1 x4_2).f2) x8_6) true _ ?side1 ?side2 A58.out).mono ?_); (case side1 => exact cc_ ((Kd.C_below HR0_0.out HB.out))); (case side2 => exact HC0_0.out); rintro e w' ⟨rfl, ⟨nd, rfl⟩⟩; (try first | exact ⟨rfl, _, World.drewN_drewN _ _ _⟩ | exact ⟨rfl, _, Eq.trans (World.drewN_drewN _ _ _) (congrArg (World.drewN _) (Nat.add_assoc _ _ _))⟩); have p222 : 0 ≤ (x8_6 : Int) := od_; have q222 : x8_6 < (((rd_T46 l0_1 x4_2).f2).length : Int) := od_; obtain ⟨ad222, e222, hx222_0⟩ := Kd.at_int HR215_2.out x8_6 p222 q222; obtain rfl : ad220 = ad222 := (by injection e222); replace hx222_0 := (HB.out.cell (World.block_lt_of_cell? w _ hx222_0)).trans hx222_0; replace p222 := eq_true p222; replace q222 := eq_true q222) | (go_at_call 24; (with_reducible refine (cohousingref23_In.calls k6 _ _ ((rd_T46 l0_1 x4_2).f2) (rd ((rd_T46 l0_1 x4_2).f2) x8_6) t223 _ ?side1 ?side2 A60.out).mono ?_); (case side1 => repeat (first | exact (Kd.C_below HR215_2.out (by repeat (first | (with_reducible first | exact HB.out | apply below_alloc | apply pw_below_drewN | apply below_drew1 | refine below_set ?_ GE213.out | refine below_set ?_ GE216.out) | exact HB.out))) | (with_reducible refine Kd.C_alloc ?_ _) | (with_reducible refine Kd.C_drewN ?_ _) | (with_reducible refine Kd.C_drew ?_))); (case side2 => exact HC215_2.out); rintro e w' ⟨rfl, ⟨nd, rfl⟩⟩; (try first | exact ⟨rfl, _, World.drewN_drewN _ _ _⟩ | exact ⟨rfl, _, Eq.trans (World.drewN_drewN _ _ _) (congrArg (World.drewN _) (Nat.add_assoc _ _ _))⟩))); try go_wp2_with (first | (go_at_call 45; (with_reducible refine (cohousingref23_Has.calls k6 _ _ l0_0 (rd ((rd_T46 l0_1 x4_2).f2) x8_6) true _ ?side1 ?side2 A58.out).mono ?_); (case side1 => exact cc_ ((Kd.C_below HR0_0.out HB.out))); (case side2 => exact HC0_0.out); rintro e w' ⟨rfl, ⟨nd, rfl⟩⟩; (try first | exact ⟨rfl, _, World.drewN_drewN _ _ _⟩ | exact ⟨rfl, _, Eq.trans (World.drewN_drewN _ _ _) (congrArg (World.drewN _) (Nat.add_assoc _ _ _))⟩); have p222 : 0 ≤ (x8_6 : Int) := od_; have q222 : x8_6 < (((rd_T46 l0_1 x4_2).f2).length : Int) := od_; obtain ⟨ad222, e222, hx222_0⟩ := Kd.at_int HR215_2.out x8_6 p222 q222; obtain rfl : ad220 = ad222 := (by injection e222); replace hx222_0 := (HB.out.cell (World.block_lt_of_cell? w _ hx222_0)).trans hx222_0; replace p222 := eq_true p222; replace q222 := eq_true q222) | (go_at_call 24; (with_reducible refine (cohousingref23_In.calls k6 _ _ ((rd_T46 l0_1 x4_2).f2) (rd ((rd_T46 l0_1 x4_2).f2) x8_6) t223 _ ?side1 ?side2 A60.out).mono ?_); (case side1 => repeat (first | exact (Kd.C_below HR215_2.out (by repeat (first | (with_reducible first | exact HB.out | apply below_alloc | apply pw_below_drewN | apply below_drew1 | refine below_set ?_ GE213.out | refine below_set ?_ GE216.out) | exact HB.out))) | (with_reducible refine Kd.C_alloc ?_ _) | (with_reducible refine Kd.C_drewN ?_ _) | (with_reducible refine Kd.C_drew ?_))); (case side2 => exact HC215_2.out); rintro e w' ⟨rfl, ⟨nd, rfl⟩⟩; (try first | exact ⟨rfl, _, World.drewN_drewN _ _ _⟩ | exact ⟨rfl, _, Eq.trans (World.drewN_drewN _ _ _) (congrArg (World.drewN _) (Nat.add_assoc _ _ _))⟩))))
                       go_ret
                       exact ⟨ew_, by repeat (first | (with_reducible first | exact HB.out | apply below_alloc | apply pw_below_drewN | apply below_drew1 | refine below_set ?_ GE213.out | refine below_set ?_ GE216.out) | exact HB.out)⟩
                     ·replace c59 := Bool.eq_false_iff.mpr c59
                      subst c59
                      have H1 : (some false) = some r := by rw [if_neg (show ¬ (false = true) by decide)] at H; exact H
                      clear H
                      have H := H1
                      clear H1
                      obtain rfl := Option.some.inj H
                      have hnb68 := NB216_213.out
                      have hnc68 := NB213_216.out
                      have hcz69_0 : wr.cell? ⟨gb216, 0, none⟩ = some (.int .i64 ((rd_T46 l0_1 x4_2).f0)) := (blk_cell BK216.out 0).trans rfl
                      have hcz69_1 : wr.cell? ⟨gb216, 1, none⟩ = some (.int .i64 ((rd_T46 l0_1 x4_2).f1)) := (blk_cell BK216.out 1).trans rfl
                      have hcz69_2 : wr.cell? ⟨gb216, 2, none⟩ = some (.slice A215_2 ((rd_T46 l0_1 x4_2).f2).length c215_2) := (blk_cell BK216.out 2).trans rfl
                      have hfz69_0 := blk_frozen BK216.out 0
                      have hfz69_1 := blk_frozen BK216.out 1
                      have hfz69_2 := blk_frozen BK216.out 2
                      have hcz70_0 : wr.cell? ⟨gb213, 0, none⟩ = some (.slice A0_0 l0_0.length c0_0) := (blk_cell BK213.out 0).trans rfl
                      have hcz70_1 : wr.cell? ⟨gb213, 1, none⟩ = some (.slice (some ad215) l0_1.length c0_1) := (blk_cell BK213.out 1).trans rfl
                      have hfz70_0 := blk_frozen BK213.out 0
                      have hfz70_1 := blk_frozen BK213.out 1
                      have p220 : 0 ≤ (x8_6 : Int) := od_
                      have q220 : x8_6 < (((rd_T46 l0_1 x4_2).f2).length : Int) := od_
                      obtain ⟨ad220, e220, hx220_0⟩ := Kd.at_int HR215_2.out x8_6 p220 q220
                      cases e220
                      replace hx220_0 := (HB.out.cell (World.block_lt_of_cell? w _ hx220_0)).trans hx220_0
                      replace p220 := eq_true p220
                      replace q220 := eq_true q220
                      go_wp2_with (first | (go_at_call 45; (with_reducible refine (cohousingref23_Has.calls k6 _ _ l0_0 (rd ((rd_T46 l0_1 x4_2).f2) x8_6) false _ ?side1 ?side2 A58.out).mono ?_); (case side1 => exact cc_ ((Kd.C_below HR0_0.out HB.out))); (case side2 => exact HC0_0.out); rintro e w' ⟨rfl, ⟨nd, rfl⟩⟩; (try first | exact ⟨rfl, _, World.drewN_drewN _ _ _⟩ | exact ⟨rfl, _, Eq.trans (World.drewN_drewN _ _ _) (congrArg (World.drewN _) (Nat.add_assoc _ _ _))⟩)))
                      repeat (go_quiet (first | (go_at_call 45; (with_reducible refine (cohousingref23_Has.calls k6 _ _ l0_0 (rd ((rd_T46 l0_1 x4_2).f2) x8_6) false _ ?side1 ?side2 A58.out).mono ?_); (case side1 => exact cc_ ((Kd.C_below HR0_0.out HB.out))); (case side2 => exact HC0_0.out); rintro e w' ⟨rfl, ⟨nd, rfl⟩⟩; (try first | exact ⟨rfl, _, World.drewN_drewN _ _ _⟩ | exact ⟨rfl, _, Eq.trans (World.drewN_drewN _ _ _) (congrArg (World.drewN _) (Nat.add_assoc _ _ _))⟩))); try go_wp2_with (first | (go_at_call 45; (with_reducible refine (cohousingref23_Has.calls k6 _ _ l0_0 (rd ((rd_T46 l0_1 x4_2).f2) x8_6) false _ ?side1 ?side2 A58.out).mono ?_); (case side1 => exact cc_ ((Kd.C_below HR0_0.out HB.out))); (case side2 => exact HC0_0.out); rintro e w' ⟨rfl, ⟨nd, rfl⟩⟩; (try first | exact ⟨rfl, _, World.drewN_drewN _ _ _⟩ | exact ⟨rfl, _, Eq.trans (World.drewN_drewN _ _ _) (congrArg (World.drewN _) (Nat.add_assoc _ _ _))⟩))))
                      go_ret
                      exact ⟨ew_, by repeat (first | (with_reducible first | exact HB.out | apply below_alloc | apply pw_below_drewN | apply below_drew1 | refine below_set ?_ GE213.out | refine below_set ?_ GE216.out) | exact HB.out)⟩
                    ·rw [if_neg c57] at H
                     exact absurd H (by simp)
                   ·rw [if_neg c56] at H
                    have c56b0 : decide (x8_6 < (((rd_T46 l0_1 x4_2).f2).length : Int)) = false := decide_eq_false c56
                    clear c56
                    have H' := Aside0.mk H
                    clear H
                    have hnb71 := NB216_213.out
                    have hnc71 := NB213_216.out
                    have hcz72_0 : wr.cell? ⟨gb216, 0, none⟩ = some (.int .i64 ((rd_T46 l0_1 x4_2).f0)) := (blk_cell BK216.out 0).trans rfl
                    have hcz72_1 : wr.cell? ⟨gb216, 1, none⟩ = some (.int .i64 ((rd_T46 l0_1 x4_2).f1)) := (blk_cell BK216.out 1).trans rfl
                    have hcz72_2 : wr.cell? ⟨gb216, 2, none⟩ = some (.slice A215_2 ((rd_T46 l0_1 x4_2).f2).length c215_2) := (blk_cell BK216.out 2).trans rfl
                    have hfz72_0 := blk_frozen BK216.out 0
                    have hfz72_1 := blk_frozen BK216.out 1
                    have hfz72_2 := blk_frozen BK216.out 2
                    go_wp2
                    repeat (go_quiet (fail); try go_wp2)
                    go_roundg k6
                    case measure => have := HJ2.out; have := HK2.out; have := HJ10.out; have := HJ32.out; have := HK5.out; have := HK6.out; omega
                    case rel => exact ⟨(wrap64 (x4_2 + 1)), sd_, H', ⟨by have := HJ2.out; have := HK2.out; have := HJ10.out; have := HJ32.out; have := HK5.out; have := HK6.out; omega⟩, ⟨by (with_reducible repeat (first | refine blk_drewN ?_ _ | refine blk_drew ?_ | refine blk_alloc ?_ _)); exact BK213.out⟩, ⟨by repeat (first | (with_reducible first | exact HB.out | apply below_alloc | apply pw_below_drewN | apply below_drew1 | refine below_set ?_ GE213.out | refine below_set ?_ GE216.out) | exact HB.out)⟩⟩
       ·rw [if_neg c10] at H
        exact absurd H (by simp)
      ·rw [if_neg c9] at H
       have c9b0 : decide (x4_2 < (l0_1.length : Int)) = false := decide_eq_false c9
       clear c9
       obtain rfl := Option.some.inj H
       have hcz73_0 : wr.cell? ⟨gb213, 0, none⟩ = some (.slice A0_0 l0_0.length c0_0) := (blk_cell BK213.out 0).trans rfl
       have hcz73_1 : wr.cell? ⟨gb213, 1, none⟩ = some (.slice A0_1 l0_1.length c0_1) := (blk_cell BK213.out 1).trans rfl
       have hfz73_0 := blk_frozen BK213.out 0
       have hfz73_1 := blk_frozen BK213.out 1
       go_wp2
       repeat (go_quiet (fail); try go_wp2)
       go_ret
       exact ⟨ew_, by repeat (first | (with_reducible first | exact HB.out | apply below_alloc | apply pw_below_drewN | apply below_drew1 | refine below_set ?_ GE213.out) | exact HB.out)⟩
end
section
theorem eqA84 (d : Nat) (w : World) (x0 y0 : Int) (x1 y1 : Int) :
  (Op.equalIn (d + 2) 84 (.agg #[.int .i64 x0, .int .i64 x1]) (.agg #[.int .i64 y0, .int .i64 y1])).run Try.prog w = .ok (x0 == y0 && (x1 == y1)) w := by
 refine eqA_of Try.underlying84 (by kernel_rfl) ?_
 refine eqf_cons (by rfl) (by go_simp; rfl) (by go_simp; rfl) (by go_simp) ?_
 exact eqf_last (by rfl) (by go_simp; rfl) (by go_simp; rfl) (by go_simp)
end
section
attribute [local go_sem high] eqA84
mutual
def cohousingref23_Same.j0 : Nat → Bool → List (S84) → List (S46) → List (S84) → List (S46) → Option (Bool)
 | 0, _, _, _, _, _ => none
 | k + 1, x23, x343000, x343001, x344000, x344001 => if x23 = true then (some false) else (cohousingref23_Same.l0 k 0 x343000 x343001 x344000 x344001)
def cohousingref23_Same.l0 : Nat → Int → List (S84) → List (S46) → List (S84) → List (S46) → Option (Bool)
 | 0, _, _, _, _, _ => none
 | k + 1, x5, x343000, x343001, x344000, x344001 => if x5 < (x343000.length : Int) then (if 0 ≤ x5 then (if x5 < (x344000.length : Int) then (if (!(((rd_T84 x343000 x5).f0) == ((rd_T84 x344000 x5).f0)) || (!(((rd_T84 x343000 x5).f1) == ((rd_T84 x344000 x5).f1)))) = true then (some false) else (cohousingref23_Same.l0 k (wrap64 (x5 + 1)) x343000 x343001 x344000 x344001)) else (none)) else (none)) else (cohousingref23_Same.l1 k 0 x343000 x343001 x344000 x344001)
def cohousingref23_Same.l1 : Nat → Int → List (S84) → List (S46) → List (S84) → List (S46) → Option (Bool)
 | 0, _, _, _, _, _ => none
 | k + 1, x6, x343000, x343001, x344000, x344001 => if x6 < (x343001.length : Int) then (if 0 ≤ x6 then (if x6 < (x344001.length : Int) then ((cohousingref23_SameInts.f k ((rd_T46 x343001 x6).f2) ((rd_T46 x344001 x6).f2)).bind fun t348 => (if t348 = true then (if ((rd_T46 x343001 x6).f0) = ((rd_T46 x344001 x6).f0) then (if ((rd_T46 x343001 x6).f1) = ((rd_T46 x344001 x6).f1) then (cohousingref23_Same.l1 k (wrap64 (x6 + 1)) x343000 x343001 x344000 x344001) else (some false)) else (some false)) else (some false))) else (none)) else (none)) else (some true)
end
def cohousingref23_Same.f (k : Nat) (l0_0 : List (S84)) (l0_1 : List (S46)) (l1_0 : List (S84)) (l1_1 : List (S46)) : Option (Bool) := if (l0_0.length : Int) = (l1_0.length : Int) then (cohousingref23_Same.j0 k ((l0_1.length : Int) != (l1_1.length : Int)) l0_0 l0_1 l1_0 l1_1) else (cohousingref23_Same.j0 k true l0_0 l0_1 l1_0 l1_1)
theorem cohousingref23_Same.calls (k : Nat) (A0_0 : Option Addr) (c0_0 : Nat) (l0_0 : List (S84)) (A0_1 : Option Addr) (c0_1 : Nat) (l0_1 : List (S46)) (A1_0 : Option Addr) (c1_0 : Nat) (l1_0 : List (S84)) (A1_1 : Option Addr) (c1_1 : Nat) (l1_1 : List (S46)) (r : Bool) (w : World) (hr0_0 : Kd.C k84 w A0_0 l0_0.length l0_0) (hc0_0 : l0_0.length ≤ c0_0) (hr0_1 : Kd.C k46 w A0_1 l0_1.length l0_1) (hc0_1 : l0_1.length ≤ c0_1) (hr1_0 : Kd.C k84 w A1_0 l1_0.length l1_0) (hc1_0 : l1_0.length ≤ c1_0) (hr1_1 : Kd.C k46 w A1_1 l1_1.length l1_1) (hc1_1 : l1_1.length ≤ c1_1) (h : cohousingref23_Same.f k l0_0 l0_1 l1_0 l1_1 = some r) :
  Calls Try.prog 19 #[.agg #[.slice A0_0 l0_0.length c0_0, .slice A0_1 l0_1.length c0_1], .agg #[.slice A1_0 l1_0.length c1_0, .slice A1_1 l1_1.length c1_1]] w fun e w' => e = .returned (.bool r) ∧ Below w.heap.size w w' := by
 have hu25 := Try.underlying25
 have hu84 := Try.underlying84
 have HR0_0 := Aside0.mk hr0_0
 have HC0_0 := Aside0.mk hc0_0
 clear hr0_0 hc0_0
 have HR0_1 := Aside0.mk hr0_1
 have HC0_1 := Aside0.mk hc0_1
 clear hr0_1 hc0_1
 have HR1_0 := Aside0.mk hr1_0
 have HC1_0 := Aside0.mk hc1_0
 clear hr1_0 hc1_0
 have HR1_1 := Aside0.mk hr1_1
 have HC1_1 := Aside0.mk hc1_1
 clear hr1_1 hc1_1
 have HB := Aside0.mk (Below.refl w.heap.size w)
 have H : (if (l0_0.length : Int) = (l1_0.length : Int) then (cohousingref23_Same.j0 k ((l0_1.length : Int) != (l1_1.length : Int)) l0_0 l0_1 l1_0 l1_1) else (cohousingref23_Same.j0 k true l0_0 l0_1 l1_0 l1_1)) = some r := h
 clear h
 have HC3 := Aside0.mk H
 clear H
 go_enter Try.func19, Try.ntmps19
 go_upto_region 1 with (first | ((with_reducible refine gate_dst (N := 2) rfl ?_); (try (refine gate_guard (by rfl) ?_; dsimp only)); refine box_event ?hg (N := 2) ?hd (cs := #[.slice A0_0 l0_0.length c0_0, .slice A0_1 l0_1.length c0_1]) (t := 25) ?hr ?_; (case hd => rfl); (case hg => rfl); (case hr => first | (go_simp; done) | (go_simp; rfl)); intro gb342 hg w4 hbox hb; have n0_ := Aside0.mk (below_step (bb_ HB) hb); have n1_ := Aside0.mk (hbox); have n2_ := Aside0.mk ((by rw [hg]; exact (below_size (bb_ HB)) : w.heap.size ≤ gb342)); have n3_ := Aside0.mk ((by rw [hg]; exact (below_size (bb_ HB)) : w.heap.size ≤ gb342)); clear HB; have HB := n0_; have BK342 := n1_; have GW342 := n2_; have GE342 := n3_; clear n0_ n1_ n2_ n3_; clear hb hbox hg) | ((with_reducible refine gate_dst (N := 3) rfl ?_); (try (refine gate_guard (by rfl) ?_; dsimp only)); refine box_event ?hg (N := 3) ?hd (cs := #[.slice A1_0 l1_0.length c1_0, .slice A1_1 l1_1.length c1_1]) (t := 25) ?hr ?_; (case hd => rfl); (case hg => rfl); (case hr => first | (go_simp; done) | (go_simp; rfl)); intro gb343 hg w5 hbox hb; have n0_ := Aside0.mk (blk_below (g := gb342) (o := .cells #[.slice A0_0 l0_0.length c0_0, .slice A0_1 l0_1.length c0_1] 25 (0, 0)) (kk_ BK342) hb); have n1_ := Aside0.mk (below_step (bs_ HB GE342.out) hb); have n2_ := Aside0.mk (hbox); have n3_ := Aside0.mk ((by rw [hg]; exact (below_size (bs_ HB GE342.out)) : w.heap.size ≤ gb343)); have n4_ := Aside0.mk ((by rw [hg]; exact (below_size (bs_ HB GE342.out)) : w.heap.size ≤ gb343)); have n5_ := Aside0.mk ((by rw [hg]; exact Nat.ne_of_lt (blk_lt (g := gb342) (o := .cells #[.slice A0_0 l0_0.length c0_0, .slice A0_1 l0_1.length c0_1] 25 (0, 0)) (kk_ BK342)) : gb342 ≠ gb343)); have n6_ := Aside0.mk ((by rw [hg]; exact Nat.ne_of_gt (blk_lt (g := gb342) (o := .cells #[.slice A0_0 l0_0.length c0_0, .slice A0_1 l0_1.length c0_1] 25 (0, 0)) (kk_ BK342)) : gb343 ≠ gb342)); clear BK342; clear HB; have BK342 := n0_; have HB := n1_; have BK343 := n2_; have GW343 := n3_; have GE343 := n4_; have NB342_343 := n5_; have NB343_342 := n6_; clear n0_ n1_ n2_ n3_ n4_ n5_ n6_; clear hb hbox hg))
 repeat (go_quiet (first | ((with_reducible refine gate_dst (N := 2) rfl ?_); (try (refine gate_guard (by rfl) ?_; dsimp only)); refine box_event ?hg (N := 2) ?hd (cs := #[.slice A0_0 l0_0.length c0_0, .slice A0_1 l0_1.length c0_1]) (t := 25) ?hr ?_; (case hd => rfl); (case hg => rfl); (case hr => first | (go_simp; done) | (go_simp; rfl)); intro gb342 hg w4 hbox hb; have n0_ := Aside0.mk (below_step (bb_ HB) hb); have n1_ := Aside0.mk (hbox); have n2_ := Aside0.mk ((by rw [hg]; exact (below_size (bb_ HB)) : w.heap.size ≤ gb342)); have n3_ := Aside0.mk ((by rw [hg]; exact (below_size (bb_ HB)) : w.heap.size ≤ gb342)); clear HB; have HB := n0_; have BK342 := n1_; have GW342 := n2_; have GE342 := n3_; clear n0_ n1_ n2_ n3_; clear hb hbox hg) | ((with_reducible refine gate_dst (N := 3) rfl ?_); (try (refine gate_guard (by rfl) ?_; dsimp only)); refine box_event ?hg (N := 3) ?hd (cs := #[.slice A1_0 l1_0.length c1_0, .slice A1_1 l1_1.length c1_1]) (t := 25) ?hr ?_; (case hd => rfl); (case hg => rfl); (case hr => first | (go_simp; done) | (go_simp; rfl)); intro gb343 hg w5 hbox hb; have n0_ := Aside0.mk (blk_below (g := gb342) (o := .cells #[.slice A0_0 l0_0.length c0_0, .slice A0_1 l0_1.length c0_1] 25 (0, 0)) (kk_ BK342) hb); have n1_ := Aside0.mk (below_step (bs_ HB GE342.out) hb); have n2_ := Aside0.mk (hbox); have n3_ := Aside0.mk ((by rw [hg]; exact (below_size (bs_ HB GE342.out)) : w.heap.size ≤ gb343)); have n4_ := Aside0.mk ((by rw [hg]; exact (below_size (bs_ HB GE342.out)) : w.heap.size ≤ gb343)); have n5_ := Aside0.mk ((by rw [hg]; exact Nat.ne_of_lt (blk_lt (g := gb342) (o := .cells #[.slice A0_0 l0_0.length c0_0, .slice A0_1 l0_1.length c0_1] 25 (0, 0)) (kk_ BK342)) : gb342 ≠ gb343)); have n6_ := Aside0.mk ((by rw [hg]; exact Nat.ne_of_gt (blk_lt (g := gb342) (o := .cells #[.slice A0_0 l0_0.length c0_0, .slice A0_1 l0_1.length c0_1] 25 (0, 0)) (kk_ BK342)) : gb343 ≠ gb342)); clear BK342; clear HB; have BK342 := n0_; have HB := n1_; have BK343 := n2_; have GW343 := n3_; have GE343 := n4_; have NB342_343 := n5_; have NB343_342 := n6_; clear n0_ n1_ n2_ n3_ n4_ n5_ n6_; clear hb hbox hg)); go_upto_region 1 with (first | ((with_reducible refine gate_dst (N := 2) rfl ?_); (try (refine gate_guard (by rfl) ?_; dsimp only)); refine box_event ?hg (N := 2) ?hd (cs := #[.slice A0_0 l0_0.length c0_0, .slice A0_1 l0_1.length c0_1]) (t := 25) ?hr ?_; (case hd => rfl); (case hg => rfl); (case hr => first | (go_simp; done) | (go_simp; rfl)); intro gb342 hg w4 hbox hb; have n0_ := Aside0.mk (below_step (bb_ HB) hb); have n1_ := Aside0.mk (hbox); have n2_ := Aside0.mk ((by rw [hg]; exact (below_size (bb_ HB)) : w.heap.size ≤ gb342)); have n3_ := Aside0.mk ((by rw [hg]; exact (below_size (bb_ HB)) : w.heap.size ≤ gb342)); clear HB; have HB := n0_; have BK342 := n1_; have GW342 := n2_; have GE342 := n3_; clear n0_ n1_ n2_ n3_; clear hb hbox hg) | ((with_reducible refine gate_dst (N := 3) rfl ?_); (try (refine gate_guard (by rfl) ?_; dsimp only)); refine box_event ?hg (N := 3) ?hd (cs := #[.slice A1_0 l1_0.length c1_0, .slice A1_1 l1_1.length c1_1]) (t := 25) ?hr ?_; (case hd => rfl); (case hg => rfl); (case hr => first | (go_simp; done) | (go_simp; rfl)); intro gb343 hg w5 hbox hb; have n0_ := Aside0.mk (blk_below (g := gb342) (o := .cells #[.slice A0_0 l0_0.length c0_0, .slice A0_1 l0_1.length c0_1] 25 (0, 0)) (kk_ BK342) hb); have n1_ := Aside0.mk (below_step (bs_ HB GE342.out) hb); have n2_ := Aside0.mk (hbox); have n3_ := Aside0.mk ((by rw [hg]; exact (below_size (bs_ HB GE342.out)) : w.heap.size ≤ gb343)); have n4_ := Aside0.mk ((by rw [hg]; exact (below_size (bs_ HB GE342.out)) : w.heap.size ≤ gb343)); have n5_ := Aside0.mk ((by rw [hg]; exact Nat.ne_of_lt (blk_lt (g := gb342) (o := .cells #[.slice A0_0 l0_0.length c0_0, .slice A0_1 l0_1.length c0_1] 25 (0, 0)) (kk_ BK342)) : gb342 ≠ gb343)); have n6_ := Aside0.mk ((by rw [hg]; exact Nat.ne_of_gt (blk_lt (g := gb342) (o := .cells #[.slice A0_0 l0_0.length c0_0, .slice A0_1 l0_1.length c0_1] 25 (0, 0)) (kk_ BK342)) : gb343 ≠ gb342)); clear BK342; clear HB; have BK342 := n0_; have HB := n1_; have BK343 := n2_; have GW343 := n3_; have GE343 := n4_; have NB342_343 := n5_; have NB343_342 := n6_; clear n0_ n1_ n2_ n3_ n4_ n5_ n6_; clear hb hbox hg)))
 (try simp only [Act.put, sI_, s0_, sS_])
 go_cut [23] (fun v23 wc => ∃ (kq : Nat) (x23_2 : Bool), v23 = .bool x23_2 ∧ Aside0 (cohousingref23_Same.j0 kq x23_2 l0_0 l0_1 l1_0 l1_1 = some r) ∧ Aside0 (kq ≤ k) ∧ Aside0 (wc.heap[gb342]? = some (.cells #[(.slice A0_0 l0_0.length c0_0), (.slice A0_1 l0_1.length c0_1)] 25 (0, 0))) ∧ Aside0 (wc.heap[gb343]? = some (.cells #[(.slice A1_0 l1_0.length c1_0), (.slice A1_1 l1_1.length c1_1)] 25 (0, 0))) ∧ Aside0 (Below w.heap.size w wc))
 case first =>
  have H := HC3.out
  clear HC3
  by_cases c6 : (l0_0.length : Int) = (l1_0.length : Int)
  ·rw [if_pos c6] at H
   have c6b0 : ((l0_0.length : Int) == (l1_0.length : Int)) = true := beq_iff_eq.mpr c6
   have c6b1 : ((l0_0.length : Int) != (l1_0.length : Int)) = false := bne_eq_false_iff_eq.mpr c6
   have c6b2 : (l0_0.length == l1_0.length) = true := by first | simpa using c6 | (simp at c6 ⊢; omega)
   clear c6
   (first | rw [c6b0] | (simp only [i64_w, i32_w]; rw [c6b0]) | skip)
   have H' := Aside0.mk H
   clear H
   have hnb7 := NB342_343.out
   have hnc7 := NB343_342.out
   have hcz8_0 : w5.cell? ⟨gb342, 0, none⟩ = some (.slice A0_0 l0_0.length c0_0) := (blk_cell BK342.out 0).trans rfl
   have hcz8_1 : w5.cell? ⟨gb342, 1, none⟩ = some (.slice A0_1 l0_1.length c0_1) := (blk_cell BK342.out 1).trans rfl
   have hfz8_0 := blk_frozen BK342.out 0
   have hfz8_1 := blk_frozen BK342.out 1
   have hcz9_0 : w5.cell? ⟨gb343, 0, none⟩ = some (.slice A1_0 l1_0.length c1_0) := (blk_cell BK343.out 0).trans rfl
   have hcz9_1 : w5.cell? ⟨gb343, 1, none⟩ = some (.slice A1_1 l1_1.length c1_1) := (blk_cell BK343.out 1).trans rfl
   have hfz9_0 := blk_frozen BK343.out 0
   have hfz9_1 := blk_frozen BK343.out 1
   go_wp2
   repeat (go_quiet (fail); try go_wp2)
   go_meet
   case rel => exact ⟨_, (((l0_1.length : Int) != (l1_1.length : Int))), sd_, H', ⟨by first | omega | exact Nat.le_refl _⟩, ⟨by (with_reducible repeat (first | refine blk_drewN ?_ _ | refine blk_drew ?_ | refine blk_alloc ?_ _)); exact BK342.out⟩, ⟨by (with_reducible repeat (first | refine blk_drewN ?_ _ | refine blk_drew ?_ | refine blk_alloc ?_ _)); exact BK343.out⟩, ⟨by repeat (first | (with_reducible first | exact HB.out | apply below_alloc | apply pw_below_drewN | apply below_drew1 | refine below_set ?_ GE342.out | refine below_set ?_ GE343.out) | exact HB.out)⟩⟩
  ·rw [if_neg c6] at H
   have c6b0 : ((l0_0.length : Int) == (l1_0.length : Int)) = false := beq_eq_false_iff_ne.mpr c6
   have c6b1 : ((l0_0.length : Int) != (l1_0.length : Int)) = true := bne_iff_ne.mpr c6
   have c6b2 : (l0_0.length == l1_0.length) = false := by first | simpa using c6 | (simp at c6 ⊢; omega)
   (first | rw [c6b0] | (simp only [i64_w, i32_w]; rw [c6b0]) | skip)
   have H' := Aside0.mk H
   clear H
   have hnb10 := NB342_343.out
   have hnc10 := NB343_342.out
   have hcz11_0 : w5.cell? ⟨gb342, 0, none⟩ = some (.slice A0_0 l0_0.length c0_0) := (blk_cell BK342.out 0).trans rfl
   have hcz11_1 : w5.cell? ⟨gb342, 1, none⟩ = some (.slice A0_1 l0_1.length c0_1) := (blk_cell BK342.out 1).trans rfl
   have hfz11_0 := blk_frozen BK342.out 0
   have hfz11_1 := blk_frozen BK342.out 1
   have hcz12_0 : w5.cell? ⟨gb343, 0, none⟩ = some (.slice A1_0 l1_0.length c1_0) := (blk_cell BK343.out 0).trans rfl
   have hcz12_1 : w5.cell? ⟨gb343, 1, none⟩ = some (.slice A1_1 l1_1.length c1_1) := (blk_cell BK343.out 1).trans rfl
   have hfz12_0 := blk_frozen BK343.out 0
   have hfz12_1 := blk_frozen BK343.out 1
   go_wp2
   repeat (go_quiet (fail); try go_wp2)
   go_meet
   case rel => exact ⟨_, (true), sd_, H', ⟨by first | omega | exact Nat.le_refl _⟩, ⟨by (with_reducible repeat (first | refine blk_drewN ?_ _ | refine blk_drew ?_ | refine blk_alloc ?_ _)); exact BK342.out⟩, ⟨by (with_reducible repeat (first | refine blk_drewN ?_ _ | refine blk_drew ?_ | refine blk_alloc ?_ _)); exact BK343.out⟩, ⟨by repeat (first | (with_reducible first | exact HB.out | apply below_alloc | apply pw_below_drewN | apply below_drew1 | refine below_set ?_ GE342.out | refine below_set ?_ GE343.out) | exact HB.out)⟩⟩
 case rest =>
  clear HC3
  try clear c1
  try clear p2
  try clear c6
  try clear c6b0
  try clear c6b1
  try clear c6b2
  try clear c7
  try clear c10
  try clear hcz11_0
  try clear hcz11_1
  try clear hcz12_0
  try clear hcz12_1
  try clear hcz8_0
  try clear hcz8_1
  try clear hcz9_0
  try clear hcz9_1
  try clear hfz11_0
  try clear hfz11_1
  try clear hfz12_0
  try clear hfz12_1
  try clear hfz8_0
  try clear hfz8_1
  try clear hfz9_0
  try clear hfz9_1
  obtain ⟨kq, x23_2, rfl, HA, HJ2, BK342, BK343, HB⟩ := hcut
  cases kq with
  | zero => exact absurd HA.out (by simp [cohousingref23_Same.j0])
  | succ kj2 =>
   have H := HA.out
   clear HA
   simp only [cohousingref23_Same.j0] at H
   by_cases c13 : x23_2 = true
   ·subst c13
    have H1 : (some false) = some r := by rw [if_pos rfl] at H; exact H
    clear H
    have H := H1
    clear H1
    obtain rfl := Option.some.inj H
    go_wp2
    repeat (go_quiet (fail); try go_wp2)
    go_ret
    exact ⟨ew_, by repeat (first | (with_reducible first | exact HB.out | apply below_alloc | apply pw_below_drewN | apply below_drew1 | refine below_set ?_ GE342.out | refine below_set ?_ GE343.out) | exact HB.out)⟩
   ·replace c13 := Bool.eq_false_iff.mpr c13
    subst c13
    have H1 : (cohousingref23_Same.l0 kj2 0 l0_0 l0_1 l1_0 l1_1) = some r := by rw [if_neg (show ¬ (false = true) by decide)] at H; exact H
    clear H
    have H := H1
    clear H1
    have H' := Aside0.mk H
    clear H
    go_wp2
    repeat (go_quiet (fail); try go_wp2)
    go_loopg [5] kj2 (fun kq v5 w' => ∃ (x5_2 : Int), v5 = .int .i64 x5_2 ∧ Aside0 (cohousingref23_Same.l0 kq x5_2 l0_0 l0_1 l1_0 l1_1 = some r) ∧ Aside0 (kq ≤ kj2) ∧ Aside0 (w'.heap[gb342]? = some (.cells #[(.slice A0_0 l0_0.length c0_0), (.slice A0_1 l0_1.length c0_1)] 25 (0, 0))) ∧ Aside0 (w'.heap[gb343]? = some (.cells #[(.slice A1_0 l1_0.length c1_0), (.slice A1_1 l1_1.length c1_1)] 25 (0, 0))) ∧ Aside0 (Below w.heap.size w w'))
    case atStart => exact ⟨(0), sd_, H', ⟨Nat.le_refl _⟩, ⟨by (with_reducible repeat (first | refine blk_drewN ?_ _ | refine blk_drew ?_ | refine blk_alloc ?_ _)); exact BK342.out⟩, ⟨by (with_reducible repeat (first | refine blk_drewN ?_ _ | refine blk_drew ?_ | refine blk_alloc ?_ _)); exact BK343.out⟩, ⟨by repeat (first | (with_reducible first | exact HB.out | apply below_alloc | apply pw_below_drewN | apply below_drew1 | refine below_set ?_ GE342.out | refine below_set ?_ GE343.out) | exact HB.out)⟩⟩
    case round =>
     clear H'
     try clear c1
     try clear p2
     try clear c6
     try clear c6b0
     try clear c6b1
     try clear c6b2
     try clear c7
     try clear c10
     try clear c13
     try clear hcz11_0
     try clear hcz11_1
     try clear hcz12_0
     try clear hcz12_1
     try clear hcz8_0
     try clear hcz8_1
     try clear hcz9_0
     try clear hcz9_1
     try clear hfz11_0
     try clear hfz11_1
     try clear hfz12_0
     try clear hfz12_1
     try clear hfz8_0
     try clear hfz8_1
     try clear hfz9_0
     try clear hfz9_1
     try clear p2
     obtain ⟨x5_2, rfl, HA, HK2, BK342, BK343, HB⟩ := hrel
     cases gk with
     | zero => exact absurd HA.out (by simp [cohousingref23_Same.l0])
     | succ k2 =>
      have H := HA.out
      clear HA
      simp only [cohousingref23_Same.l0] at H
      by_cases c14 : x5_2 < (l0_0.length : Int)
      ·rw [if_pos c14] at H
       have c14b0 : decide (x5_2 < (l0_0.length : Int)) = true := decide_eq_true c14
       clear c14
       by_cases c15 : 0 ≤ x5_2
       ·rw [if_pos c15] at H
        have c15b0 : decide (0 ≤ x5_2) = true := decide_eq_true c15
        clear c15
        by_cases c16 : x5_2 < (l1_0.length : Int)
        ·rw [if_pos c16] at H
         have c16b0 : decide (x5_2 < (l1_0.length : Int)) = true := decide_eq_true c16
         clear c16
         by_cases c17 : (!(((rd_T84 l0_0 x5_2).f0) == ((rd_T84 l1_0 x5_2).f0)) || (!(((rd_T84 l0_0 x5_2).f1) == ((rd_T84 l1_0 x5_2).f1)))) = true
         ·rw [if_pos c17] at H
          have c17b0 : (!(((rd_T84 l0_0 x5_2).f0) == ((rd_T84 l1_0 x5_2).f0)) || (!(((rd_T84 l0_0 x5_2).f1) == ((rd_T84 l1_0 x5_2).f1)))) = true := c17
          clear c17
          obtain rfl := Option.some.inj H
          have hnb18 := NB342_343.out
          have hnc18 := NB343_342.out
          have hcz19_0 : wr.cell? ⟨gb342, 0, none⟩ = some (.slice A0_0 l0_0.length c0_0) := (blk_cell BK342.out 0).trans rfl
          have hcz19_1 : wr.cell? ⟨gb342, 1, none⟩ = some (.slice A0_1 l0_1.length c0_1) := (blk_cell BK342.out 1).trans rfl
          have hfz19_0 := blk_frozen BK342.out 0
          have hfz19_1 := blk_frozen BK342.out 1
          have p344 : 0 ≤ (x5_2 : Int) := od_
          have q344 : x5_2 < (l0_0.length : Int) := od_
          obtain ⟨ad344, e344, hx344_0, hx344_1⟩ := at_T84 HR0_0.out x5_2 p344 q344
          cases e344
          replace hx344_0 := (HB.out.cell (World.block_lt_of_cell? w _ hx344_0)).trans hx344_0
          replace hx344_1 := (HB.out.cell (World.block_lt_of_cell? w _ hx344_1)).trans hx344_1
          replace p344 := eq_true p344
          replace q344 := eq_true q344
          have hcz20_0 : wr.cell? ⟨gb343, 0, none⟩ = some (.slice A1_0 l1_0.length c1_0) := (blk_cell BK343.out 0).trans rfl
          have hcz20_1 : wr.cell? ⟨gb343, 1, none⟩ = some (.slice A1_1 l1_1.length c1_1) := (blk_cell BK343.out 1).trans rfl
          have hfz20_0 := blk_frozen BK343.out 0
          have hfz20_1 := blk_frozen BK343.out 1
          have p345 : 0 ≤ (x5_2 : Int) := od_
          have q345 : x5_2 < (l1_0.length : Int) := od_
          obtain ⟨ad345, e345, hx345_0, hx345_1⟩ := at_T84 HR1_0.out x5_2 p345 q345
          cases e345
          replace hx345_0 := (HB.out.cell (World.block_lt_of_cell? w _ hx345_0)).trans hx345_0
          replace hx345_1 := (HB.out.cell (World.block_lt_of_cell? w _ hx345_1)).trans hx345_1
          replace p345 := eq_true p345
          replace q345 := eq_true q345
          go_wp2
          repeat (go_quiet (fail); try go_wp2)
          go_ret
          exact ⟨ew_, by repeat (first | (with_reducible first | exact HB.out | apply below_alloc | apply pw_below_drewN | apply below_drew1 | refine below_set ?_ GE342.out | refine below_set ?_ GE343.out) | exact HB.out)⟩
         ·rw [if_neg c17] at H
          have c17b0 : (!(((rd_T84 l0_0 x5_2).f0) == ((rd_T84 l1_0 x5_2).f0)) || (!(((rd_T84 l0_0 x5_2).f1) == ((rd_T84 l1_0 x5_2).f1)))) = false := by simpa using c17
          clear c17
          have H' := Aside0.mk H
          clear H
          have hnb21 := NB342_343.out
          have hnc21 := NB343_342.out
          have hcz22_0 : wr.cell? ⟨gb342, 0, none⟩ = some (.slice A0_0 l0_0.length c0_0) := (blk_cell BK342.out 0).trans rfl
          have hcz22_1 : wr.cell? ⟨gb342, 1, none⟩ = some (.slice A0_1 l0_1.length c0_1) := (blk_cell BK342.out 1).trans rfl
          have hfz22_0 := blk_frozen BK342.out 0
          have hfz22_1 := blk_frozen BK342.out 1
          have p344 : 0 ≤ (x5_2 : Int) := od_
          have q344 : x5_2 < (l0_0.length : Int) := od_
          obtain ⟨ad344, e344, hx344_0, hx344_1⟩ := at_T84 HR0_0.out x5_2 p344 q344
          cases e344
          replace hx344_0 := (HB.out.cell (World.block_lt_of_cell? w _ hx344_0)).trans hx344_0
          replace hx344_1 := (HB.out.cell (World.block_lt_of_cell? w _ hx344_1)).trans hx344_1
          replace p344 := eq_true p344
          replace q344 := eq_true q344
          have hcz23_0 : wr.cell? ⟨gb343, 0, none⟩ = some (.slice A1_0 l1_0.length c1_0) := (blk_cell BK343.out 0).trans rfl
          have hcz23_1 : wr.cell? ⟨gb343, 1, none⟩ = some (.slice A1_1 l1_1.length c1_1) := (blk_cell BK343.out 1).trans rfl
          have hfz23_0 := blk_frozen BK343.out 0
          have hfz23_1 := blk_frozen BK343.out 1
          have p345 : 0 ≤ (x5_2 : Int) := od_
          have q345 : x5_2 < (l1_0.length : Int) := od_
          obtain ⟨ad345, e345, hx345_0, hx345_1⟩ := at_T84 HR1_0.out x5_2 p345 q345
          cases e345
          replace hx345_0 := (HB.out.cell (World.block_lt_of_cell? w _ hx345_0)).trans hx345_0
          replace hx345_1 := (HB.out.cell (World.block_lt_of_cell? w _ hx345_1)).trans hx345_1
          replace p345 := eq_true p345
          replace q345 := eq_true q345
          go_wp2
          repeat (go_quiet (fail); try go_wp2)
          go_roundg k2
          case measure => have := HJ2.out; have := HK2.out; omega
          case rel => exact ⟨(wrap64 (x5_2 + 1)), sd_, H', ⟨by have := HJ2.out; have := HK2.out; omega⟩, ⟨by (with_reducible repeat (first | refine blk_drewN ?_ _ | refine blk_drew ?_ | refine blk_alloc ?_ _)); exact BK342.out⟩, ⟨by (with_reducible repeat (first | refine blk_drewN ?_ _ | refine blk_drew ?_ | refine blk_alloc ?_ _)); exact BK343.out⟩, ⟨by repeat (first | (with_reducible first | exact HB.out | apply below_alloc | apply pw_below_drewN | apply below_drew1 | refine below_set ?_ GE342.out | refine below_set ?_ GE343.out) | exact HB.out)⟩⟩
        ·rw [if_neg c16] at H
         exact absurd H (by simp)
       ·rw [if_neg c15] at H
        exact absurd H (by simp)
      ·rw [if_neg c14] at H
       have c14b0 : decide (x5_2 < (l0_0.length : Int)) = false := decide_eq_false c14
       clear c14
       have H' := Aside0.mk H
       clear H
       have hnb24 := NB342_343.out
       have hnc24 := NB343_342.out
       have hcz25_0 : wr.cell? ⟨gb342, 0, none⟩ = some (.slice A0_0 l0_0.length c0_0) := (blk_cell BK342.out 0).trans rfl
       have hcz25_1 : wr.cell? ⟨gb342, 1, none⟩ = some (.slice A0_1 l0_1.length c0_1) := (blk_cell BK342.out 1).trans rfl
       have hfz25_0 := blk_frozen BK342.out 0
       have hfz25_1 := blk_frozen BK342.out 1
       go_wp2
       repeat (go_quiet (fail); try go_wp2)
       go_loopg [6] k2 (fun kq v6 w' => ∃ (x6_3 : Int), v6 = .int .i64 x6_3 ∧ Aside0 (cohousingref23_Same.l1 kq x6_3 l0_0 l0_1 l1_0 l1_1 = some r) ∧ Aside0 (kq ≤ k2) ∧ Aside0 (w'.heap[gb342]? = some (.cells #[(.slice A0_0 l0_0.length c0_0), (.slice A0_1 l0_1.length c0_1)] 25 (0, 0))) ∧ Aside0 (w'.heap[gb343]? = some (.cells #[(.slice A1_0 l1_0.length c1_0), (.slice A1_1 l1_1.length c1_1)] 25 (0, 0))) ∧ Aside0 (Below w.heap.size w w'))
       case atStart => exact ⟨(0), sd_, H', ⟨Nat.le_refl _⟩, ⟨by (with_reducible repeat (first | refine blk_drewN ?_ _ | refine blk_drew ?_ | refine blk_alloc ?_ _)); exact BK342.out⟩, ⟨by (with_reducible repeat (first | refine blk_drewN ?_ _ | refine blk_drew ?_ | refine blk_alloc ?_ _)); exact BK343.out⟩, ⟨by repeat (first | (with_reducible first | exact HB.out | apply below_alloc | apply pw_below_drewN | apply below_drew1 | refine below_set ?_ GE342.out | refine below_set ?_ GE343.out) | exact HB.out)⟩⟩
       case round =>
        clear H'
        try clear c1
        try clear c2
        try clear p2
        try clear p3
        try clear q3
        try clear hx3
        try clear c6
        try clear c6b0
        try clear c6b1
        try clear c6b2
        try clear p6
        try clear c7
        try clear c10
        try clear c13
        try clear c14
        try clear c14b0
        try clear c15
        try clear c15b0
        try clear c16
        try clear c16b0
        try clear c17
        try clear c17b0
        try clear c18
        try clear c19
        try clear c21
        try clear c24
        try clear hcz11_0
        try clear hcz11_1
        try clear hcz12_0
        try clear hcz12_1
        try clear hcz19_0
        try clear hcz19_1
        try clear hcz20_0
        try clear hcz20_1
        try clear hcz22_0
        try clear hcz22_1
        try clear hcz23_0
        try clear hcz23_1
        try clear hcz25_0
        try clear hcz25_1
        try clear hcz8_0
        try clear hcz8_1
        try clear hcz9_0
        try clear hcz9_1
        try clear hfz11_0
        try clear hfz11_1
        try clear hfz12_0
        try clear hfz12_1
        try clear hfz19_0
        try clear hfz19_1
        try clear hfz20_0
        try clear hfz20_1
        try clear hfz22_0
        try clear hfz22_1
        try clear hfz23_0
        try clear hfz23_1
        try clear hfz25_0
        try clear hfz25_1
        try clear hfz8_0
        try clear hfz8_1
        try clear hfz9_0
        try clear hfz9_1
        try clear hx344_0
        try clear hx344_1
        try clear hx345_0
        try clear hx345_1
        try clear p2
        try clear p344
        try clear p345
        try clear q344
        try clear q345
        obtain ⟨x6_3, rfl, HA, HK3, BK342, BK343, HB⟩ := hrel
        cases gk with
        | zero => exact absurd HA.out (by simp [cohousingref23_Same.l1])
        | succ k3 =>
         have H := HA.out
         clear HA
         simp only [cohousingref23_Same.l1] at H
         by_cases c26 : x6_3 < (l0_1.length : Int)
         ·rw [if_pos c26] at H
          have c26b0 : decide (x6_3 < (l0_1.length : Int)) = true := decide_eq_true c26
          clear c26
          by_cases c27 : 0 ≤ x6_3
          ·rw [if_pos c27] at H
           have c27b0 : decide (0 ≤ x6_3) = true := decide_eq_true c27
           clear c27
           by_cases c28 : x6_3 < (l1_1.length : Int)
           ·rw [if_pos c28] at H
            have c28b0 : decide (x6_3 < (l1_1.length : Int)) = true := decide_eq_true c28
            clear c28
            replace H := Option.bind_eq_some_iff.mp H
            obtain ⟨t348, A290, H⟩ := H
            replace H : (if t348 = true then (if ((rd_T46 l0_1 x6_3).f0) = ((rd_T46 l1_1 x6_3).f0) then (if ((rd_T46 l0_1 x6_3).f1) = ((rd_T46 l1_1 x6_3).f1) then (cohousingref23_Same.l1 k3 (wrap64 (x6_3 + 1)) l0_0 l0_1 l1_0 l1_1) else (some false)) else (some false)) else (some false)) = some r := H
            have A29 := Aside0.mk A290
            clear A290
            by_cases c30 : t348 = true
            ·subst c30
             have H1 : (if ((rd_T46 l0_1 x6_3).f0) = ((rd_T46 l1_1 x6_3).f0) then (if ((rd_T46 l0_1 x6_3).f1) = ((rd_T46 l1_1 x6_3).f1) then (cohousingref23_Same.l1 k3 (wrap64 (x6_3 + 1)) l0_0 l0_1 l1_0 l1_1) else (some false)) else (some false)) = some r := by rw [if_pos rfl] at H; exact H
             clear H
             have H := H1
             clear H1
             by_cases c31 : ((rd_T46 l0_1 x6_3).f0) = ((rd_T46 l1_1 x6_3).f0)
             ·rw [if_pos c31] at H
              have c31b0 : (((rd_T46 l0_1 x6_3).f0) == ((rd_T46 l1_1 x6_3).f0)) = true := beq_iff_eq.mpr c31
              have c31b1 : (((rd_T46 l0_1 x6_3).f0) != ((rd_T46 l1_1 x6_3).f0)) = false := bne_eq_false_iff_eq.mpr c31
              clear c31
              by_cases c32 : ((rd_T46 l0_1 x6_3).f1) = ((rd_T46 l1_1 x6_3).f1)
              ·rw [if_pos c32] at H
               have c32b0 : (((rd_T46 l0_1 x6_3).f1) == ((rd_T46 l1_1 x6_3).f1)) = true := beq_iff_eq.mpr c32
               have c32b1 : (((rd_T46 l0_1 x6_3).f1) != ((rd_T46 l1_1 x6_3).f1)) = false := bne_eq_false_iff_eq.mpr c32
               clear c32
               have H' := Aside0.mk H
               clear H
               have hnb33 := NB342_343.out
               have hnc33 := NB343_342.out
               have hcz34_0 : wr.cell? ⟨gb342, 0, none⟩ = some (.slice A0_0 l0_0.length c0_0) := (blk_cell BK342.out 0).trans rfl
               have hcz34_1 : wr.cell? ⟨gb342, 1, none⟩ = some (.slice A0_1 l0_1.length c0_1) := (blk_cell BK342.out 1).trans rfl
               have hfz34_0 := blk_frozen BK342.out 0
               have hfz34_1 := blk_frozen BK342.out 1
               have p346 : 0 ≤ (x6_3 : Int) := od_
               have q346 : x6_3 < (l0_1.length : Int) := od_
               obtain ⟨ad346, A346_2, c346_2, e346, hx346_0, hx346_1, hx346_2, hl346_2, hi346_2⟩ := at_T46 HR0_1.out x6_3 p346 q346
               cases e346
               replace hx346_0 := (HB.out.cell (World.block_lt_of_cell? w _ hx346_0)).trans hx346_0
               replace hx346_1 := (HB.out.cell (World.block_lt_of_cell? w _ hx346_1)).trans hx346_1
               replace hx346_2 := (HB.out.cell (World.block_lt_of_cell? w _ hx346_2)).trans hx346_2
               have HR346_2 := Aside0.mk hi346_2
               have HC346_2 := Aside0.mk hl346_2
               clear hi346_2 hl346_2
               replace p346 := eq_true p346
               replace q346 := eq_true q346
               have hcz35_0 : wr.cell? ⟨gb343, 0, none⟩ = some (.slice A1_0 l1_0.length c1_0) := (blk_cell BK343.out 0).trans rfl
               have hcz35_1 : wr.cell? ⟨gb343, 1, none⟩ = some (.slice A1_1 l1_1.length c1_1) := (blk_cell BK343.out 1).trans rfl
               have hfz35_0 := blk_frozen BK343.out 0
               have hfz35_1 := blk_frozen BK343.out 1
               have p347 : 0 ≤ (x6_3 : Int) := od_
               have q347 : x6_3 < (l1_1.length : Int) := od_
               obtain ⟨ad347, A347_2, c347_2, e347, hx347_0, hx347_1, hx347_2, hl347_2, hi347_2⟩ := at_T46 HR1_1.out x6_3 p347 q347
               cases e347
               replace hx347_0 := (HB.out.cell (World.block_lt_of_cell? w _ hx347_0)).trans hx347_0
               replace hx347_1 := (HB.out.cell (World.block_lt_of_cell? w _ hx347_1)).trans hx347_1
               replace hx347_2 := (HB.out.cell (World.block_lt_of_cell? w _ hx347_2)).trans hx347_2
               have HR347_2 := Aside0.mk hi347_2
               have HC347_2 := Aside0.mk hl347_2
               clear hi347_2 hl347_2
               replace p347 := eq_true p347
               replace q347 := eq_true q347
               go_wp2_with (first | (go_at_call 18; (with_reducible refine (cohousingref23_SameInts.calls k3 _ _ ((rd_T46 l0_1 x6_3).f2) _ _ ((rd_T46 l1_1 x6_3).f2) true _ ?side1 ?side2 ?side3 ?side4 A29.out).mono ?_); (case side1 => exact cc_ ((Kd.C_below HR346_2.out HB.out))); (case side2 => exact HC346_2.out); (case side3 => exact cc_ ((Kd.C_below HR347_2.out HB.out))); (case side4 => exact HC347_2.out); rintro e w' ⟨rfl, ⟨nd, rfl⟩⟩; (try first | exact ⟨rfl, _, World.drewN_drewN _ _ _⟩ | exact ⟨rfl, _, Eq.trans (World.drewN_drewN _ _ _) (congrArg (World.drewN _) (Nat.add_assoc _ _ _))⟩); have p349 : 0 ≤ (x6_3 : Int) := od_; have q349 : x6_3 < (l0_1.length : Int) := od_; obtain ⟨ad349, A349_2, c349_2, e349, hx349_0, hx349_1, hx349_2, hl349_2, hi349_2⟩ := at_T46 HR0_1.out x6_3 p349 q349; obtain rfl : ad346 = ad349 := (by injection e349); replace hx349_0 := (HB.out.cell (World.block_lt_of_cell? w _ hx349_0)).trans hx349_0; replace hx349_1 := (HB.out.cell (World.block_lt_of_cell? w _ hx349_1)).trans hx349_1; replace hx349_2 := (HB.out.cell (World.block_lt_of_cell? w _ hx349_2)).trans hx349_2; have HR349_2 := Aside0.mk hi349_2; have HC349_2 := Aside0.mk hl349_2; clear hi349_2 hl349_2; replace p349 := eq_true p349; replace q349 := eq_true q349; have ea_ := Option.some.inj (hx346_2.symm.trans hx349_2); injection ea_ with ea_ en_ ec_; subst ea_; subst ec_; clear en_; have p350 : 0 ≤ (x6_3 : Int) := od_; have q350 : x6_3 < (l1_1.length : Int) := od_; obtain ⟨ad350, A350_2, c350_2, e350, hx350_0, hx350_1, hx350_2, hl350_2, hi350_2⟩ := at_T46 HR1_1.out x6_3 p350 q350; obtain rfl : ad347 = ad350 := (by injection e350); replace hx350_0 := (HB.out.cell (World.block_lt_of_cell? w _ hx350_0)).trans hx350_0; replace hx350_1 := (HB.out.cell (World.block_lt_of_cell? w _ hx350_1)).trans hx350_1; replace hx350_2 := (HB.out.cell (World.block_lt_of_cell? w _ hx350_2)).trans hx350_2; have HR350_2 := Aside0.mk hi350_2; have HC350_2 := Aside0.mk hl350_2; clear hi350_2 hl350_2; replace p350 := eq_true p350; replace q350 := eq_true q350; have ea_ := Option.some.inj (hx347_2.symm.trans hx350_2); injection ea_ with ea_ en_ ec_; subst ea_; subst ec_; clear en_; have p351 : 0 ≤ (x6_3 : Int) := od_; have q351 : x6_3 < (l0_1.length : Int) := od_; obtain ⟨ad351, A351_2, c351_2, e351, hx351_0, hx351_1, hx351_2, hl351_2, hi351_2⟩ := at_T46 HR0_1.out x6_3 p351 q351; obtain rfl : ad346 = ad351 := (by injection e351); replace hx351_0 := (HB.out.cell (World.block_lt_of_cell? w _ hx351_0)).trans hx351_0; replace hx351_1 := (HB.out.cell (World.block_lt_of_cell? w _ hx351_1)).trans hx351_1; replace hx351_2 := (HB.out.cell (World.block_lt_of_cell? w _ hx351_2)).trans hx351_2; have HR351_2 := Aside0.mk hi351_2; have HC351_2 := Aside0.mk hl351_2; clear hi351_2 hl351_2; replace p351 := eq_true p351; replace q351 := eq_true q351; have ea_ := Option.some.inj (hx346_2.symm.trans hx351_2); injection ea_ with ea_ en_ ec_; subst ea_; subst ec_; clear en_; have p352 : 0 ≤ (x6_3 : Int) := od_; have q352 : x6_3 < (l1_1.length : Int) := od_; obtain ⟨ad352, A352_2, c352_2, e352, hx352_0, hx352_1, hx352_2, hl352_2, hi352_2⟩ := at_T46 HR1_1.out x6_3 p352 q352; obtain rfl : ad347 = ad352 := (by injection e352); replace hx352_0 := (HB.out.cell (World.block_lt_of_cell? w _ hx352_0)).trans hx352_0; replace hx352_1 := (HB.out.cell (World.block_lt_of_cell? w _ hx352_1)).trans hx352_1; replace hx352_2 := (HB.out.cell (World.block_lt_of_cell? w _ hx352_2)).trans hx352_2; have HR352_2 := Aside0.mk hi352_2; have HC352_2 := Aside0.mk hl352_2; clear hi352_2 hl352_2; replace p352 := eq_true p352; replace q352 := eq_true q352; have ea_ := Option.some.inj (hx347_2.symm.trans hx352_2); injection ea_ with ea_ en_ ec_; subst ea_; subst ec_; clear en_))
               repeat (go_quiet (first | (go_at_call 18; (with_reducible refine (cohousingref23_SameInts.calls k3 _ _ ((rd_T46 l0_1 x6_3).f2) _ _ ((rd_T46 l1_1 x6_3).f2) true _ ?side1 ?side2 ?side3 ?side4 A29.out).mono ?_); (case side1 => exact cc_ ((Kd.C_below HR346_2.out HB.out))); (case side2 => exact HC346_2.out); (case side3 => exact cc_ ((Kd.C_below HR347_2.out HB.out))); (case side4 => exact HC347_2.out); rintro e w' ⟨rfl, ⟨nd, rfl⟩⟩; (try first | exact ⟨rfl, _, World.drewN_drewN _ _ _⟩ | exact ⟨rfl, _, Eq.trans (World.drewN_drewN _ _ _) (congrArg (World.drewN _) (Nat.add_assoc _ _ _))⟩); have p349 : 0 ≤ (x6_3 : Int) := od_; have q349 : x6_3 < (l0_1.length : Int) := od_; obtain ⟨ad349, A349_2, c349_2, e349, hx349_0, hx349_1, hx349_2, hl349_2, hi349_2⟩ := at_T46 HR0_1.out x6_3 p349 q349; obtain rfl : ad346 = ad349 := (by injection e349); replace hx349_0 := (HB.out.cell (World.block_lt_of_cell? w _ hx349_0)).trans hx349_0; replace hx349_1 := (HB.out.cell (World.block_lt_of_cell? w _ hx349_1)).trans hx349_1; replace hx349_2 := (HB.out.cell (World.block_lt_of_cell? w _ hx349_2)).trans hx349_2; have HR349_2 := Aside0.mk hi349_2; have HC349_2 := Aside0.mk hl349_2; clear hi349_2 hl349_2; replace p349 := eq_true p349; replace q349 := eq_true q349; have ea_ := Option.some.inj (hx346_2.symm.trans hx349_2); injection ea_ with ea_ en_ ec_; subst ea_; subst ec_; clear en_; have p350 : 0 ≤ (x6_3 : Int) := od_; have q350 : x6_3 < (l1_1.length : Int) := od_; obtain ⟨ad350, A350_2, c350_2, e350, hx350_0, hx350_1, hx350_2, hl350_2, hi350_2⟩ := at_T46 HR1_1.out x6_3 p350 q350; obtain rfl : ad347 = ad350 := (by injection e350); replace hx350_0 := (HB.out.cell (World.block_lt_of_cell? w _ hx350_0)).trans hx350_0; replace hx350_1 := (HB.out.cell (World.block_lt_of_cell? w _ hx350_1)).trans hx350_1; replace hx350_2 := (HB.out.cell (World.block_lt_of_cell? w _ hx350_2)).trans hx350_2; have HR350_2 := Aside0.mk hi350_2; have HC350_2 := Aside0.mk hl350_2; clear hi350_2 hl350_2; replace p350 := eq_true p350; replace q350 := eq_true q350; have ea_ := Option.some.inj (hx347_2.symm.trans hx350_2); injection ea_ with ea_ en_ ec_; subst ea_; subst ec_; clear en_; have p351 : 0 ≤ (x6_3 : Int) := od_; have q351 : x6_3 < (l0_1.length : Int) := od_; obtain ⟨ad351, A351_2, c351_2, e351, hx351_0, hx351_1, hx351_2, hl351_2, hi351_2⟩ := at_T46 HR0_1.out x6_3 p351 q351; obtain rfl : ad346 = ad351 := (by injection e351); replace hx351_0 := (HB.out.cell (World.block_lt_of_cell? w _ hx351_0)).trans hx351_0; replace hx351_1 := (HB.out.cell (World.block_lt_of_cell? w _ hx351_1)).trans hx351_1; replace hx351_2 := (HB.out.cell (World.block_lt_of_cell? w _ hx351_2)).trans hx351_2; have HR351_2 := Aside0.mk hi351_2; have HC351_2 := Aside0.mk hl351_2; clear hi351_2 hl351_2; replace p351 := eq_true p351; replace q351 := eq_true q351; have ea_ := Option.some.inj (hx346_2.symm.trans hx351_2); injection ea_ with ea_ en_ ec_; subst ea_; subst ec_; clear en_; have p352 : 0 ≤ (x6_3 : Int) := od_; have q352 : x6_3 < (l1_1.length : Int) := od_; obtain ⟨ad352, A352_2, c352_2, e352, hx352_0, hx352_1, hx352_2, hl352_2, hi352_2⟩ := at_T46 HR1_1.out x6_3 p352 q352; obtain rfl : ad347 = ad352 := (by injection e352); replace hx352_0 := (HB.out.cell (World.block_lt_of_cell? w _ hx352_0)).trans hx352_0; replace hx352_1 := (HB.out.cell (World.block_lt_of_cell? w _ hx352_1)).trans hx352_1; replace hx352_2 := (HB.out.cell (World.block_lt_of_cell? w _ hx352_2)).trans hx352_2; have HR352_2 := Aside0.mk hi352_2; have HC352_2 := Aside0.mk hl352_2; clear hi352_2 hl352_2; replace p352 := eq_true p352; replace q352 := eq_true q352; have ea_ := Option.some.inj (hx347_2.symm.trans hx352_2); injection ea_ with ea_ en_ ec_; subst ea_; subst ec_; clear en_)); try go_wp2_with (first | (go_at_call 18; (with_reducible refine (cohousingref23_SameInts.calls k3 _ _ ((rd_T46 l0_1 x6_3).f2) _ _ ((rd_T46 l1_1 x6_3).f2) true _ ?side1 ?side2 ?side3 ?side4 A29.out).mono ?_); (case side1 => exact cc_ ((Kd.C_below HR346_2.out HB.out))); (case side2 => exact HC346_2.out); (case side3 => exact cc_ ((Kd.C_below HR347_2.out HB.out))); (case side4 => exact HC347_2.out); rintro e w' ⟨rfl, ⟨nd, rfl⟩⟩; (try first | exact ⟨rfl, _, World.drewN_drewN _ _ _⟩ | exact ⟨rfl, _, Eq.trans (World.drewN_drewN _ _ _) (congrArg (World.drewN _) (Nat.add_assoc _ _ _))⟩); have p349 : 0 ≤ (x6_3 : Int) := od_; have q349 : x6_3 < (l0_1.length : Int) := od_; obtain ⟨ad349, A349_2, c349_2, e349, hx349_0, hx349_1, hx349_2, hl349_2, hi349_2⟩ := at_T46 HR0_1.out x6_3 p349 q349; obtain rfl : ad346 = ad349 := (by injection e349); replace hx349_0 := (HB.out.cell (World.block_lt_of_cell? w _ hx349_0)).trans hx349_0; replace hx349_1 := (HB.out.cell (World.block_lt_of_cell? w _ hx349_1)).trans hx349_1; replace hx349_2 := (HB.out.cell (World.block_lt_of_cell? w _ hx349_2)).trans hx349_2; have HR349_2 := Aside0.mk hi349_2; have HC349_2 := Aside0.mk hl349_2; clear hi349_2 hl349_2; replace p349 := eq_true p349; replace q349 := eq_true q349; have ea_ := Option.some.inj (hx346_2.symm.trans hx349_2); injection ea_ with ea_ en_ ec_; subst ea_; subst ec_; clear en_; have p350 : 0 ≤ (x6_3 : Int) := od_; have q350 : x6_3 < (l1_1.length : Int) := od_; obtain ⟨ad350, A350_2, c350_2, e350, hx350_0, hx350_1, hx350_2, hl350_2, hi350_2⟩ := at_T46 HR1_1.out x6_3 p350 q350; obtain rfl : ad347 = ad350 := (by injection e350); replace hx350_0 := (HB.out.cell (World.block_lt_of_cell? w _ hx350_0)).trans hx350_0; replace hx350_1 := (HB.out.cell (World.block_lt_of_cell? w _ hx350_1)).trans hx350_1; replace hx350_2 := (HB.out.cell (World.block_lt_of_cell? w _ hx350_2)).trans hx350_2; have HR350_2 := Aside0.mk hi350_2; have HC350_2 := Aside0.mk hl350_2; clear hi350_2 hl350_2; replace p350 := eq_true p350; replace q350 := eq_true q350; have ea_ := Option.some.inj (hx347_2.symm.trans hx350_2); injection ea_ with ea_ en_ ec_; subst ea_; subst ec_; clear en_; have p351 : 0 ≤ (x6_3 : Int) := od_; have q351 : x6_3 < (l0_1.length : Int) := od_; obtain ⟨ad351, A351_2, c351_2, e351, hx351_0, hx351_1, hx351_2, hl351_2, hi351_2⟩ := at_T46 HR0_1.out x6_3 p351 q351; obtain rfl : ad346 = ad351 := (by injection e351); replace hx351_0 := (HB.out.cell (World.block_lt_of_cell? w _ hx351_0)).trans hx351_0; replace hx351_1 := (HB.out.cell (World.block_lt_of_cell? w _ hx351_1)).trans hx351_1; replace hx351_2 := (HB.out.cell (World.block_lt_of_cell? w _ hx351_2)).trans hx351_2; have HR351_2 := Aside0.mk hi351_2; have HC351_2 := Aside0.mk hl351_2; clear hi351_2 hl351_2; replace p351 := eq_true p351; replace q351 := eq_true q351; have ea_ := Option.some.inj (hx346_2.symm.trans hx351_2); injection ea_ with ea_ en_ ec_; subst ea_; subst ec_; clear en_; have p352 : 0 ≤ (x6_3 : Int) := od_; have q352 : x6_3 < (l1_1.length : Int) := od_; obtain ⟨ad352, A352_2, c352_2, e352, hx352_0, hx352_1, hx352_2, hl352_2, hi352_2⟩ := at_T46 HR1_1.out x6_3 p352 q352; obtain rfl : ad347 = ad352 := (by injection e352); replace hx352_0 := (HB.out.cell (World.block_lt_of_cell? w _ hx352_0)).trans hx352_0; replace hx352_1 := (HB.out.cell (World.block_lt_of_cell? w _ hx352_1)).trans hx352_1; replace hx352_2 := (HB.out.cell (World.block_lt_of_cell? w _ hx352_2)).trans hx352_2; have HR352_2 := Aside0.mk hi352_2; have HC352_2 := Aside0.mk hl352_2; clear hi352_2 hl352_2; replace p352 := eq_true p352; replace q352 := eq_true q352; have ea_ := Option.some.inj (hx347_2.symm.trans hx352_2); injection ea_ with ea_ en_ ec_; subst ea_; subst ec_; clear en_)))
               go_roundg k3
               case measure => have := HJ2.out; have := HK2.out; have := HK3.out; omega
               case rel => exact ⟨(wrap64 (x6_3 + 1)), sd_, H', ⟨by have := HJ2.out; have := HK2.out; have := HK3.out; omega⟩, ⟨by (with_reducible repeat (first | refine blk_drewN ?_ _ | refine blk_drew ?_ | refine blk_alloc ?_ _)); exact BK342.out⟩, ⟨by (with_reducible repeat (first | refine blk_drewN ?_ _ | refine blk_drew ?_ | refine blk_alloc ?_ _)); exact BK343.out⟩, ⟨by repeat (first | (with_reducible first | exact HB.out | apply below_alloc | apply pw_below_drewN | apply below_drew1 | refine below_set ?_ GE342.out | refine below_set ?_ GE343.out) | exact HB.out)⟩⟩
              ·rw [if_neg c32] at H
               have c32b0 : (((rd_T46 l0_1 x6_3).f1) == ((rd_T46 l1_1 x6_3).f1)) = false := beq_eq_false_iff_ne.mpr c32
               have c32b1 : (((rd_T46 l0_1 x6_3).f1) != ((rd_T46 l1_1 x6_3).f1)) = true := bne_iff_ne.mpr c32
               obtain rfl := Option.some.inj H
               have hnb36 := NB342_343.out
               have hnc36 := NB343_342.out
               have hcz37_0 : wr.cell? ⟨gb342, 0, none⟩ = some (.slice A0_0 l0_0.length c0_0) := (blk_cell BK342.out 0).trans rfl
               have hcz37_1 : wr.cell? ⟨gb342, 1, none⟩ = some (.slice A0_1 l0_1.length c0_1) := (blk_cell BK342.out 1).trans rfl
               have hfz37_0 := blk_frozen BK342.out 0
               have hfz37_1 := blk_frozen BK342.out 1
               have p346 : 0 ≤ (x6_3 : Int) := od_
               have q346 : x6_3 < (l0_1.length : Int) := od_
               obtain ⟨ad346, A346_2, c346_2, e346, hx346_0, hx346_1, hx346_2, hl346_2, hi346_2⟩ := at_T46 HR0_1.out x6_3 p346 q346
               cases e346
               replace hx346_0 := (HB.out.cell (World.block_lt_of_cell? w _ hx346_0)).trans hx346_0
               replace hx346_1 := (HB.out.cell (World.block_lt_of_cell? w _ hx346_1)).trans hx346_1
               replace hx346_2 := (HB.out.cell (World.block_lt_of_cell? w _ hx346_2)).trans hx346_2
               have HR346_2 := Aside0.mk hi346_2
               have HC346_2 := Aside0.mk hl346_2
               clear hi346_2 hl346_2
               replace p346 := eq_true p346
               replace q346 := eq_true q346
               have hcz38_0 : wr.cell? ⟨gb343, 0, none⟩ = some (.slice A1_0 l1_0.length c1_0) := (blk_cell BK343.out 0).trans rfl
               have hcz38_1 : wr.cell? ⟨gb343, 1, none⟩ = some (.slice A1_1 l1_1.length c1_1) := (blk_cell BK343.out 1).trans rfl
               have hfz38_0 := blk_frozen BK343.out 0
               have hfz38_1 := blk_frozen BK343.out 1
               have p347 : 0 ≤ (x6_3 : Int) := od_
               have q347 : x6_3 < (l1_1.length : Int) := od_
               obtain ⟨ad347, A347_2, c347_2, e347, hx347_0, hx347_1, hx347_2, hl347_2, hi347_2⟩ := at_T46 HR1_1.out x6_3 p347 q347
               cases e347
               replace hx347_0 := (HB.out.cell (World.block_lt_of_cell? w _ hx347_0)).trans hx347_0
               replace hx347_1 := (HB.out.cell (World.block_lt_of_cell? w _ hx347_1)).trans hx347_1
               replace hx347_2 := (HB.out.cell (World.block_lt_of_cell? w _ hx347_2)).trans hx347_2
               have HR347_2 := Aside0.mk hi347_2
               have HC347_2 := Aside0.mk hl347_2
               clear hi347_2 hl347_2
               replace p347 := eq_true p347
               replace q347 := eq_true q347
               go_wp2_with (first | (go_at_call 18; (with_reducible refine (cohousingref23_SameInts.calls k3 _ _ ((rd_T46 l0_1 x6_3).f2) _ _ ((rd_T46 l1_1 x6_3).f2) true _ ?side1 ?side2 ?side3 ?side4 A29.out).mono ?_); (case side1 => exact cc_ ((Kd.C_below HR346_2.out HB.out))); (case side2 => exact HC346_2.out); (case side3 => exact cc_ ((Kd.C_below HR347_2.out HB.out))); (case side4 => exact HC347_2.out); rintro e w' ⟨rfl, ⟨nd, rfl⟩⟩; (try first | exact ⟨rfl, _, World.drewN_drewN _ _ _⟩ | exact ⟨rfl, _, Eq.trans (World.drewN_drewN _ _ _) (congrArg (World.drewN _) (Nat.add_assoc _ _ _))⟩); have p349 : 0 ≤ (x6_3 : Int) := od_; have q349 : x6_3 < (l0_1.length : Int) := od_; obtain ⟨ad349, A349_2, c349_2, e349, hx349_0, hx349_1, hx349_2, hl349_2, hi349_2⟩ := at_T46 HR0_1.out x6_3 p349 q349; obtain rfl : ad346 = ad349 := (by injection e349); replace hx349_0 := (HB.out.cell (World.block_lt_of_cell? w _ hx349_0)).trans hx349_0; replace hx349_1 := (HB.out.cell (World.block_lt_of_cell? w _ hx349_1)).trans hx349_1; replace hx349_2 := (HB.out.cell (World.block_lt_of_cell? w _ hx349_2)).trans hx349_2; have HR349_2 := Aside0.mk hi349_2; have HC349_2 := Aside0.mk hl349_2; clear hi349_2 hl349_2; replace p349 := eq_true p349; replace q349 := eq_true q349; have ea_ := Option.some.inj (hx346_2.symm.trans hx349_2); injection ea_ with ea_ en_ ec_; subst ea_; subst ec_; clear en_; have p350 : 0 ≤ (x6_3 : Int) := od_; have q350 : x6_3 < (l1_1.length : Int) := od_; obtain ⟨ad350, A350_2, c350_2, e350, hx350_0, hx350_1, hx350_2, hl350_2, hi350_2⟩ := at_T46 HR1_1.out x6_3 p350 q350; obtain rfl : ad347 = ad350 := (by injection e350); replace hx350_0 := (HB.out.cell (World.block_lt_of_cell? w _ hx350_0)).trans hx350_0; replace hx350_1 := (HB.out.cell (World.block_lt_of_cell? w _ hx350_1)).trans hx350_1; replace hx350_2 := (HB.out.cell (World.block_lt_of_cell? w _ hx350_2)).trans hx350_2; have HR350_2 := Aside0.mk hi350_2; have HC350_2 := Aside0.mk hl350_2; clear hi350_2 hl350_2; replace p350 := eq_true p350; replace q350 := eq_true q350; have ea_ := Option.some.inj (hx347_2.symm.trans hx350_2); injection ea_ with ea_ en_ ec_; subst ea_; subst ec_; clear en_; have p351 : 0 ≤ (x6_3 : Int) := od_; have q351 : x6_3 < (l0_1.length : Int) := od_; obtain ⟨ad351, A351_2, c351_2, e351, hx351_0, hx351_1, hx351_2, hl351_2, hi351_2⟩ := at_T46 HR0_1.out x6_3 p351 q351; obtain rfl : ad346 = ad351 := (by injection e351); replace hx351_0 := (HB.out.cell (World.block_lt_of_cell? w _ hx351_0)).trans hx351_0; replace hx351_1 := (HB.out.cell (World.block_lt_of_cell? w _ hx351_1)).trans hx351_1; replace hx351_2 := (HB.out.cell (World.block_lt_of_cell? w _ hx351_2)).trans hx351_2; have HR351_2 := Aside0.mk hi351_2; have HC351_2 := Aside0.mk hl351_2; clear hi351_2 hl351_2; replace p351 := eq_true p351; replace q351 := eq_true q351; have ea_ := Option.some.inj (hx346_2.symm.trans hx351_2); injection ea_ with ea_ en_ ec_; subst ea_; subst ec_; clear en_; have p352 : 0 ≤ (x6_3 : Int) := od_; have q352 : x6_3 < (l1_1.length : Int) := od_; obtain ⟨ad352, A352_2, c352_2, e352, hx352_0, hx352_1, hx352_2, hl352_2, hi352_2⟩ := at_T46 HR1_1.out x6_3 p352 q352; obtain rfl : ad347 = ad352 := (by injection e352); replace hx352_0 := (HB.out.cell (World.block_lt_of_cell? w _ hx352_0)).trans hx352_0; replace hx352_1 := (HB.out.cell (World.block_lt_of_cell? w _ hx352_1)).trans hx352_1; replace hx352_2 := (HB.out.cell (World.block_lt_of_cell? w _ hx352_2)).trans hx352_2; have HR352_2 := Aside0.mk hi352_2; have HC352_2 := Aside0.mk hl352_2; clear hi352_2 hl352_2; replace p352 := eq_true p352; replace q352 := eq_true q352; have ea_ := Option.some.inj (hx347_2.symm.trans hx352_2); injection ea_ with ea_ en_ ec_; subst ea_; subst ec_; clear en_))
               repeat (go_quiet (first | (go_at_call 18; (with_reducible refine (cohousingref23_SameInts.calls k3 _ _ ((rd_T46 l0_1 x6_3).f2) _ _ ((rd_T46 l1_1 x6_3).f2) true _ ?side1 ?side2 ?side3 ?side4 A29.out).mono ?_); (case side1 => exact cc_ ((Kd.C_below HR346_2.out HB.out))); (case side2 => exact HC346_2.out); (case side3 => exact cc_ ((Kd.C_below HR347_2.out HB.out))); (case side4 => exact HC347_2.out); rintro e w' ⟨rfl, ⟨nd, rfl⟩⟩; (try first | exact ⟨rfl, _, World.drewN_drewN _ _ _⟩ | exact ⟨rfl, _, Eq.trans (World.drewN_drewN _ _ _) (congrArg (World.drewN _) (Nat.add_assoc _ _ _))⟩); have p349 : 0 ≤ (x6_3 : Int) := od_; have q349 : x6_3 < (l0_1.length : Int) := od_; obtain ⟨ad349, A349_2, c349_2, e349, hx349_0, hx349_1, hx349_2, hl349_2, hi349_2⟩ := at_T46 HR0_1.out x6_3 p349 q349; obtain rfl : ad346 = ad349 := (by injection e349); replace hx349_0 := (HB.out.cell (World.block_lt_of_cell? w _ hx349_0)).trans hx349_0; replace hx349_1 := (HB.out.cell (World.block_lt_of_cell? w _ hx349_1)).trans hx349_1; replace hx349_2 := (HB.out.cell (World.block_lt_of_cell? w _ hx349_2)).trans hx349_2; have HR349_2 := Aside0.mk hi349_2; have HC349_2 := Aside0.mk hl349_2; clear hi349_2 hl349_2; replace p349 := eq_true p349; replace q349 := eq_true q349; have ea_ := Option.some.inj (hx346_2.symm.trans hx349_2); injection ea_ with ea_ en_ ec_; subst ea_; subst ec_; clear en_; have p350 : 0 ≤ (x6_3 : Int) := od_; have q350 : x6_3 < (l1_1.length : Int) := od_; obtain ⟨ad350, A350_2, c350_2, e350, hx350_0, hx350_1, hx350_2, hl350_2, hi350_2⟩ := at_T46 HR1_1.out x6_3 p350 q350; obtain rfl : ad347 = ad350 := (by injection e350); replace hx350_0 := (HB.out.cell (World.block_lt_of_cell? w _ hx350_0)).trans hx350_0; replace hx350_1 := (HB.out.cell (World.block_lt_of_cell? w _ hx350_1)).trans hx350_1; replace hx350_2 := (HB.out.cell (World.block_lt_of_cell? w _ hx350_2)).trans hx350_2; have HR350_2 := Aside0.mk hi350_2; have HC350_2 := Aside0.mk hl350_2; clear hi350_2 hl350_2; replace p350 := eq_true p350; replace q350 := eq_true q350; have ea_ := Option.some.inj (hx347_2.symm.trans hx350_2); injection ea_ with ea_ en_ ec_; subst ea_; subst ec_; clear en_; have p351 : 0 ≤ (x6_3 : Int) := od_; have q351 : x6_3 < (l0_1.length : Int) := od_; obtain ⟨ad351, A351_2, c351_2, e351, hx351_0, hx351_1, hx351_2, hl351_2, hi351_2⟩ := at_T46 HR0_1.out x6_3 p351 q351; obtain rfl : ad346 = ad351 := (by injection e351); replace hx351_0 := (HB.out.cell (World.block_lt_of_cell? w _ hx351_0)).trans hx351_0; replace hx351_1 := (HB.out.cell (World.block_lt_of_cell? w _ hx351_1)).trans hx351_1; replace hx351_2 := (HB.out.cell (World.block_lt_of_cell? w _ hx351_2)).trans hx351_2; have HR351_2 := Aside0.mk hi351_2; have HC351_2 := Aside0.mk hl351_2; clear hi351_2 hl351_2; replace p351 := eq_true p351; replace q351 := eq_true q351; have ea_ := Option.some.inj (hx346_2.symm.trans hx351_2); injection ea_ with ea_ en_ ec_; subst ea_; subst ec_; clear en_; have p352 : 0 ≤ (x6_3 : Int) := od_; have q352 : x6_3 < (l1_1.length : Int) := od_; obtain ⟨ad352, A352_2, c352_2, e352, hx352_0, hx352_1, hx352_2, hl352_2, hi352_2⟩ := at_T46 HR1_1.out x6_3 p352 q352; obtain rfl : ad347 = ad352 := (by injection e352); replace hx352_0 := (HB.out.cell (World.block_lt_of_cell? w _ hx352_0)).trans hx352_0; replace hx352_1 := (HB.out.cell (World.block_lt_of_cell? w _ hx352_1)).trans hx352_1; replace hx352_2 := (HB.out.cell (World.block_lt_of_cell? w _ hx352_2)).trans hx352_2; have HR352_2 := Aside0.mk hi352_2; have HC352_2 := Aside0.mk hl352_2; clear hi352_2 hl352_2; replace p352 := eq_true p352; replace q352 := eq_true q352; have ea_ := Option.some.inj (hx347_2.symm.trans hx352_2); injection ea_ with ea_ en_ ec_; subst ea_; subst ec_; clear en_)); try go_wp2_with (first | (go_at_call 18; (with_reducible refine (cohousingref23_SameInts.calls k3 _ _ ((rd_T46 l0_1 x6_3).f2) _ _ ((rd_T46 l1_1 x6_3).f2) true _ ?side1 ?side2 ?side3 ?side4 A29.out).mono ?_); (case side1 => exact cc_ ((Kd.C_below HR346_2.out HB.out))); (case side2 => exact HC346_2.out); (case side3 => exact cc_ ((Kd.C_below HR347_2.out HB.out))); (case side4 => exact HC347_2.out); rintro e w' ⟨rfl, ⟨nd, rfl⟩⟩; (try first | exact ⟨rfl, _, World.drewN_drewN _ _ _⟩ | exact ⟨rfl, _, Eq.trans (World.drewN_drewN _ _ _) (congrArg (World.drewN _) (Nat.add_assoc _ _ _))⟩); have p349 : 0 ≤ (x6_3 : Int) := od_; have q349 : x6_3 < (l0_1.length : Int) := od_; obtain ⟨ad349, A349_2, c349_2, e349, hx349_0, hx349_1, hx349_2, hl349_2, hi349_2⟩ := at_T46 HR0_1.out x6_3 p349 q349; obtain rfl : ad346 = ad349 := (by injection e349); replace hx349_0 := (HB.out.cell (World.block_lt_of_cell? w _ hx349_0)).trans hx349_0; replace hx349_1 := (HB.out.cell (World.block_lt_of_cell? w _ hx349_1)).trans hx349_1; replace hx349_2 := (HB.out.cell (World.block_lt_of_cell? w _ hx349_2)).trans hx349_2; have HR349_2 := Aside0.mk hi349_2; have HC349_2 := Aside0.mk hl349_2; clear hi349_2 hl349_2; replace p349 := eq_true p349; replace q349 := eq_true q349; have ea_ := Option.some.inj (hx346_2.symm.trans hx349_2); injection ea_ with ea_ en_ ec_; subst ea_; subst ec_; clear en_; have p350 : 0 ≤ (x6_3 : Int) := od_; have q350 : x6_3 < (l1_1.length : Int) := od_; obtain ⟨ad350, A350_2, c350_2, e350, hx350_0, hx350_1, hx350_2, hl350_2, hi350_2⟩ := at_T46 HR1_1.out x6_3 p350 q350; obtain rfl : ad347 = ad350 := (by injection e350); replace hx350_0 := (HB.out.cell (World.block_lt_of_cell? w _ hx350_0)).trans hx350_0; replace hx350_1 := (HB.out.cell (World.block_lt_of_cell? w _ hx350_1)).trans hx350_1; replace hx350_2 := (HB.out.cell (World.block_lt_of_cell? w _ hx350_2)).trans hx350_2; have HR350_2 := Aside0.mk hi350_2; have HC350_2 := Aside0.mk hl350_2; clear hi350_2 hl350_2; replace p350 := eq_true p350; replace q350 := eq_true q350; have ea_ := Option.some.inj (hx347_2.symm.trans hx350_2); injection ea_ with ea_ en_ ec_; subst ea_; subst ec_; clear en_; have p351 : 0 ≤ (x6_3 : Int) := od_; have q351 : x6_3 < (l0_1.length : Int) := od_; obtain ⟨ad351, A351_2, c351_2, e351, hx351_0, hx351_1, hx351_2, hl351_2, hi351_2⟩ := at_T46 HR0_1.out x6_3 p351 q351; obtain rfl : ad346 = ad351 := (by injection e351); replace hx351_0 := (HB.out.cell (World.block_lt_of_cell? w _ hx351_0)).trans hx351_0; replace hx351_1 := (HB.out.cell (World.block_lt_of_cell? w _ hx351_1)).trans hx351_1; replace hx351_2 := (HB.out.cell (World.block_lt_of_cell? w _ hx351_2)).trans hx351_2; have HR351_2 := Aside0.mk hi351_2; have HC351_2 := Aside0.mk hl351_2; clear hi351_2 hl351_2; replace p351 := eq_true p351; replace q351 := eq_true q351; have ea_ := Option.some.inj (hx346_2.symm.trans hx351_2); injection ea_ with ea_ en_ ec_; subst ea_; subst ec_; clear en_; have p352 : 0 ≤ (x6_3 : Int) := od_; have q352 : x6_3 < (l1_1.length : Int) := od_; obtain ⟨ad352, A352_2, c352_2, e352, hx352_0, hx352_1, hx352_2, hl352_2, hi352_2⟩ := at_T46 HR1_1.out x6_3 p352 q352; obtain rfl : ad347 = ad352 := (by injection e352); replace hx352_0 := (HB.out.cell (World.block_lt_of_cell? w _ hx352_0)).trans hx352_0; replace hx352_1 := (HB.out.cell (World.block_lt_of_cell? w _ hx352_1)).trans hx352_1; replace hx352_2 := (HB.out.cell (World.block_lt_of_cell? w _ hx352_2)).trans hx352_2; have HR352_2 := Aside0.mk hi352_2; have HC352_2 := Aside0.mk hl352_2; clear hi352_2 hl352_2; replace p352 := eq_true p352; replace q352 := eq_true q352; have ea_ := Option.some.inj (hx347_2.symm.trans hx352_2); injection ea_ with ea_ en_ ec_; subst ea_; subst ec_; clear en_)))
               go_ret
               exact ⟨ew_, by repeat (first | (with_reducible first | exact HB.out | apply below_alloc | apply pw_below_drewN | apply below_drew1 | refine below_set ?_ GE342.out | refine below_set ?_ GE343.out) | exact HB.out)⟩
             ·rw [if_neg c31] at H
              have c31b0 : (((rd_T46 l0_1 x6_3).f0) == ((rd_T46 l1_1 x6_3).f0)) = false := beq_eq_false_iff_ne.mpr c31
              have c31b1 : (((rd_T46 l0_1 x6_3).f0) != ((rd_T46 l1_1 x6_3).f0)) = true := bne_iff_ne.mpr c31
              obtain rfl := Option.some.inj H
              have hnb39 := NB342_343.out
              have hnc39 := NB343_342.out
              have hcz40_0 : wr.cell? ⟨gb342, 0, none⟩ = some (.slice A0_0 l0_0.length c0_0) := (blk_cell BK342.out 0).trans rfl
              have hcz40_1 : wr.cell? ⟨gb342, 1, none⟩ = some (.slice A0_1 l0_1.length c0_1) := (blk_cell BK342.out 1).trans rfl
              have hfz40_0 := blk_frozen BK342.out 0
              have hfz40_1 := blk_frozen BK342.out 1
              have p346 : 0 ≤ (x6_3 : Int) := od_
              have q346 : x6_3 < (l0_1.length : Int) := od_
              obtain ⟨ad346, A346_2, c346_2, e346, hx346_0, hx346_1, hx346_2, hl346_2, hi346_2⟩ := at_T46 HR0_1.out x6_3 p346 q346
              cases e346
              replace hx346_0 := (HB.out.cell (World.block_lt_of_cell? w _ hx346_0)).trans hx346_0
              replace hx346_1 := (HB.out.cell (World.block_lt_of_cell? w _ hx346_1)).trans hx346_1
              replace hx346_2 := (HB.out.cell (World.block_lt_of_cell? w _ hx346_2)).trans hx346_2
              have HR346_2 := Aside0.mk hi346_2
              have HC346_2 := Aside0.mk hl346_2
              clear hi346_2 hl346_2
              replace p346 := eq_true p346
              replace q346 := eq_true q346
              have hcz41_0 : wr.cell? ⟨gb343, 0, none⟩ = some (.slice A1_0 l1_0.length c1_0) := (blk_cell BK343.out 0).trans rfl
              have hcz41_1 : wr.cell? ⟨gb343, 1, none⟩ = some (.slice A1_1 l1_1.length c1_1) := (blk_cell BK343.out 1).trans rfl
              have hfz41_0 := blk_frozen BK343.out 0
              have hfz41_1 := blk_frozen BK343.out 1
              have p347 : 0 ≤ (x6_3 : Int) := od_
              have q347 : x6_3 < (l1_1.length : Int) := od_
              obtain ⟨ad347, A347_2, c347_2, e347, hx347_0, hx347_1, hx347_2, hl347_2, hi347_2⟩ := at_T46 HR1_1.out x6_3 p347 q347
              cases e347
              replace hx347_0 := (HB.out.cell (World.block_lt_of_cell? w _ hx347_0)).trans hx347_0
              replace hx347_1 := (HB.out.cell (World.block_lt_of_cell? w _ hx347_1)).trans hx347_1
              replace hx347_2 := (HB.out.cell (World.block_lt_of_cell? w _ hx347_2)).trans hx347_2
              have HR347_2 := Aside0.mk hi347_2
              have HC347_2 := Aside0.mk hl347_2
              clear hi347_2 hl347_2
              replace p347 := eq_true p347
              replace q347 := eq_true q347
              go_wp2_with (first | (go_at_call 18; (with_reducible refine (cohousingref23_SameInts.calls k3 _ _ ((rd_T46 l0_1 x6_3).f2) _ _ ((rd_T46 l1_1 x6_3).f2) true _ ?side1 ?side2 ?side3 ?side4 A29.out).mono ?_); (case side1 => exact cc_ ((Kd.C_below HR346_2.out HB.out))); (case side2 => exact HC346_2.out); (case side3 => exact cc_ ((Kd.C_below HR347_2.out HB.out))); (case side4 => exact HC347_2.out); rintro e w' ⟨rfl, ⟨nd, rfl⟩⟩; (try first | exact ⟨rfl, _, World.drewN_drewN _ _ _⟩ | exact ⟨rfl, _, Eq.trans (World.drewN_drewN _ _ _) (congrArg (World.drewN _) (Nat.add_assoc _ _ _))⟩); have p349 : 0 ≤ (x6_3 : Int) := od_; have q349 : x6_3 < (l0_1.length : Int) := od_; obtain ⟨ad349, A349_2, c349_2, e349, hx349_0, hx349_1, hx349_2, hl349_2, hi349_2⟩ := at_T46 HR0_1.out x6_3 p349 q349; obtain rfl : ad346 = ad349 := (by injection e349); replace hx349_0 := (HB.out.cell (World.block_lt_of_cell? w _ hx349_0)).trans hx349_0; replace hx349_1 := (HB.out.cell (World.block_lt_of_cell? w _ hx349_1)).trans hx349_1; replace hx349_2 := (HB.out.cell (World.block_lt_of_cell? w _ hx349_2)).trans hx349_2; have HR349_2 := Aside0.mk hi349_2; have HC349_2 := Aside0.mk hl349_2; clear hi349_2 hl349_2; replace p349 := eq_true p349; replace q349 := eq_true q349; have ea_ := Option.some.inj (hx346_2.symm.trans hx349_2); injection ea_ with ea_ en_ ec_; subst ea_; subst ec_; clear en_; have p350 : 0 ≤ (x6_3 : Int) := od_; have q350 : x6_3 < (l1_1.length : Int) := od_; obtain ⟨ad350, A350_2, c350_2, e350, hx350_0, hx350_1, hx350_2, hl350_2, hi350_2⟩ := at_T46 HR1_1.out x6_3 p350 q350; obtain rfl : ad347 = ad350 := (by injection e350); replace hx350_0 := (HB.out.cell (World.block_lt_of_cell? w _ hx350_0)).trans hx350_0; replace hx350_1 := (HB.out.cell (World.block_lt_of_cell? w _ hx350_1)).trans hx350_1; replace hx350_2 := (HB.out.cell (World.block_lt_of_cell? w _ hx350_2)).trans hx350_2; have HR350_2 := Aside0.mk hi350_2; have HC350_2 := Aside0.mk hl350_2; clear hi350_2 hl350_2; replace p350 := eq_true p350; replace q350 := eq_true q350; have ea_ := Option.some.inj (hx347_2.symm.trans hx350_2); injection ea_ with ea_ en_ ec_; subst ea_; subst ec_; clear en_))
              repeat (go_quiet (first | (go_at_call 18; (with_reducible refine (cohousingref23_SameInts.calls k3 _ _ ((rd_T46 l0_1 x6_3).f2) _ _ ((rd_T46 l1_1 x6_3).f2) true _ ?side1 ?side2 ?side3 ?side4 A29.out).mono ?_); (case side1 => exact cc_ ((Kd.C_below HR346_2.out HB.out))); (case side2 => exact HC346_2.out); (case side3 => exact cc_ ((Kd.C_below HR347_2.out HB.out))); (case side4 => exact HC347_2.out); rintro e w' ⟨rfl, ⟨nd, rfl⟩⟩; (try first | exact ⟨rfl, _, World.drewN_drewN _ _ _⟩ | exact ⟨rfl, _, Eq.trans (World.drewN_drewN _ _ _) (congrArg (World.drewN _) (Nat.add_assoc _ _ _))⟩); have p349 : 0 ≤ (x6_3 : Int) := od_; have q349 : x6_3 < (l0_1.length : Int) := od_; obtain ⟨ad349, A349_2, c349_2, e349, hx349_0, hx349_1, hx349_2, hl349_2, hi349_2⟩ := at_T46 HR0_1.out x6_3 p349 q349; obtain rfl : ad346 = ad349 := (by injection e349); replace hx349_0 := (HB.out.cell (World.block_lt_of_cell? w _ hx349_0)).trans hx349_0; replace hx349_1 := (HB.out.cell (World.block_lt_of_cell? w _ hx349_1)).trans hx349_1; replace hx349_2 := (HB.out.cell (World.block_lt_of_cell? w _ hx349_2)).trans hx349_2; have HR349_2 := Aside0.mk hi349_2; have HC349_2 := Aside0.mk hl349_2; clear hi349_2 hl349_2; replace p349 := eq_true p349; replace q349 := eq_true q349; have ea_ := Option.some.inj (hx346_2.symm.trans hx349_2); injection ea_ with ea_ en_ ec_; subst ea_; subst ec_; clear en_; have p350 : 0 ≤ (x6_3 : Int) := od_; have q350 : x6_3 < (l1_1.length : Int) := od_; obtain ⟨ad350, A350_2, c350_2, e350, hx350_0, hx350_1, hx350_2, hl350_2, hi350_2⟩ := at_T46 HR1_1.out x6_3 p350 q350; obtain rfl : ad347 = ad350 := (by injection e350); replace hx350_0 := (HB.out.cell (World.block_lt_of_cell? w _ hx350_0)).trans hx350_0; replace hx350_1 := (HB.out.cell (World.block_lt_of_cell? w _ hx350_1)).trans hx350_1; replace hx350_2 := (HB.out.cell (World.block_lt_of_cell? w _ hx350_2)).trans hx350_2; have HR350_2 := Aside0.mk hi350_2; have HC350_2 := Aside0.mk hl350_2; clear hi350_2 hl350_2; replace p350 := eq_true p350; replace q350 := eq_true q350; have ea_ := Option.some.inj (hx347_2.symm.trans hx350_2); injection ea_ with ea_ en_ ec_; subst ea_; subst ec_; clear en_)); try go_wp2_with (first | (go_at_call 18; (with_reducible refine (cohousingref23_SameInts.calls k3 _ _ ((rd_T46 l0_1 x6_3).f2) _ _ ((rd_T46 l1_1 x6_3).f2) true _ ?side1 ?side2 ?side3 ?side4 A29.out).mono ?_); (case side1 => exact cc_ ((Kd.C_below HR346_2.out HB.out))); (case side2 => exact HC346_2.out); (case side3 => exact cc_ ((Kd.C_below HR347_2.out HB.out))); (case side4 => exact HC347_2.out); rintro e w' ⟨rfl, ⟨nd, rfl⟩⟩; (try first | exact ⟨rfl, _, World.drewN_drewN _ _ _⟩ | exact ⟨rfl, _, Eq.trans (World.drewN_drewN _ _ _) (congrArg (World.drewN _) (Nat.add_assoc _ _ _))⟩); have p349 : 0 ≤ (x6_3 : Int) := od_; have q349 : x6_3 < (l0_1.length : Int) := od_; obtain ⟨ad349, A349_2, c349_2, e349, hx349_0, hx349_1, hx349_2, hl349_2, hi349_2⟩ := at_T46 HR0_1.out x6_3 p349 q349; obtain rfl : ad346 = ad349 := (by injection e349); replace hx349_0 := (HB.out.cell (World.block_lt_of_cell? w _ hx349_0)).trans hx349_0; replace hx349_1 := (HB.out.cell (World.block_lt_of_cell? w _ hx349_1)).trans hx349_1; replace hx349_2 := (HB.out.cell (World.block_lt_of_cell? w _ hx349_2)).trans hx349_2; have HR349_2 := Aside0.mk hi349_2; have HC349_2 := Aside0.mk hl349_2; clear hi349_2 hl349_2; replace p349 := eq_true p349; replace q349 := eq_true q349; have ea_ := Option.some.inj (hx346_2.symm.trans hx349_2); injection ea_ with ea_ en_ ec_; subst ea_; subst ec_; clear en_; have p350 : 0 ≤ (x6_3 : Int) := od_; have q350 : x6_3 < (l1_1.length : Int) := od_; obtain ⟨ad350, A350_2, c350_2, e350, hx350_0, hx350_1, hx350_2, hl350_2, hi350_2⟩ := at_T46 HR1_1.out x6_3 p350 q350; obtain rfl : ad347 = ad350 := (by injection e350); replace hx350_0 := (HB.out.cell (World.block_lt_of_cell? w _ hx350_0)).trans hx350_0; replace hx350_1 := (HB.out.cell (World.block_lt_of_cell? w _ hx350_1)).trans hx350_1; replace hx350_2 := (HB.out.cell (World.block_lt_of_cell? w _ hx350_2)).trans hx350_2; have HR350_2 := Aside0.mk hi350_2; have HC350_2 := Aside0.mk hl350_2; clear hi350_2 hl350_2; replace p350 := eq_true p350; replace q350 := eq_true q350; have ea_ := Option.some.inj (hx347_2.symm.trans hx350_2); injection ea_ with ea_ en_ ec_; subst ea_; subst ec_; clear en_)))
              go_ret
              exact ⟨ew_, by repeat (first | (with_reducible first | exact HB.out | apply below_alloc | apply pw_below_drewN | apply below_drew1 | refine below_set ?_ GE342.out | refine below_set ?_ GE343.out) | exact HB.out)⟩
            ·replace c30 := Bool.eq_false_iff.mpr c30
             subst c30
             have H1 : (some false) = some r := by rw [if_neg (show ¬ (false = true) by decide)] at H; exact H
             clear H
             have H := H1
             clear H1
             obtain rfl := Option.some.inj H
             have hnb42 := NB342_343.out
             have hnc42 := NB343_342.out
             have hcz43_0 : wr.cell? ⟨gb342, 0, none⟩ = some (.slice A0_0 l0_0.length c0_0) := (blk_cell BK342.out 0).trans rfl
             have hcz43_1 : wr.cell? ⟨gb342, 1, none⟩ = some (.slice A0_1 l0_1.length c0_1) := (blk_cell BK342.out 1).trans rfl
             have hfz43_0 := blk_frozen BK342.out 0
             have hfz43_1 := blk_frozen BK342.out 1
             have p346 : 0 ≤ (x6_3 : Int) := od_
             have q346 : x6_3 < (l0_1.length : Int) := od_
             obtain ⟨ad346, A346_2, c346_2, e346, hx346_0, hx346_1, hx346_2, hl346_2, hi346_2⟩ := at_T46 HR0_1.out x6_3 p346 q346
             cases e346
             replace hx346_0 := (HB.out.cell (World.block_lt_of_cell? w _ hx346_0)).trans hx346_0
             replace hx346_1 := (HB.out.cell (World.block_lt_of_cell? w _ hx346_1)).trans hx346_1
             replace hx346_2 := (HB.out.cell (World.block_lt_of_cell? w _ hx346_2)).trans hx346_2
             have HR346_2 := Aside0.mk hi346_2
             have HC346_2 := Aside0.mk hl346_2
             clear hi346_2 hl346_2
             replace p346 := eq_true p346
             replace q346 := eq_true q346
             have hcz44_0 : wr.cell? ⟨gb343, 0, none⟩ = some (.slice A1_0 l1_0.length c1_0) := (blk_cell BK343.out 0).trans rfl
             have hcz44_1 : wr.cell? ⟨gb343, 1, none⟩ = some (.slice A1_1 l1_1.length c1_1) := (blk_cell BK343.out 1).trans rfl
             have hfz44_0 := blk_frozen BK343.out 0
             have hfz44_1 := blk_frozen BK343.out 1
             have p347 : 0 ≤ (x6_3 : Int) := od_
             have q347 : x6_3 < (l1_1.length : Int) := od_
             obtain ⟨ad347, A347_2, c347_2, e347, hx347_0, hx347_1, hx347_2, hl347_2, hi347_2⟩ := at_T46 HR1_1.out x6_3 p347 q347
             cases e347
             replace hx347_0 := (HB.out.cell (World.block_lt_of_cell? w _ hx347_0)).trans hx347_0
             replace hx347_1 := (HB.out.cell (World.block_lt_of_cell? w _ hx347_1)).trans hx347_1
             replace hx347_2 := (HB.out.cell (World.block_lt_of_cell? w _ hx347_2)).trans hx347_2
             have HR347_2 := Aside0.mk hi347_2
             have HC347_2 := Aside0.mk hl347_2
             clear hi347_2 hl347_2
             replace p347 := eq_true p347
             replace q347 := eq_true q347
             go_wp2_with (first | (go_at_call 18; (with_reducible refine (cohousingref23_SameInts.calls k3 _ _ ((rd_T46 l0_1 x6_3).f2) _ _ ((rd_T46 l1_1 x6_3).f2) false _ ?side1 ?side2 ?side3 ?side4 A29.out).mono ?_); (case side1 => exact cc_ ((Kd.C_below HR346_2.out HB.out))); (case side2 => exact HC346_2.out); (case side3 => exact cc_ ((Kd.C_below HR347_2.out HB.out))); (case side4 => exact HC347_2.out); rintro e w' ⟨rfl, ⟨nd, rfl⟩⟩; (try first | exact ⟨rfl, _, World.drewN_drewN _ _ _⟩ | exact ⟨rfl, _, Eq.trans (World.drewN_drewN _ _ _) (congrArg (World.drewN _) (Nat.add_assoc _ _ _))⟩)))
             repeat (go_quiet (first | (go_at_call 18; (with_reducible refine (cohousingref23_SameInts.calls k3 _ _ ((rd_T46 l0_1 x6_3).f2) _ _ ((rd_T46 l1_1 x6_3).f2) false _ ?side1 ?side2 ?side3 ?side4 A29.out).mono ?_); (case side1 => exact cc_ ((Kd.C_below HR346_2.out HB.out))); (case side2 => exact HC346_2.out); (case side3 => exact cc_ ((Kd.C_below HR347_2.out HB.out))); (case side4 => exact HC347_2.out); rintro e w' ⟨rfl, ⟨nd, rfl⟩⟩; (try first | exact ⟨rfl, _, World.drewN_drewN _ _ _⟩ | exact ⟨rfl, _, Eq.trans (World.drewN_drewN _ _ _) (congrArg (World.drewN _) (Nat.add_assoc _ _ _))⟩))); try go_wp2_with (first | (go_at_call 18; (with_reducible refine (cohousingref23_SameInts.calls k3 _ _ ((rd_T46 l0_1 x6_3).f2) _ _ ((rd_T46 l1_1 x6_3).f2) false _ ?side1 ?side2 ?side3 ?side4 A29.out).mono ?_); (case side1 => exact cc_ ((Kd.C_below HR346_2.out HB.out))); (case side2 => exact HC346_2.out); (case side3 => exact cc_ ((Kd.C_below HR347_2.out HB.out))); (case side4 => exact HC347_2.out); rintro e w' ⟨rfl, ⟨nd, rfl⟩⟩; (try first | exact ⟨rfl, _, World.drewN_drewN _ _ _⟩ | exact ⟨rfl, _, Eq.trans (World.drewN_drewN _ _ _) (congrArg (World.drewN _) (Nat.add_assoc _ _ _))⟩))))
             go_ret
             exact ⟨ew_, by repeat (first | (with_reducible first | exact HB.out | apply below_alloc | apply pw_below_drewN | apply below_drew1 | refine below_set ?_ GE342.out | refine below_set ?_ GE343.out) | exact HB.out)⟩
           ·rw [if_neg c28] at H
            exact absurd H (by simp)
          ·rw [if_neg c27] at H
           exact absurd H (by simp)
         ·rw [if_neg c26] at H
          have c26b0 : decide (x6_3 < (l0_1.length : Int)) = false := decide_eq_false c26
          clear c26
          obtain rfl := Option.some.inj H
          have hnb45 := NB342_343.out
          have hnc45 := NB343_342.out
          have hcz46_0 : wr.cell? ⟨gb342, 0, none⟩ = some (.slice A0_0 l0_0.length c0_0) := (blk_cell BK342.out 0).trans rfl
          have hcz46_1 : wr.cell? ⟨gb342, 1, none⟩ = some (.slice A0_1 l0_1.length c0_1) := (blk_cell BK342.out 1).trans rfl
          have hfz46_0 := blk_frozen BK342.out 0
          have hfz46_1 := blk_frozen BK342.out 1
          go_wp2
          repeat (go_quiet (fail); try go_wp2)
          go_ret
          exact ⟨ew_, by repeat (first | (with_reducible first | exact HB.out | apply below_alloc | apply pw_below_drewN | apply below_drew1 | refine below_set ?_ GE342.out | refine below_set ?_ GE343.out) | exact HB.out)⟩
end
end Go.Proofs.Ytocbiggglnpeoaa.P
end
section
namespace Go.Proofs.Ytocbiggglnpeoaa.P
open Go.RowKit Go.Proofs.YtocbiggglnpeoaaW.PrintWords Go.Proofs.YtocbiggglnpeoaaW.PrintLast Go.Proofs.YtocbiggglnpeoaaW.PrintMore Go.Proofs.YtocbiggglnpeoaaH
open Classical
def Ev {α : Type} (f : Nat → Option α) (r : α) : Prop := ∃ k0, ∀ k, k0 ≤ k → f k = some r
theorem Ev.step {α : Type} {f : Nat → Option α} {r : α} (h : Ev (fun k => f (k + 1)) r) : Ev f r := by
 obtain ⟨k0, hk⟩ := h
 refine ⟨k0 + 1, fun k h1 => ?_⟩
 obtain ⟨m, rfl⟩ : ∃ m, k = m + 1 := ⟨k - 1, by omega⟩
 exact hk m (by omega)
theorem Ev.pure {α : Type} (r : α) : Ev (fun _ => some r) r := ⟨0, fun _ _ => rfl⟩
theorem Ev.bnd {α β : Type} {f : Nat → Option β} {g : β → Nat → Option α} {b : β} {r : α} (hf : Ev f b) (hg : Ev (g b) r) : Ev (fun k => (f k).bind fun t => g t k) r := by
 obtain ⟨k0, h0⟩ := hf
 obtain ⟨k1, h1⟩ := hg
 refine ⟨max k0 k1, fun k hk => ?_⟩
 show (f k).bind _ = _
 rw [h0 k (by omega)]
 exact h1 k (by omega)
theorem Ev.congr {α : Type} {f g : Nat → Option α} {r : α} (h : ∀ k, f k = g k) (hg : Ev g r) : Ev f r := by
 obtain ⟨k0, hk⟩ := hg
 exact ⟨k0, fun k h1 => by rw [h k]; exact hk k h1⟩
theorem Ev.of_mono {α : Type} {f : Nat → Option α} {r : α} (k0 : Nat) (h0 : f k0 = some r) (h : ∀ k, LeO (f k) (f (k + 1))) : Ev f r := by
 refine ⟨k0, fun k hk => ?_⟩
 obtain ⟨d, rfl⟩ : ∃ d, k = k0 + d := ⟨k - k0, by omega⟩
 induction d with
 | zero => exact h0
 | succ d ih => exact h _ _ (ih (by omega))
theorem wrap_nat {i : Nat} (h : i ≤ 140737488355328) : wrap64 ((i : Int) + 1) = ((i + 1 : Nat) : Int) := by unfold wrap64; omega
abbrev FT := S84
abbrev PT := S46
abbrev MT := S51
abbrev GT := S49
abbrev fid (l : List FT) (i : Nat) : Int := (rd_T84 l (i : Int)).f0
abbrev pid (l : List PT) (i : Nat) : Int := (rd_T46 l (i : Int)).f0
abbrev pfl (l : List PT) (i : Nat) : Int := (rd_T46 l (i : Int)).f1
abbrev pwt (l : List PT) (i : Nat) : List Int := (rd_T46 l (i : Int)).f2
abbrev mv (l : List MT) (i : Nat) : MT := rd_T51 l (i : Int)
abbrev rg (l : List GT) (i : Nat) : GT := rd_T49 l (i : Int)
theorem fl_get (l : List FT) (j : Nat) (h : j < l.length) : rd_T84 l (j : Int) = l[j] := by simp [rd_T84, List.getD_eq_getElem?_getD, h]
theorem pa_get (l : List PT) (j : Nat) (h : j < l.length) : rd_T46 l (j : Int) = l[j] := by simp [rd_T46, List.getD_eq_getElem?_getD, h]
theorem mv_get (l : List MT) (j : Nat) (h : j < l.length) : mv l j = l[j] := by simp [mv, rd_T51, List.getD_eq_getElem?_getD, h]
theorem rd_get (l : List Int) (j : Nat) (h : j < l.length) : rd l (j : Int) = l[j] := by simp [rd, List.getD_eq_getElem?_getD, h]
theorem asc_adj (g : Nat → Int) (q : Int) (m : Nat) : (∀ n, n < m → (if n = 0 then q else g (n - 1)) < g n) ↔ (∀ n, n < m → q < g n) ∧ (∀ i j, i < j → j < m → g i < g j) := by
 constructor
 ·intro h
  have h2 : ∀ i d, i + d + 1 < m → g i < g (i + d + 1) := by
   intro i d
   induction d with
   | zero => intro hm; have := h (i + 1) hm; rwa [if_neg (by omega)] at this
   | succ d ih =>
    intro hm
    have h1 := ih (by omega)
    have h3 := h (i + (d + 1) + 1) hm
    rw [if_neg (by omega), show i + (d + 1) + 1 - 1 = i + d + 1 by omega] at h3
    omega
  have h1 : ∀ i j, i < j → j < m → g i < g j := fun i j hij hj => by
   have := h2 i (j - i - 1) (by omega)
   rwa [show i + (j - i - 1) + 1 = j by omega] at this
  refine ⟨fun n hn => ?_, h1⟩
  have h0 := h 0 (by omega)
  rw [if_pos rfl] at h0
  by_cases e : n = 0
  ·subst e; exact h0
  ·have := h1 0 n (by omega) hn; omega
 ·rintro ⟨h1, h2⟩ n hn
  by_cases e : n = 0
  ·rw [if_pos e]; exact h1 n hn
  ·rw [if_neg e]; exact h2 (n - 1) n (by omega) hn
theorem foldM_key {α : Type} (g : Int → α) (ks : Nat → Int) (k : Int) : ∀ n, foldM ks (fun j => g (ks j)) n k = if ∃ j, j < n ∧ ks j = k then some (g k) else none
 | 0 => by rw [if_neg (fun ⟨j, hj, _⟩ => absurd hj (Nat.not_lt_zero _))]; rfl
 | n + 1 => by
  rw [foldM_succ]
  unfold upd
  by_cases h : k = ks n
  ·rw [if_pos h, if_pos ⟨n, by omega, h.symm⟩, h]
  ·rw [if_neg h, foldM_key g ks k n]
   by_cases h2 : ∃ j, j < n ∧ ks j = k
   ·obtain ⟨j, hj, e⟩ := h2
    rw [if_pos ⟨j, hj, e⟩, if_pos ⟨j, by omega, e⟩]
   ·rw [if_neg h2, if_neg]
    rintro ⟨j, hj, e⟩
    rcases Nat.lt_succ_iff_lt_or_eq.1 hj with h' | h'
    ·exact h2 ⟨j, h', e⟩
    ·subst h'; exact h e.symm
theorem foldM_const {α : Type} (v : α) (ks : Nat → Int) (k : Int) (n : Nat) : foldM ks (fun _ => v) n k = if ∃ j, j < n ∧ ks j = k then some v else none := foldM_key (fun _ => v) ks k n
theorem foldM_inj {α : Type} (ks : Nat → Int) (vs : Nat → α) : ∀ n, (∀ i j, i < j → j < n → ks i ≠ ks j) → ∀ j, j < n → foldM ks vs n (ks j) = some (vs j)
 | 0 => fun _ j hj => absurd hj (Nat.not_lt_zero _)
 | n + 1 => fun h j hj => by
  rw [foldM_succ]
  unfold upd
  by_cases e : j = n
  ·subst e; rw [if_pos rfl]
  ·rw [if_neg (h j n (by omega) (by omega))]
   exact foldM_inj ks vs n (fun i j h1 h2 => h i j h1 (by omega)) j (by omega)
theorem foldM_has {α : Type} (ks : Nat → Int) (vs : Nat → α) (k : Int) (v : α) : ∀ n, foldM ks vs n k = some v → ∃ j, j < n ∧ ks j = k ∧ vs j = v
 | 0 => fun h => by cases h
 | n + 1 => fun h => by
  rw [foldM_succ] at h
  unfold upd at h
  by_cases e : k = ks n
  ·rw [if_pos e] at h
   exact ⟨n, by omega, e.symm, Option.some.inj h⟩
  ·rw [if_neg e] at h
   obtain ⟨j, hj, h1, h2⟩ := foldM_has ks vs k v n h
   exact ⟨j, by omega, h1, h2⟩
def HasF (fl : List FT) (x : Int) : Prop := ∃ j, j < fl.length ∧ fid fl j = x
structure FlatsV (fl : List FT) : Prop where
 asc : ∀ i j, i < j → j < fl.length → fid fl i < fid fl j
 rng : ∀ i, i < fl.length → 1 ≤ fid fl i ∧ fid fl i ≤ 64 ∧ 1 ≤ (rd_T84 fl (i : Int)).f1 ∧ (rd_T84 fl (i : Int)).f1 ≤ 10
theorem flatsOk_iff (fl : List FT) : flatsOk fl = true ↔ FlatsV fl := by
 have h := asc_adj (fid fl) 0 fl.length
 have e : ∀ n, (if n = 0 then (0 : Int) else fid fl (n - 1)) = lastF fl n := fun n => rfl
 simp only [e] at h
 unfold flatsOk flatAt
 simp only [List.all_eq_true, List.mem_range, decide_eq_true_iff]
 constructor
 ·intro hh
  obtain ⟨h1, h2⟩ := h.1 (fun n hn => (hh n hn).1)
  exact ⟨h2, fun i hi => ⟨by have := h1 i hi; omega, (hh i hi).2⟩⟩
 ·intro hv n hn
  exact ⟨h.2 ⟨fun n hn => by have := (hv.rng n hn).1; omega, hv.asc⟩ n hn, (hv.rng n hn).2⟩
theorem asc_count (g : Nat → Int) (m : Nat) (h1 : ∀ i, i < m → 1 ≤ g i) (h2 : ∀ i j, i < j → j < m → g i < g j) : ∀ i, i < m → (i : Int) + 1 ≤ g i := by
 intro i
 induction i with
 | zero => intro h; have := h1 0 h; omega
 | succ i ih => intro h; have := ih (by omega); have := h2 i (i + 1) (by omega) h; omega
theorem FlatsV.len {fl : List FT} (h : FlatsV fl) : fl.length ≤ 64 := by
 rcases Nat.eq_zero_or_pos fl.length with e | e
 ·omega
 ·have h1 := asc_count (fid fl) fl.length (fun i hi => (h.rng i hi).1) h.asc (fl.length - 1) (by omega)
  have h2 := (h.rng (fl.length - 1) (by omega)).2.1
  omega
structure Market (fl : List FT) (pa : List PT) : Prop where
 flv : FlatsV fl
 asc : ∀ i j, i < j → j < pa.length → pid pa i < pid pa j
 rng : ∀ i, i < pa.length → 1 ≤ pid pa i ∧ pid pa i ≤ 64
 own : ∀ i, i < pa.length → pfl pa i ≠ 0 → HasF fl (pfl pa i)
 dis : ∀ i j, i < j → j < pa.length → pfl pa j ≠ 0 → pfl pa i ≠ pfl pa j
 wnt : ∀ i, i < pa.length → ∀ k, k < (pwt pa i).length → HasF fl (rd (pwt pa i) (k : Int))
 wdis : ∀ i, i < pa.length → ∀ j k, j < k → k < (pwt pa i).length → rd (pwt pa i) (j : Int) ≠ rd (pwt pa i) (k : Int)
theorem rooms_iff {fl : List FT} (h : FlatsV fl) (x : Int) : (roomsM fl fl.length x).getD 0 ≠ 0 ↔ HasF fl x := by
 unfold roomsM
 constructor
 ·intro hh
  cases hx : foldM (fun j : Nat => (rd_T84 fl (j : Int)).f0) (fun j : Nat => (rd_T84 fl (j : Int)).f1) fl.length x with
  | none => rw [hx] at hh; exact absurd rfl hh
  | some v =>
   obtain ⟨j, hj, e, _⟩ := foldM_has _ _ _ _ _ hx
   exact ⟨j, hj, e⟩
 ·rintro ⟨j, hj, rfl⟩
  rw [foldM_inj (fun j : Nat => (rd_T84 fl (j : Int)).f0) _ fl.length (fun i j h1 h2 => Int.ne_of_lt (h.asc i j h1 h2)) j hj]
  have := (h.rng j hj).2.2.1
  show (rd_T84 fl (j : Int)).f1 ≠ 0
  omega
theorem getD_ite {c : Prop} [Decidable c] : ((if c then some true else none : Option Bool).getD false) = decide c := by
 by_cases h : c <;> simp [h]
theorem marketOk_iff (fl : List FT) (pa : List PT) : marketOk fl pa = true ↔ Market fl pa := by
 have ha := asc_adj (pid pa) 0 pa.length
 have e : ∀ n, (if n = 0 then (0 : Int) else pid pa (n - 1)) = lastP pa n := fun n => rfl
 simp only [e] at ha
 have hw : FlatsV fl → ∀ l : List Int, (wantsOk (roomsM fl fl.length) l = true ↔ (∀ k, k < l.length → HasF fl (rd l (k : Int))) ∧ (∀ j k, j < k → k < l.length → rd l (j : Int) ≠ rd l (k : Int))) := by
  intro hf l
  unfold wantsOk wantAt seenM
  simp only [List.all_eq_true, List.mem_range, Bool.and_eq_true, decide_eq_true_iff, Bool.not_eq_true', foldM_const, getD_ite, decide_eq_false_iff_not, rooms_iff hf]
  constructor
  ·intro hh
   exact ⟨fun k hk => (hh k hk).1, fun j k hj hk e => (hh k hk).2 ⟨j, hj, e⟩⟩
  ·rintro ⟨h1, h2⟩ k hk
   exact ⟨h1 k hk, fun ⟨j, hj, e⟩ => h2 j k hj hk e⟩
 have hp : FlatsV fl → ∀ n, (partyAt fl pa n = true ↔ (lastP pa n < pid pa n ∧ pid pa n ≤ 64) ∧ (pfl pa n = 0 ∨ HasF fl (pfl pa n) ∧ ∀ j, j < n → pfl pa j ≠ pfl pa n) ∧ (∀ k, k < (pwt pa n).length → HasF fl (rd (pwt pa n) (k : Int))) ∧ (∀ j k, j < k → k < (pwt pa n).length → rd (pwt pa n) (j : Int) ≠ rd (pwt pa n) (k : Int))) := by
  intro hf n
  unfold partyAt partyOk takenM
  simp only [Bool.and_eq_true, Bool.or_eq_true, decide_eq_true_iff, Bool.not_eq_true', foldM_const, getD_ite, decide_eq_false_iff_not, rooms_iff hf, hw hf, and_assoc]
  constructor
  ·rintro ⟨h1, h2, h3, h4, h5⟩
   refine ⟨h1, h2, ?_, h4, h5⟩
   rcases h3 with h3 | ⟨h3, h6⟩
   ·exact .inl h3
   ·exact .inr ⟨h3, fun j hj e => h6 ⟨j, hj, e⟩⟩
  ·rintro ⟨h1, h2, h3, h4, h5⟩
   refine ⟨h1, h2, ?_, h4, h5⟩
   rcases h3 with h3 | ⟨h3, h6⟩
   ·exact .inl h3
   ·exact .inr ⟨h3, fun ⟨j, hj, e⟩ => h6 j hj e⟩
 unfold marketOk
 rw [Bool.and_eq_true, flatsOk_iff, List.all_eq_true]
 simp only [List.mem_range]
 constructor
 ·rintro ⟨hf, hh⟩
  have hh' := fun n hn => (hp hf n).1 (hh n hn)
  obtain ⟨h1, h2⟩ := ha.1 (fun n hn => (hh' n hn).1.1)
  refine ⟨hf, h2, fun i hi => ⟨by have := h1 i hi; omega, (hh' i hi).1.2⟩, fun i hi h0 => ?_, fun i j hij hj h0 => ?_, fun i hi => (hh' i hi).2.2.1, fun i hi => (hh' i hi).2.2.2⟩
  ·rcases (hh' i hi).2.1 with h | h
   ·exact absurd h h0
   ·exact h.1
  ·rcases (hh' j hj).2.1 with h | h
   ·exact absurd h h0
   ·exact h.2 i hij
 ·intro hv
  refine ⟨hv.flv, fun n hn => (hp hv.flv n).2 ⟨⟨ha.2 ⟨fun n hn => by have := (hv.rng n hn).1; omega, hv.asc⟩ n hn, (hv.rng n hn).2⟩, ?_, hv.wnt n hn, hv.wdis n hn⟩⟩
  by_cases h0 : pfl pa n = 0
  ·exact .inl h0
  ·exact .inr ⟨hv.own n hn h0, fun j hj => hv.dis j n hj hn h0⟩
theorem marketOk_eq (fl : List FT) (pa : List PT) : marketOk fl pa = decide (Market fl pa) := by
 by_cases h : Market fl pa
 ·rw [decide_eq_true h]; exact (marketOk_iff fl pa).2 h
 ·rw [decide_eq_false h]
  cases hx : marketOk fl pa with
  | false => rfl
  | true => exact absurd ((marketOk_iff fl pa).1 hx) h
theorem Market.len {fl : List FT} {pa : List PT} (h : Market fl pa) : pa.length ≤ 64 := by
 rcases Nat.eq_zero_or_pos pa.length with e | e
 ·omega
 ·have h1 := asc_count (pid pa) pa.length (fun i hi => (h.rng i hi).1) h.asc (pa.length - 1) (by omega)
  have h2 := (h.rng (pa.length - 1) (by omega)).2
  omega
theorem Market.inj {fl : List FT} {pa : List PT} (h : Market fl pa) {i j : Nat} (hi : i < pa.length) (hj : j < pa.length) (e : pid pa i = pid pa j) : i = j := by
 rcases Nat.lt_trichotomy i j with h1 | h1 | h1
 ·have := h.asc i j h1 hj; omega
 ·exact h1
 ·have := h.asc j i h1 hi; omega
def Fits (fl : List FT) (pa : List PT) (x : MT) : Prop := ∃ i, i < pa.length ∧ pid pa i = x.f0 ∧ pfl pa i = x.f1 ∧ HasF fl x.f2
def Free (pa : List PT) (x : Int) : Prop := ∀ i, i < pa.length → pfl pa i ≠ x
theorem known_eq (fl : List FT) (x : Int) : (knownM fl fl.length x).getD false = decide (HasF fl x) := by
 unfold knownM
 rw [foldM_const, getD_ite]
 exact decide_eq_decide.2 Iff.rfl
section
variable {fl : List FT} {pa : List PT} (hM : Market fl pa)
include hM
theorem homes_at {i : Nat} (hi : i < pa.length) : homesM pa pa.length (pid pa i) = some (pfl pa i) :=
 foldM_inj (fun j : Nat => (rd_T46 pa (j : Int)).f0) (fun j : Nat => (rd_T46 pa (j : Int)).f1) pa.length (fun i j h1 h2 => Int.ne_of_lt (hM.asc i j h1 h2)) i hi
theorem fits_iff (x : MT) : fitsB (homesM pa pa.length) (knownM fl fl.length) x = true ↔ Fits fl pa x := by
 unfold fitsB
 rw [Bool.and_eq_true, Bool.and_eq_true, known_eq, decide_eq_true_iff]
 constructor
 ·rintro ⟨⟨h1, h2⟩, h3⟩
  cases hx : homesM pa pa.length x.f0 with
  | none => rw [hx] at h1; cases h1
  | some v =>
   obtain ⟨j, hj, e1, e2⟩ := foldM_has _ _ _ _ _ hx
   rw [hx] at h2
   exact ⟨j, hj, e1, by rw [show pfl pa j = v from e2]; exact eq_of_beq h2, h3⟩
 ·rintro ⟨i, hi, e1, e2, h3⟩
  have := homes_at hM hi
  rw [e1, e2] at this
  rw [this]
  exact ⟨⟨rfl, beq_self_eq_true _⟩, h3⟩
end
end Go.Proofs.Ytocbiggglnpeoaa.P
end
section
namespace Go.Proofs.Ytocbiggglnpeoaa.P
open Go.RowKit Go.Proofs.YtocbiggglnpeoaaW.PrintWords Go.Proofs.YtocbiggglnpeoaaW.PrintLast Go.Proofs.YtocbiggglnpeoaaW.PrintMore Go.Proofs.YtocbiggglnpeoaaH
open Classical
theorem loopUp (n : Nat) (P : Nat → Prop) (h0 : P n) (hs : ∀ i, i < n → P (i + 1) → P i) : ∀ i, i ≤ n → P i := by
 have key : ∀ d i, i + d = n → P i := by
  intro d
  induction d with
  | zero => intro i hi; rw [show i = n by omega]; exact h0
  | succ d ih => intro i hi; exact hs i (by omega) (ih (i + 1) (by omega))
 exact fun i hi => key (n - i) i (by omega)
def firstI (p : Nat → Bool) : Nat → Nat → Int
 | 0, _ => -1
 | d + 1, i => if p i = true then (i : Int) else firstI p d (i + 1)
theorem firstI_is (p : Nat → Bool) : ∀ d i, (firstI p d i = -1 ∧ ∀ j, i ≤ j → j < i + d → p j = false) ∨ ∃ j, i ≤ j ∧ j < i + d ∧ p j = true ∧ (∀ m, i ≤ m → m < j → p m = false) ∧ firstI p d i = j := by
 intro d
 induction d with
 | zero => intro i; exact .inl ⟨rfl, fun j h1 h2 => absurd h2 (by omega)⟩
 | succ d ih =>
  intro i
  unfold firstI
  by_cases h : p i = true
  ·rw [if_pos h]
   exact .inr ⟨i, Nat.le_refl _, by omega, h, fun m h1 h2 => absurd h2 (by omega), rfl⟩
  ·rw [if_neg h]
   have hf : p i = false := by cases hx : p i with | false => rfl | true => exact absurd hx h
   rcases ih (i + 1) with ⟨e, ha⟩ | ⟨j, h1, h2, h3, h4, e⟩
   ·refine .inl ⟨e, fun j h1 h2 => ?_⟩
    by_cases hj : j = i
    ·rw [hj]; exact hf
    ·exact ha j (by omega) (by omega)
   ·refine .inr ⟨j, by omega, by omega, h3, fun m hm1 hm2 => ?_, e⟩
    by_cases hj : m = i
    ·rw [hj]; exact hf
    ·exact h4 m (by omega) hm2
def inR (l : List Int) (x : Int) : Int := firstI (fun j => rd l (j : Int) == x) l.length 0
theorem inR_is (l : List Int) (x : Int) : (inR l x = -1 ∧ ∀ j, j < l.length → rd l (j : Int) ≠ x) ∨ ∃ j : Nat, j < l.length ∧ rd l (j : Int) = x ∧ (∀ m : Nat, m < j → rd l (m : Int) ≠ x) ∧ inR l x = j := by
 rcases firstI_is (fun j => rd l (j : Int) == x) l.length 0 with ⟨e, h⟩ | ⟨j, _, h2, h3, h4, e⟩
 ·exact .inl ⟨e, fun j hj => beq_eq_false_iff_ne.1 (h j (by omega) (by omega))⟩
 ·exact .inr ⟨j, by omega, eq_of_beq h3, fun m hm => beq_eq_false_iff_ne.1 (h4 m (by omega) hm), e⟩
theorem inR_pos (l : List Int) (x : Int) : inR l x ≥ 0 ↔ x ∈ l := by
 rcases inR_is l x with ⟨e, h⟩ | ⟨j, h1, h2, _, e⟩
 ·rw [e]
  constructor
  ·intro h; omega
  ·intro hm
   obtain ⟨j, hj, e2⟩ := List.mem_iff_getElem.1 hm
   exact absurd ((rd_get l j hj).trans e2) (h j hj)
 ·rw [e]
  exact ⟨fun _ => by rw [← h2, rd_get l j h1]; exact List.getElem_mem h1, fun _ => by omega⟩
theorem In_f (l : List Int) (x : Int) (hB : l.length ≤ 140737488355328) : Ev (fun k => cohousingref23_In.f k l x) (inR l x) := by
 have key : ∀ d i, i + d = l.length → Ev (fun k => cohousingref23_In.l0 k l x (i : Int)) (firstI (fun j => rd l (j : Int) == x) d i) := by
  intro d
  induction d with
  | zero =>
   intro i hi
   have h1 : ¬ ((i : Int) < (l.length : Int)) := by omega
   refine Ev.step ?_
   simp only [cohousingref23_In.l0, h1, if_false]
   exact Ev.pure _
  | succ d ih =>
   intro i hi
   have h1 : (i : Int) < (l.length : Int) := by omega
   have h2 : (0 : Int) ≤ (i : Int) := by omega
   refine Ev.step ?_
   unfold firstI
   by_cases h : rd l (i : Int) = x
   ·simp only [cohousingref23_In.l0, h1, h2, h, if_true, beq_self_eq_true]
    exact Ev.pure _
   ·have hb : (rd l (i : Int) == x) = false := beq_eq_false_iff_ne.2 h
    simp only [cohousingref23_In.l0, h1, h2, h, if_true, if_false, hb, Bool.false_eq_true, wrap_nat (show i ≤ 140737488355328 by omega)]
    exact ih (i + 1) (by omega)
 exact key l.length 0 (by omega)
theorem Has_f (l : List FT) (x : Int) (hB : l.length ≤ 140737488355328) : Ev (fun k => cohousingref23_Has.f k l x) (decide (HasF l x)) := by
 have key : ∀ i, i ≤ l.length → ((∀ j, j < i → fid l j ≠ x) → Ev (fun k => cohousingref23_Has.l0 k l x (i : Int)) (decide (HasF l x))) := by
  refine loopUp l.length _ ?_ ?_
  ·intro hn
   have h1 : ¬ (((l.length : Nat) : Int) < (l.length : Int)) := by omega
   refine Ev.step ?_
   simp only [cohousingref23_Has.l0, h1, if_false]
   rw [decide_eq_false (fun ⟨j, hj, e⟩ => hn j hj e)]
   exact Ev.pure _
  ·intro i hi ih hn
   have h1 : (i : Int) < (l.length : Int) := by omega
   have h2 : (0 : Int) ≤ (i : Int) := by omega
   refine Ev.step ?_
   by_cases h : (rd_T84 l (i : Int)).f0 = x
   ·simp only [cohousingref23_Has.l0, h1, h2, h, if_true]
    rw [decide_eq_true ⟨i, hi, h⟩]
    exact Ev.pure _
   ·simp only [cohousingref23_Has.l0, h1, h2, h, if_true, if_false, wrap_nat (show i ≤ 140737488355328 by omega)]
    refine ih (fun j hj => ?_)
    by_cases e : j = i
    ·rw [e]; exact h
    ·exact hn j (by omega)
 exact key 0 (by omega) (fun j hj => absurd hj (Nat.not_lt_zero _))
theorem wrap_pred {i : Nat} (h0 : 0 < i) (h : i ≤ 140737488355328) : wrap64 ((i : Int) - 1) = ((i - 1 : Nat) : Int) := by unfold wrap64; omega
theorem Flats_f (l : List FT) : Ev (fun k => cohousingref23_Flats.f k l) (decide (FlatsV l)) := by
 unfold cohousingref23_Flats.f
 by_cases hl : (l.length : Int) > 64
 ·simp only [hl, if_true]
  rw [decide_eq_false (fun h => by have := h.len; omega)]
  exact Ev.pure _
 simp only [hl, if_false]
 have hB : l.length ≤ 64 := by omega
 have key : ∀ i, i ≤ l.length → ((∀ j, j < i → flatAt l j = true) → Ev (fun k => cohousingref23_Flats.l0 k l (i : Int)) (decide (FlatsV l))) := by
  refine loopUp l.length _ ?_ ?_
  ·intro hn
   have h1 : ¬ (((l.length : Nat) : Int) < (l.length : Int)) := by omega
   refine Ev.step ?_
   simp only [cohousingref23_Flats.l0, h1, if_false]
   rw [decide_eq_true ((flatsOk_iff l).1 (flatsOk_true hn))]
   exact Ev.pure _
  ·intro i hi ih hn
   have h1 : (i : Int) < (l.length : Int) := by omega
   have h2 : (0 : Int) ≤ (i : Int) := by omega
   have bad : flatAt l i = false → decide (FlatsV l) = false := fun h => decide_eq_false (fun hv => by
    have := (flatsOk_iff l).2 hv
    rw [flatsOk_false hi h] at this
    cases this)
   have fa : ∀ P : Prop, (P → ¬ (lastF l i < (rd_T84 l (i : Int)).f0 ∧ (rd_T84 l (i : Int)).f0 ≤ 64 ∧ 1 ≤ (rd_T84 l (i : Int)).f1 ∧ (rd_T84 l (i : Int)).f1 ≤ 10)) → P → decide (FlatsV l) = false := fun P h hP => bad (decide_eq_false (h hP))
   have lo : 0 ≤ lastF l i := by
    unfold lastF
    by_cases e : i = 0
    ·rw [if_pos e]; exact Int.le_refl _
    ·rw [if_neg e]
     have := of_decide_eq_true (hn (i - 1) (by omega))
     have h3 : 0 ≤ lastF l (i - 1) ∨ True := .inr trivial
     have : ∀ m, m < i → 0 < (rd_T84 l (m : Int)).f0 := by
      intro m
      induction m with
      | zero => intro hm; have := (of_decide_eq_true (hn 0 hm)).1; simpa [lastF] using this
      | succ m ihm => intro hm; have h4 := ihm (by omega); have h5 := (of_decide_eq_true (hn (m + 1) hm)).1; rw [lastF_succ] at h5; omega
     have := this (i - 1) (by omega)
     omega
   refine Ev.step ?_
   by_cases c1 : (rd_T84 l (i : Int)).f0 < 1
   ·simp only [cohousingref23_Flats.l0, h1, h2, c1, if_true]
    rw [fa _ (fun h => by omega) c1]
    exact Ev.pure _
   by_cases c2 : (rd_T84 l (i : Int)).f0 > 64
   ·simp only [cohousingref23_Flats.l0, h1, h2, c1, c2, if_true, if_false]
    rw [fa _ (fun h => by omega) c2]
    exact Ev.pure _
   have tail : lastF l i < (rd_T84 l (i : Int)).f0 → Ev (fun k => if ((rd_T84 l (i : Int)).f1) < 1 then (some false) else (if ((rd_T84 l (i : Int)).f1) > 10 then (some false) else (cohousingref23_Flats.l0 k l (wrap64 ((i : Int) + 1))))) (decide (FlatsV l)) := by
    intro hlast
    by_cases c3 : (rd_T84 l (i : Int)).f1 < 1
    ·simp only [c3, if_true]
     rw [fa _ (fun h => by omega) c3]
     exact Ev.pure _
    by_cases c4 : (rd_T84 l (i : Int)).f1 > 10
    ·simp only [c3, c4, if_true, if_false]
     rw [fa _ (fun h => by omega) c4]
     exact Ev.pure _
    simp only [c3, c4, if_false, wrap_nat (show i ≤ 140737488355328 by omega)]
    refine ih (fun j hj => ?_)
    by_cases e : j = i
    ·rw [e]; exact decide_eq_true ⟨hlast, by omega, by omega, by omega⟩
    ·exact hn j (by omega)
   by_cases c5 : 0 < i
   ·have h3 : (i : Int) > 0 := by omega
    have h4 : (0 : Int) ≤ ((i - 1 : Nat) : Int) := by omega
    have h5 : ((i - 1 : Nat) : Int) < (l.length : Int) := by omega
    have hla : lastF l i = (rd_T84 l ((i - 1 : Nat) : Int)).f0 := by unfold lastF; rw [if_neg (by omega)]
    by_cases c6 : (rd_T84 l (i : Int)).f0 ≤ (rd_T84 l ((i - 1 : Nat) : Int)).f0
    ·simp only [cohousingref23_Flats.l0, h1, h2, c1, c2, h3, wrap_pred c5 (show i ≤ 140737488355328 by omega), h4, h5, c6, if_true, if_false]
     rw [fa _ (fun h => by omega) c6]
     exact Ev.pure _
    ·simp only [cohousingref23_Flats.l0, h1, h2, c1, c2, h3, wrap_pred c5 (show i ≤ 140737488355328 by omega), h4, h5, c6, if_true, if_false]
     exact tail (by omega)
   ·have h3 : ¬ ((i : Int) > 0) := by omega
    simp only [cohousingref23_Flats.l0, h1, h2, c1, c2, h3, if_true, if_false]
    exact tail (by unfold lastF; rw [if_pos (by omega)]; omega)
 exact key 0 (by omega) (fun j hj => absurd hj (Nat.not_lt_zero _))
def PartyV (fl : List FT) (pa : List PT) (n : Nat) : Prop :=
 (1 ≤ pid pa n ∧ pid pa n ≤ 64 ∧ (0 < n → pid pa (n - 1) < pid pa n)) ∧ (pfl pa n ≠ 0 → HasF fl (pfl pa n) ∧ ∀ j, j < n → pfl pa j ≠ pfl pa n) ∧ (∀ k, k < (pwt pa n).length → HasF fl (rd (pwt pa n) (k : Int))) ∧ (∀ j k, j < k → k < (pwt pa n).length → rd (pwt pa n) (j : Int) ≠ rd (pwt pa n) (k : Int))
theorem market_party {fl : List FT} {pa : List PT} (hf : FlatsV fl) (h : ∀ n, n < pa.length → PartyV fl pa n) : Market fl pa := by
 have ha := asc_adj (pid pa) 0 pa.length
 obtain ⟨h1, h2⟩ := ha.1 (fun n hn => by
  have := (h n hn).1
  by_cases e : n = 0
  ·rw [if_pos e]; omega
  ·rw [if_neg e]; exact this.2.2 (by omega))
 exact ⟨hf, h2, fun i hi => ⟨(h i hi).1.1, (h i hi).1.2.1⟩, fun i hi h0 => ((h i hi).2.1 h0).1, fun i j hij hj h0 => ((h j hj).2.1 h0).2 i hij, fun i hi => (h i hi).2.2.1, fun i hi => (h i hi).2.2.2⟩
theorem party_market {fl : List FT} {pa : List PT} (h : Market fl pa) {n : Nat} (hn : n < pa.length) : PartyV fl pa n :=
 ⟨⟨(h.rng n hn).1, (h.rng n hn).2, fun h0 => h.asc (n - 1) n (by omega) hn⟩, fun h0 => ⟨h.own n hn h0, fun j hj => h.dis j n hj hn h0⟩, h.wnt n hn, h.wdis n hn⟩
def WB (pa : List PT) : Prop := ∀ i, i < pa.length → (pwt pa i).length ≤ 140737488355328
theorem Valid_f (fl : List FT) (pa : List PT) (hF : fl.length ≤ 140737488355328) (hW : WB pa) : Ev (fun k => cohousingref23_Valid.f k fl pa) (decide (Market fl pa)) := by
 unfold cohousingref23_Valid.f
 refine Ev.bnd (Flats_f fl) ?_
 have out : ¬ Market fl pa → Ev (fun k => cohousingref23_Valid.j0 k true fl pa) (decide (Market fl pa)) := fun h => by
  rw [decide_eq_false h]
  refine Ev.step ?_
  simp only [cohousingref23_Valid.j0, if_true]
  exact Ev.pure _
 by_cases hf : FlatsV fl
 ·simp only [decide_eq_true hf, if_true]
  by_cases hl : (pa.length : Int) > 64
  ·rw [decide_eq_true hl]
   exact out (fun h => by have := h.len; omega)
  ·rw [decide_eq_false hl]
   have hB : pa.length ≤ 64 := by omega
   refine Ev.step ?_
   simp only [cohousingref23_Valid.j0, Bool.false_eq_true, if_false]
   have key : ∀ i, i ≤ pa.length → ((∀ j, j < i → PartyV fl pa j) → Ev (fun k => cohousingref23_Valid.l0 k (i : Int) fl pa) (decide (Market fl pa))) := by
    refine loopUp pa.length _ ?_ ?_
    ·intro hn
     have h1 : ¬ (((pa.length : Nat) : Int) < (pa.length : Int)) := by omega
     refine Ev.step ?_
     simp only [cohousingref23_Valid.l0, h1, if_false]
     rw [decide_eq_true (market_party hf hn)]
     exact Ev.pure _
    ·intro i hi ih hn
     have h1 : (i : Int) < (pa.length : Int) := by omega
     have h2 : (0 : Int) ≤ (i : Int) := by omega
     have bad : ¬ PartyV fl pa i → decide (Market fl pa) = false := fun h => decide_eq_false (fun hm => h (party_market hm hi))
     have hwi := hW i hi
     have l2 : (1 ≤ pid pa i ∧ pid pa i ≤ 64 ∧ (0 < i → pid pa (i - 1) < pid pa i)) → (pfl pa i ≠ 0 → HasF fl (pfl pa i) ∧ ∀ j, j < i → pfl pa j ≠ pfl pa i) →
       ∀ m, m ≤ (pwt pa i).length → ((∀ k, k < m → HasF fl (rd (pwt pa i) (k : Int)) ∧ ∀ j, j < k → rd (pwt pa i) (j : Int) ≠ rd (pwt pa i) (k : Int)) → Ev (fun k => cohousingref23_Valid.l2 k (i : Int) (m : Int) fl pa (pid pa i) (pfl pa i) (pwt pa i)) (decide (Market fl pa))) := by
      intro g1 g2
      refine loopUp (pwt pa i).length _ ?_ ?_
      ·intro hk
       have c1 : ¬ ((((pwt pa i).length : Nat) : Int) < ((pwt pa i).length : Int)) := by omega
       refine Ev.step ?_
       simp only [cohousingref23_Valid.l2, c1, if_false, wrap_nat (show i ≤ 140737488355328 by omega)]
       refine ih (fun j hj => ?_)
       by_cases e : j = i
       ·rw [e]; exact ⟨g1, g2, fun k hk' => (hk k hk').1, fun a b hab hb => (hk b hb).2 a hab⟩
       ·exact hn j (by omega)
      ·intro m hm ihm hk
       have c1 : (m : Int) < ((pwt pa i).length : Int) := by omega
       have c2 : (0 : Int) ≤ (m : Int) := by omega
       refine Ev.step ?_
       simp only [cohousingref23_Valid.l2, c1, c2, if_true]
       refine Ev.bnd (Has_f fl _ hF) ?_
       by_cases c3 : HasF fl (rd (pwt pa i) (m : Int))
       ·simp only [decide_eq_true c3, if_true]
        refine Ev.bnd (In_f (pwt pa i) _ hwi) ?_
        rcases inR_is (pwt pa i) (rd (pwt pa i) (m : Int)) with ⟨e, hno⟩ | ⟨j, hj, e1, e2, e3⟩
        ·exact absurd rfl (hno m hm)
        ·rw [e3]
         have hjm : j ≤ m := by
          rcases Nat.lt_or_ge m j with h | h
          ·exact absurd rfl (e2 m h)
          ·exact h
         by_cases c4 : j = m
         ·subst c4
          simp only [if_true, wrap_nat (show j ≤ 140737488355328 by omega)]
          refine ihm (fun k hk' => ?_)
          by_cases e : k = j
          ·subst e; exact ⟨c3, e2⟩
          ·exact hk k (by omega)
         ·have c5 : ¬ ((j : Int) = (m : Int)) := by omega
          simp only [c5, if_false]
          rw [bad (fun h => h.2.2.2 j m (by omega) hm e1)]
          exact Ev.pure _
       ·simp only [decide_eq_false c3, Bool.false_eq_true, if_false]
        rw [bad (fun h => c3 (h.2.2.1 m hm))]
        exact Ev.pure _
     have l1 : (1 ≤ pid pa i ∧ pid pa i ≤ 64 ∧ (0 < i → pid pa (i - 1) < pid pa i)) → (pfl pa i ≠ 0 → HasF fl (pfl pa i)) →
       ∀ m, m ≤ i → ((pfl pa i ≠ 0 → ∀ j, j < m → pfl pa j ≠ pfl pa i) → Ev (fun k => cohousingref23_Valid.l1 k (i : Int) (m : Int) fl pa (pid pa i) (pfl pa i) (pwt pa i)) (decide (Market fl pa))) := by
      intro g1 g2
      refine loopUp i _ ?_ ?_
      ·intro hk
       have c1 : ¬ ((i : Int) < (i : Int)) := by omega
       refine Ev.step ?_
       simp only [cohousingref23_Valid.l1, c1, if_false]
       exact l2 g1 (fun h0 => ⟨g2 h0, hk h0⟩) 0 (by omega) (fun k hk => absurd hk (Nat.not_lt_zero _))
      ·intro m hm ihm hk
       have c1 : (m : Int) < (i : Int) := by omega
       have c2 : (0 : Int) ≤ (m : Int) := by omega
       have c3 : (m : Int) < (pa.length : Int) := by omega
       refine Ev.step ?_
       by_cases c4 : pfl pa i = 0
       ·have c4' : (rd_T46 pa (i : Int)).f1 = 0 := c4
        simp only [cohousingref23_Valid.l1, c1, c4', if_true, wrap_nat (show m ≤ 140737488355328 by omega)]
        rw [← c4']
        exact ihm (fun h0 => absurd c4 h0)
       ·have c4' : ¬ ((rd_T46 pa (i : Int)).f1 = 0) := c4
        by_cases c5 : (rd_T46 pa (m : Int)).f1 = (rd_T46 pa (i : Int)).f1
        ·simp only [cohousingref23_Valid.l1, c1, c2, c3, c4', c5, if_true, if_false]
         rw [bad (fun h => (h.2.1 c4).2 m hm c5)]
         exact Ev.pure _
        ·simp only [cohousingref23_Valid.l1, c1, c2, c3, c4', c5, if_true, if_false, wrap_nat (show m ≤ 140737488355328 by omega)]
         refine ihm (fun h0 j hj => ?_)
         by_cases e : j = m
         ·rw [e]; exact c5
         ·exact hk h0 j (by omega)
     have j2t : ¬ (1 ≤ pid pa i ∧ pid pa i ≤ 64 ∧ (0 < i → pid pa (i - 1) < pid pa i)) → Ev (fun k => cohousingref23_Valid.j2 k (i : Int) true fl pa (pid pa i) (pfl pa i) (pwt pa i)) (decide (Market fl pa)) := by
      intro g
      refine Ev.step ?_
      simp only [cohousingref23_Valid.j2, if_true]
      rw [bad (fun h => g h.1)]
      exact Ev.pure _
     have j2f : (1 ≤ pid pa i ∧ pid pa i ≤ 64 ∧ (0 < i → pid pa (i - 1) < pid pa i)) → Ev (fun k => cohousingref23_Valid.j2 k (i : Int) false fl pa (pid pa i) (pfl pa i) (pwt pa i)) (decide (Market fl pa)) := by
      intro g
      refine Ev.step ?_
      simp only [cohousingref23_Valid.j2, Bool.false_eq_true, if_false]
      refine Ev.bnd (Has_f fl _ hF) ?_
      have j3f : (pfl pa i ≠ 0 → HasF fl (pfl pa i)) → Ev (fun k => cohousingref23_Valid.j3 k (i : Int) false fl pa (pid pa i) (pfl pa i) (pwt pa i)) (decide (Market fl pa)) := fun g2 => by
       refine Ev.step ?_
       simp only [cohousingref23_Valid.j3, Bool.false_eq_true, if_false]
       exact l1 g g2 0 (by omega) (fun _ j hj => absurd hj (Nat.not_lt_zero _))
      by_cases c4 : pfl pa i = 0
      ·have c4' : (rd_T46 pa (i : Int)).f1 = 0 := c4
       simp only [c4', if_true]
       have := j3f (fun h => absurd c4 h)
       simp only [pfl, c4'] at this
       exact this
      ·have c4' : ¬ ((rd_T46 pa (i : Int)).f1 = 0) := c4
       simp only [c4', if_false]
       by_cases c5 : HasF fl (pfl pa i)
       ·rw [decide_eq_true c5]
        exact j3f (fun _ => c5)
       ·rw [decide_eq_false c5]
        refine Ev.step ?_
        simp only [cohousingref23_Valid.j3, Bool.not_false, if_true]
        rw [bad (fun h => c5 (h.2.1 c4).1)]
        exact Ev.pure _
     refine Ev.step ?_
     by_cases c1 : (rd_T46 pa (i : Int)).f0 < 1
     ·simp only [cohousingref23_Valid.l0, h1, h2, c1, if_true]
      exact j2t (fun h => by have := h.1; simp only [pid] at this; omega)
     by_cases c2 : (rd_T46 pa (i : Int)).f0 > 64
     ·simp only [cohousingref23_Valid.l0, h1, h2, c1, c2, if_true, if_false]
      exact j2t (fun h => by have := h.2.1; simp only [pid] at this; omega)
     by_cases c5 : 0 < i
     ·have h3 : (i : Int) > 0 := by omega
      have h4 : (0 : Int) ≤ ((i - 1 : Nat) : Int) := by omega
      have h5 : ((i - 1 : Nat) : Int) < (pa.length : Int) := by omega
      simp only [cohousingref23_Valid.l0, h1, h2, c1, c2, h3, wrap_pred c5 (show i ≤ 140737488355328 by omega), h4, h5, if_true, if_false]
      by_cases c6 : (rd_T46 pa (i : Int)).f0 ≤ (rd_T46 pa ((i - 1 : Nat) : Int)).f0
      ·rw [decide_eq_true c6]
       exact j2t (fun h => by have := h.2.2 c5; simp only [pid] at this; omega)
      ·rw [decide_eq_false c6]
       exact j2f ⟨by simp only [pid]; omega, by simp only [pid]; omega, fun _ => by simp only [pid]; omega⟩
     ·have h3 : ¬ ((i : Int) > 0) := by omega
      simp only [cohousingref23_Valid.l0, h1, h2, c1, c2, h3, if_true, if_false]
      exact j2f ⟨by simp only [pid]; omega, by simp only [pid]; omega, fun h => absurd h c5⟩
   exact key 0 (by omega) (fun j hj => absurd hj (Nat.not_lt_zero _))
 ·simp only [decide_eq_false hf, Bool.false_eq_true, if_false]
  exact out (fun h => hf h.flv)
structure FewM (fl : List FT) (pa : List PT) : Prop where
 f : fl.length ≤ 20
 p : pa.length ≤ 20
 w : ∀ i, i < pa.length → (pwt pa i).length ≤ 30
theorem FewM_f (fl : List FT) (pa : List PT) : Ev (fun k => cohousingref23_Few.f k fl pa) (decide (FewM fl pa)) := by
 unfold cohousingref23_Few.f
 have out : ¬ FewM fl pa → Ev (fun k => cohousingref23_Few.j0 k true fl pa) (decide (FewM fl pa)) := fun h => by
  rw [decide_eq_false h]
  refine Ev.step ?_
  simp only [cohousingref23_Few.j0, if_true]
  exact Ev.pure _
 by_cases h1 : (fl.length : Int) > 20
 ·simp only [h1, if_true]
  exact out (fun h => by have := h.f; omega)
 simp only [h1, if_false]
 by_cases h2 : (pa.length : Int) > 20
 ·rw [decide_eq_true h2]
  exact out (fun h => by have := h.p; omega)
 rw [decide_eq_false h2]
 refine Ev.step ?_
 simp only [cohousingref23_Few.j0, Bool.false_eq_true, if_false]
 have key : ∀ i, i ≤ pa.length → ((∀ j, j < i → (pwt pa j).length ≤ 30) → Ev (fun k => cohousingref23_Few.l0 k (i : Int) fl pa) (decide (FewM fl pa))) := by
  refine loopUp pa.length _ ?_ ?_
  ·intro hn
   have c1 : ¬ (((pa.length : Nat) : Int) < (pa.length : Int)) := by omega
   refine Ev.step ?_
   simp only [cohousingref23_Few.l0, c1, if_false]
   rw [decide_eq_true ⟨by omega, by omega, hn⟩]
   exact Ev.pure _
  ·intro i hi ih hn
   have c1 : (i : Int) < (pa.length : Int) := by omega
   have c2 : (0 : Int) ≤ (i : Int) := by omega
   refine Ev.step ?_
   by_cases c3 : ((rd_T46 pa (i : Int)).f2.length : Int) > 30
   ·simp only [cohousingref23_Few.l0, c1, c2, c3, if_true]
    rw [decide_eq_false (fun h => by have := h.w i hi; simp only [pwt] at this; omega)]
    exact Ev.pure _
   ·simp only [cohousingref23_Few.l0, c1, c2, c3, if_true, if_false, wrap_nat (show i ≤ 140737488355328 by omega)]
    refine ih (fun j hj => ?_)
    by_cases e : j = i
    ·rw [e]; simp only [pwt]; omega
    ·exact hn j (by omega)
 exact key 0 (by omega) (fun j hj => absurd hj (Nat.not_lt_zero _))
theorem FewM.wb {fl : List FT} {pa : List PT} (h : FewM fl pa) : WB pa := fun i hi => by have := h.w i hi; omega
end Go.Proofs.Ytocbiggglnpeoaa.P
end
section
namespace Go.Proofs.Ytocbiggglnpeoaa.P
open Go.RowKit Go.Proofs.YtocbiggglnpeoaaW.PrintWords Go.Proofs.YtocbiggglnpeoaaW.PrintLast Go.Proofs.YtocbiggglnpeoaaW.PrintMore Go.Proofs.YtocbiggglnpeoaaH
open Classical
def partyR (pa : List PT) (x : Int) : Int := firstI (fun j => pid pa j == x) pa.length 0
def MoveR (fl : List FT) (pa : List PT) (x : MT) : Prop := ∃ j : Nat, partyR pa x.f0 = j ∧ j < pa.length ∧ pid pa j = x.f0 ∧ pfl pa j = x.f1 ∧ HasF fl x.f2
def ShapeR (pa : List PT) (r : GT) : Prop :=
 0 < r.f1.length ∧ (r.f0 = true → Free pa (mv r.f1 0).f2 ∧ ∀ i, 1 ≤ i → i < r.f1.length → (mv r.f1 i).f2 = (mv r.f1 (i - 1)).f1) ∧
 (r.f0 = false → ∀ i, i < r.f1.length → (mv r.f1 i).f1 ≠ 0 ∧ (mv r.f1 i).f2 = (mv r.f1 ((i + 1) % r.f1.length)).f1)
def allM (l : List GT) : List MT := l.flatMap (fun r => r.f1)
structure RingsR (fl : List FT) (pa : List PT) (l : List GT) : Prop where
 len : l.length ≤ 64
 fit : ∀ n, n < l.length → ∀ k, k < (rg l n).f1.length → MoveR fl pa (mv (rg l n).f1 k)
 homes : ((allM l).map (fun x => x.f0)).Nodup
 tos : ((allM l).map (fun x => x.f2)).Nodup
 shape : ∀ n, n < l.length → ShapeR pa (rg l n)
end Go.Proofs.Ytocbiggglnpeoaa.P
end
section
namespace Go.Proofs.Ytocbiggglnpeoaa.P
open Go.RowKit Go.Proofs.YtocbiggglnpeoaaW.PrintWords Go.Proofs.YtocbiggglnpeoaaW.PrintLast Go.Proofs.YtocbiggglnpeoaaW.PrintMore Go.Proofs.YtocbiggglnpeoaaH
open Classical
theorem mv_mem {ms : List MT} {k : Nat} (h : k < ms.length) : mv ms k ∈ ms := by rw [mv_get ms k h]; exact List.getElem_mem h
section
variable {fl : List FT} {pa : List PT} {l : List GT}
end
theorem few_M {fl : List FT} {pa : List PT} (h : FewM fl pa) : fewM fl pa = true := by
 unfold fewM
 rw [Bool.and_eq_true, decide_eq_true_iff, List.all_eq_true]
 refine ⟨⟨by have := h.f; omega, by have := h.p; omega⟩, fun p hp => ?_⟩
 obtain ⟨i, hi, e⟩ := List.mem_iff_getElem.1 hp
 have := h.w i hi
 rw [show pwt pa i = p.f2 by rw [pwt, pa_get pa i hi, e]] at this
 exact decide_eq_true (by omega)
theorem SameInts_f (a b : List Int) (hB : a.length ≤ 140737488355328) : Ev (fun k => cohousingref23_SameInts.f k a b) (decide (a = b)) := by
 unfold cohousingref23_SameInts.f
 by_cases hl : (a.length : Int) = (b.length : Int)
 ·simp only [hl, if_true]
  have hl' : a.length = b.length := by omega
  have key : ∀ i, i ≤ a.length → ((∀ j : Nat, j < i → rd a (j : Int) = rd b (j : Int)) → Ev (fun k => cohousingref23_SameInts.l0 k a b (i : Int)) (decide (a = b))) := by
   refine loopUp a.length _ ?_ ?_
   ·intro hn
    have h1 : ¬ (((a.length : Nat) : Int) < (a.length : Int)) := by omega
    refine Ev.step ?_
    simp only [cohousingref23_SameInts.l0, h1, if_false]
    rw [decide_eq_true (List.ext_getElem hl' (fun j h1 h2 => by rw [← rd_get a j h1, ← rd_get b j h2]; exact hn j h1))]
    exact Ev.pure _
   ·intro i hi ih hn
    have h1 : (i : Int) < (a.length : Int) := by omega
    have h2 : (0 : Int) ≤ (i : Int) := by omega
    have h3 : (i : Int) < (b.length : Int) := by omega
    refine Ev.step ?_
    by_cases h : rd a (i : Int) = rd b (i : Int)
    ·simp only [cohousingref23_SameInts.l0, h1, h2, h3, h, if_true, wrap_nat (show i ≤ 140737488355328 by omega)]
     refine ih (fun j hj => ?_)
     by_cases e : j = i
     ·rw [e]; exact h
     ·exact hn j (by omega)
    ·simp only [cohousingref23_SameInts.l0, h1, h2, h3, h, if_true, if_false]
     rw [decide_eq_false (fun e => h (by rw [e]))]
     exact Ev.pure _
  exact key 0 (by omega) (fun j hj => absurd hj (Nat.not_lt_zero _))
 ·simp only [hl, if_false]
  rw [decide_eq_false (fun e => hl (by rw [e]))]
  exact Ev.pure _
theorem flat_beq (x y : FT) : (x.f0 == y.f0 && x.f1 == y.f1) = decide (x = y) := by
 obtain ⟨a, b⟩ := x
 obtain ⟨a', b'⟩ := y
 rw [Bool.eq_iff_iff, Bool.and_eq_true, decide_eq_true_iff, beq_iff_eq, beq_iff_eq]
 constructor
 ·rintro ⟨rfl, rfl⟩; rfl
 ·intro h; injection h with h1 h2; exact ⟨h1, h2⟩
theorem Same_f (f1 : List FT) (p1 : List PT) (f2 : List FT) (p2 : List PT) (hF : f1.length ≤ 140737488355328) (hP : p1.length ≤ 140737488355328) (hW : WB p1) : Ev (fun k => cohousingref23_Same.f k f1 p1 f2 p2) (decide (f1 = f2 ∧ p1 = p2)) := by
 unfold cohousingref23_Same.f
 have out : ¬ (f1 = f2 ∧ p1 = p2) → Ev (fun k => cohousingref23_Same.j0 k true f1 p1 f2 p2) (decide (f1 = f2 ∧ p1 = p2)) := fun h => by
  rw [decide_eq_false h]
  refine Ev.step ?_
  simp only [cohousingref23_Same.j0, if_true]
  exact Ev.pure _
 by_cases hl : (f1.length : Int) = (f2.length : Int)
 ·simp only [hl, if_true]
  have hl' : f1.length = f2.length := by omega
  by_cases hm : (p1.length : Int) = (p2.length : Int)
  ·rw [show ((p1.length : Int) != (p2.length : Int)) = false by rw [bne_eq_false_iff_eq]; exact hm]
   have hm' : p1.length = p2.length := by omega
   refine Ev.step ?_
   simp only [cohousingref23_Same.j0, Bool.false_eq_true, if_false]
   have key1 : f1 = f2 → ∀ i, i ≤ p1.length → ((∀ j : Nat, j < i → rd_T46 p1 (j : Int) = rd_T46 p2 (j : Int)) → Ev (fun k => cohousingref23_Same.l1 k (i : Int) f1 p1 f2 p2) (decide (f1 = f2 ∧ p1 = p2))) := by
    intro hf
    refine loopUp p1.length _ ?_ ?_
    ·intro hn
     have h1 : ¬ (((p1.length : Nat) : Int) < (p1.length : Int)) := by omega
     refine Ev.step ?_
     simp only [cohousingref23_Same.l1, h1, if_false]
     rw [decide_eq_true ⟨hf, List.ext_getElem hm' (fun j h1 h2 => by rw [← pa_get p1 j h1, ← pa_get p2 j h2]; exact hn j h1)⟩]
     exact Ev.pure _
    ·intro i hi ih hn
     have h1 : (i : Int) < (p1.length : Int) := by omega
     have h2 : (0 : Int) ≤ (i : Int) := by omega
     have h3 : (i : Int) < (p2.length : Int) := by omega
     refine Ev.step ?_
     simp only [cohousingref23_Same.l1, h1, h2, h3, if_true]
     refine Ev.bnd (SameInts_f (pwt p1 i) (pwt p2 i) (hW i hi)) ?_
     by_cases c1 : pwt p1 i = pwt p2 i
     ·simp only [decide_eq_true c1, if_true]
      by_cases c2 : (rd_T46 p1 (i : Int)).f0 = (rd_T46 p2 (i : Int)).f0
      ·by_cases c3 : (rd_T46 p1 (i : Int)).f1 = (rd_T46 p2 (i : Int)).f1
       ·simp only [c2, c3, if_true, wrap_nat (show i ≤ 140737488355328 by omega)]
        refine ih (fun j hj => ?_)
        by_cases e : j = i
        ·subst e
         have c1' : (rd_T46 p1 (j : Int)).f2 = (rd_T46 p2 (j : Int)).f2 := c1
         revert c1' c2 c3
         cases rd_T46 p1 (j : Int)
         cases rd_T46 p2 (j : Int)
         rintro rfl rfl rfl
         rfl
        ·exact hn j (by omega)
       ·simp only [c2, c3, if_true, if_false]
        rw [decide_eq_false (fun e => c3 (by rw [e.2]))]
        exact Ev.pure _
      ·simp only [c2, if_false]
       rw [decide_eq_false (fun e => c2 (by rw [e.2]))]
       exact Ev.pure _
     ·simp only [decide_eq_false c1, Bool.false_eq_true, if_false]
      rw [decide_eq_false (fun e => c1 (by rw [e.2]))]
      exact Ev.pure _
   have key0 : ∀ i, i ≤ f1.length → ((∀ j : Nat, j < i → rd_T84 f1 (j : Int) = rd_T84 f2 (j : Int)) → Ev (fun k => cohousingref23_Same.l0 k (i : Int) f1 p1 f2 p2) (decide (f1 = f2 ∧ p1 = p2))) := by
    refine loopUp f1.length _ ?_ ?_
    ·intro hn
     have h1 : ¬ (((f1.length : Nat) : Int) < (f1.length : Int)) := by omega
     refine Ev.step ?_
     simp only [cohousingref23_Same.l0, h1, if_false]
     exact key1 (List.ext_getElem hl' (fun j h1 h2 => by rw [← fl_get f1 j h1, ← fl_get f2 j h2]; exact hn j h1)) 0 (by omega) (fun j hj => absurd hj (Nat.not_lt_zero _))
    ·intro i hi ih hn
     have h1 : (i : Int) < (f1.length : Int) := by omega
     have h2 : (0 : Int) ≤ (i : Int) := by omega
     have h3 : (i : Int) < (f2.length : Int) := by omega
     have hx : (!((rd_T84 f1 (i : Int)).f0 == (rd_T84 f2 (i : Int)).f0) || !((rd_T84 f1 (i : Int)).f1 == (rd_T84 f2 (i : Int)).f1)) = !decide (rd_T84 f1 (i : Int) = rd_T84 f2 (i : Int)) := by
      rw [← flat_beq, Bool.not_and]
     refine Ev.step ?_
     by_cases h : rd_T84 f1 (i : Int) = rd_T84 f2 (i : Int)
     ·simp only [cohousingref23_Same.l0, h1, h2, h3, hx, if_true, decide_eq_true h, Bool.not_true, Bool.false_eq_true, if_false, wrap_nat (show i ≤ 140737488355328 by omega)]
      refine ih (fun j hj => ?_)
      by_cases e : j = i
      ·rw [e]; exact h
      ·exact hn j (by omega)
     ·simp only [cohousingref23_Same.l0, h1, h2, h3, hx, if_true, decide_eq_false h, Bool.not_false]
      rw [decide_eq_false (fun e => h (by rw [e.1]))]
      exact Ev.pure _
   exact key0 0 (by omega) (fun j hj => absurd hj (Nat.not_lt_zero _))
  ·rw [show ((p1.length : Int) != (p2.length : Int)) = true by rw [bne_iff_ne]; exact hm]
   exact out (fun e => hm (by rw [e.2]))
 ·simp only [hl, if_false]
  exact out (fun e => hl (by rw [e.1]))
end Go.Proofs.Ytocbiggglnpeoaa.P
end
section
namespace Go.Proofs.Ytocbiggglnpeoaa.P
open Go.RowKit Go.Proofs.YtocbiggglnpeoaaW.PrintWords Go.Proofs.YtocbiggglnpeoaaW.PrintLast Go.Proofs.YtocbiggglnpeoaaW.PrintMore Go.Proofs.YtocbiggglnpeoaaH
open Classical
structure MovesV (fl : List FT) (pa : List PT) (ms : List MT) : Prop where
 fit : ∀ x ∈ ms, Fits fl pa x
 homes : (ms.map (fun x => x.f0)).Nodup
structure GoneV (pa : List PT) (gs : List Int) : Prop where
 party : ∀ k, k < gs.length → ∃ i, i < pa.length ∧ pid pa i = rd gs (k : Int)
 asc : ∀ j k, j < k → k < gs.length → rd gs (j : Int) < rd gs (k : Int)
theorem nodup_index (f : MT → Int) (ms : List MT) : (ms.map f).Nodup ↔ ∀ i j, i < j → j < ms.length → f (mv ms i) ≠ f (mv ms j) := by
 rw [List.Nodup, List.pairwise_iff_getElem]
 simp only [List.length_map, List.getElem_map]
 constructor
 ·intro h i j hij hj
  rw [mv_get ms i (by omega), mv_get ms j hj]
  exact h i j (by omega) hj hij
 ·intro h i j hi hj hij
  rw [← mv_get ms i hi, ← mv_get ms j hj]
  exact h i j hij hj
theorem toM_some {ms : List MT} {h t : Int} {n : Nat} (hn : toM ms n h = some t) : ∃ k, k < n ∧ (mv ms k).f0 = h ∧ (mv ms k).f2 = t := foldM_has _ _ _ _ _ hn
theorem movesB_iff {fl : List FT} {pa : List PT} (hM : Market fl pa) (ms : List MT) : movesB (homesM pa pa.length) (knownM fl fl.length) ms = true ↔ MovesV fl pa ms := by
 unfold movesB stepB
 rw [List.all_eq_true]
 simp only [List.mem_range, Bool.and_eq_true, fits_iff hM, Bool.not_eq_true']
 constructor
 ·intro h
  refine ⟨fun x hx => ?_, (nodup_index _ ms).2 (fun i j hij hj e => ?_)⟩
  ·obtain ⟨k, hk, e⟩ := List.mem_iff_getElem.1 hx
   rw [← e, ← mv_get ms k hk]
   exact (h k hk).2
  ·have h1 := (h j hj).1
   have h2 := (foldM_isSome (fun j : Nat => (rd_T51 ms (j : Int)).f0) (fun j : Nat => (rd_T51 ms (j : Int)).f2) (mv ms j).f0 j).2 ⟨i, hij, e⟩
   have h3 : (toM ms j (mv ms j).f0).isSome = true := h2
   rw [h1] at h3
   cases h3
 ·intro h n hn
  refine ⟨?_, h.fit _ (mv_mem hn)⟩
  cases hx : (toM ms n (rd_T51 ms (n : Int)).f0) with
  | none => rfl
  | some t =>
   obtain ⟨k, hk, e, _⟩ := toM_some hx
   exact absurd e ((nodup_index _ ms).1 h.homes k n hk hn)
theorem goneB_iff {fl : List FT} {pa : List PT} (hM : Market fl pa) (gs : List Int) : goneB (homesM pa pa.length) gs = true ↔ GoneV pa gs := by
 have hsome : ∀ x : Int, (homesM pa pa.length x).isSome = true ↔ ∃ i, i < pa.length ∧ pid pa i = x := fun x => foldM_isSome _ _ _ _
 unfold goneB goneAt
 rw [List.all_eq_true]
 simp only [List.mem_range, Bool.and_eq_true, hsome, Bool.or_eq_true, decide_eq_true_iff]
 have ha := asc_adj (fun n => rd gs (n : Int)) (rd gs 0 - 1) gs.length
 constructor
 ·intro h
  have h2 := ha.1 (fun n hn => by
   by_cases e : n = 0
   ·subst e; rw [if_pos rfl]; show rd gs 0 - 1 < rd gs ((0 : Nat) : Int); have : ((0 : Nat) : Int) = 0 := rfl; rw [this]; omega
   ·rw [if_neg e]
    rcases (h n hn).2 with h1 | h1
    ·exact absurd h1 e
    ·rwa [show ((n : Int) - 1) = ((n - 1 : Nat) : Int) by omega] at h1)
  exact ⟨fun k hk => (h k hk).1, h2.2⟩
 ·intro h n hn
  refine ⟨h.party n hn, ?_⟩
  by_cases e : n = 0
  ·exact .inl e
  ·right
   rw [show ((n : Int) - 1) = ((n - 1 : Nat) : Int) by omega]
   exact h.asc (n - 1) n (by omega) hn
def flA (ms : List MT) (pa : List PT) (i : Nat) : Int := (toM ms ms.length (pid pa i)).getD (pfl pa i)
def stay (gs : List Int) (pa : List PT) (n : Nat) : List Nat := (List.range n).filter (fun i => !gs.contains (pid pa i))
def newP (ms : List MT) (pa : List PT) (i : Nat) : PT := ⟨pid pa i, flA ms pa i, pwt pa i⟩
def kept (ms : List MT) (gs : List Int) (pa : List PT) (n : Nat) : List PT := (stay gs pa n).map (newP ms pa)
theorem stay_succ (gs : List Int) (pa : List PT) (n : Nat) : stay gs pa (n + 1) = stay gs pa n ++ (if pid pa n ∈ gs then [] else [n]) := by
 unfold stay
 rw [List.range_succ, List.filter_append]
 congr 1
 by_cases h : pid pa n ∈ gs <;> simp [h]
theorem mem_stay {gs : List Int} {pa : List PT} {n i : Nat} : i ∈ stay gs pa n ↔ i < n ∧ pid pa i ∉ gs := by
 unfold stay
 simp
theorem stay_asc (gs : List Int) (pa : List PT) (n : Nat) : (stay gs pa n).Pairwise (· < ·) := List.Pairwise.filter _ List.pairwise_lt_range
def Dist (ms : List MT) (gs : List Int) (pa : List PT) (n : Nat) : Prop := ∀ i j, i < j → j < n → pid pa i ∉ gs → pid pa j ∉ gs → flA ms pa j ≠ 0 → flA ms pa i ≠ flA ms pa j
theorem nxM_spec (ms : List MT) (gs : List Int) (pa : List PT) : ∀ n, n ≤ pa.length → (Dist ms gs pa n → ∃ V, nxM (toM ms ms.length) gs pa n = some (kept ms gs pa n, V) ∧ ∀ x, x ≠ 0 → ((V x).getD false = true ↔ ∃ i, i < n ∧ pid pa i ∉ gs ∧ flA ms pa i = x)) ∧ (¬ Dist ms gs pa n → nxM (toM ms ms.length) gs pa n = none) := by
 intro n
 induction n with
 | zero =>
  intro _
  refine ⟨fun _ => ⟨fun _ => none, rfl, fun x _ => ?_⟩, fun h => absurd (fun i j _ hj => absurd hj (Nat.not_lt_zero _)) h⟩
  constructor
  ·intro h; cases h
  ·rintro ⟨i, hi, _⟩; exact absurd hi (Nat.not_lt_zero _)
 | succ n ih =>
  intro hn
  obtain ⟨h1, h2⟩ := ih (by omega)
  have down : Dist ms gs pa (n + 1) → Dist ms gs pa n := fun h i j hij hj => h i j hij (by omega)
  have hb : nxM (toM ms ms.length) gs pa (n + 1) = (nxM (toM ms ms.length) gs pa n).bind (nxS (toM ms ms.length) gs (rd_T46 pa (n : Int))) := nxM_succ _ _ _ _
  by_cases hd : Dist ms gs pa n
  ·obtain ⟨V, hV, hx⟩ := h1 hd
   rw [hb, hV, Option.bind_some]
   unfold nxS
   by_cases hg : pid pa n ∈ gs
   ·rw [if_pos (by simpa using hg)]
    refine ⟨fun _ => ⟨V, ?_, fun x h0 => ?_⟩, fun hno => absurd (fun i j hij hj hi' hj' => ?_) hno⟩
    ·unfold kept; rw [stay_succ, if_pos hg, List.append_nil]
    ·rw [hx x h0]
     constructor
     ·rintro ⟨i, hi, h⟩; exact ⟨i, by omega, h⟩
     ·rintro ⟨i, hi, hi', e⟩
      by_cases h : i = n
      ·subst h; exact absurd hg hi'
      ·exact ⟨i, by omega, hi', e⟩
    ·by_cases h : j = n
     ·subst h; exact absurd hg hj'
     ·exact hd i j hij (by omega) hi' hj'
   ·rw [if_neg (by simpa using hg)]
    have hfl : (toM ms ms.length (rd_T46 pa (n : Int)).f0).getD (rd_T46 pa (n : Int)).f1 = flA ms pa n := rfl
    simp only [hfl]
    by_cases hc : flA ms pa n ≠ 0 ∧ (V (flA ms pa n)).getD false = true
    ·rw [if_pos hc]
     obtain ⟨i, hi, hi', e⟩ := (hx _ hc.1).1 hc.2
     exact ⟨fun hd' => absurd e (hd' i n hi (by omega) hi' hg hc.1), fun _ => rfl⟩
    ·rw [if_neg hc]
     refine ⟨fun _ => ⟨upd V (flA ms pa n) true, ?_, fun x h0 => ?_⟩, fun hno => absurd (fun i j hij hj hi' hj' h0 => ?_) hno⟩
     ·unfold kept; rw [stay_succ, if_neg hg, List.map_append]; rfl
     ·unfold upd
      by_cases e : x = flA ms pa n
      ·rw [if_pos e]
       exact ⟨fun _ => ⟨n, by omega, hg, e.symm⟩, fun _ => rfl⟩
      ·rw [if_neg e, hx x h0]
       constructor
       ·rintro ⟨i, hi, h⟩; exact ⟨i, by omega, h⟩
       ·rintro ⟨i, hi, hi', e'⟩
        by_cases h : i = n
        ·subst h; exact absurd e'.symm e
        ·exact ⟨i, by omega, hi', e'⟩
     ·by_cases h : j = n
      ·subst h
       intro e
       exact hc ⟨h0, (hx _ h0).2 ⟨i, hij, hi', e⟩⟩
      ·exact hd i j hij (by omega) hi' hj' h0
  ·rw [hb, h2 hd]
   exact ⟨fun h => absurd (down h) hd, fun _ => rfl⟩
theorem nextR_eq (fl : List FT) (pa : List PT) (ms : List MT) (gs : List Int) : nextR fl pa ms gs = if Market fl pa ∧ MovesV fl pa ms ∧ GoneV pa gs then (if Dist ms gs pa pa.length then (fl, kept ms gs pa pa.length, 0) else ([], [], 22)) else ([], [], 1) := by
 unfold nextR
 by_cases h : Market fl pa ∧ MovesV fl pa ms ∧ GoneV pa gs
 ·rw [if_pos h, if_pos ⟨(marketOk_iff fl pa).2 h.1, (movesB_iff h.1 ms).2 h.2.1, (goneB_iff h.1 gs).2 h.2.2⟩]
  obtain ⟨h1, h2⟩ := nxM_spec ms gs pa pa.length (Nat.le_refl _)
  by_cases hd : Dist ms gs pa pa.length
  ·obtain ⟨V, hV, _⟩ := h1 hd
   rw [if_pos hd, hV]
   rfl
  ·rw [if_neg hd, h2 hd]
   rfl
 ·rw [if_neg h, if_neg]
  rintro ⟨h1, h2, h3⟩
  have hm := (marketOk_iff fl pa).1 h1
  exact h ⟨hm, (movesB_iff hm ms).1 h2, (goneB_iff hm gs).1 h3⟩
theorem Next_f {fl : List FT} {pa : List PT} {ms : List MT} {gs : List Int} (h : FewM fl pa) (hm : ms.length ≤ 1000000) (hg : gs.length ≤ 1000000) : chain_Next.f fl pa ms gs = some (nextR fl pa ms gs) := by
 unfold chain_Next.f fewN
 rw [if_pos (by rw [few_M h, Bool.true_and]; exact decide_eq_true ⟨by omega, by omega⟩)]
theorem kept_len (ms : List MT) (gs : List Int) (pa : List PT) (n : Nat) : (kept ms gs pa n).length = (stay gs pa n).length := by unfold kept; rw [List.length_map]
theorem stay_len (gs : List Int) (pa : List PT) (n : Nat) : (stay gs pa n).length ≤ n := by
 unfold stay
 exact Nat.le_trans (List.length_filter_le _ _) (by simp)
theorem kept_at (ms : List MT) (gs : List Int) (pa : List PT) (n : Nat) {a : Nat} (ha : a < (stay gs pa n).length) : rd_T46 (kept ms gs pa n) (a : Int) = newP ms pa ((stay gs pa n)[a]) := by
 rw [pa_get _ a (by rw [kept_len]; exact ha)]
 unfold kept
 rw [List.getElem_map]
theorem stay_at {gs : List Int} {pa : List PT} {n : Nat} {a : Nat} (ha : a < (stay gs pa n).length) : (stay gs pa n)[a] < n ∧ pid pa ((stay gs pa n)[a]) ∉ gs := mem_stay.1 (List.getElem_mem ha)
theorem stay_lt {gs : List Int} {pa : List PT} {n : Nat} {a b : Nat} (hab : a < b) (hb : b < (stay gs pa n).length) : (stay gs pa n)[a] < (stay gs pa n)[b] := List.pairwise_iff_getElem.1 (stay_asc gs pa n) a b (by omega) hb hab
section
variable {fl : List FT} {pa : List PT} {ms : List MT} {gs : List Int} (hM : Market fl pa) (hV : MovesV fl pa ms)
include hM hV
theorem flA_has {i : Nat} (hi : i < pa.length) (h0 : flA ms pa i ≠ 0) : HasF fl (flA ms pa i) := by
 unfold flA at h0 ⊢
 cases hx : toM ms ms.length (pid pa i) with
 | none => rw [hx] at h0; exact hM.own i hi h0
 | some t =>
  obtain ⟨k, hk, _, e⟩ := toM_some hx
  obtain ⟨_, _, _, _, hf⟩ := hV.fit _ (mv_mem hk)
  rw [e] at hf
  exact hf
theorem market_kept (hd : Dist ms gs pa pa.length) : Market fl (kept ms gs pa pa.length) := by
 have hl := kept_len ms gs pa pa.length
 refine ⟨hM.flv, fun a b hab hb => ?_, fun a ha => ?_, fun a ha h0 => ?_, fun a b hab hb h0 => ?_, fun a ha k hk => ?_, fun a ha j k hjk hk => ?_⟩
 ·rw [hl] at hb
  show (rd_T46 _ (a : Int)).f0 < (rd_T46 _ (b : Int)).f0
  rw [kept_at ms gs pa _ (show a < _ by omega), kept_at ms gs pa _ hb]
  exact hM.asc _ _ (stay_lt hab hb) (stay_at hb).1
 ·rw [hl] at ha
  show 1 ≤ (rd_T46 _ (a : Int)).f0 ∧ (rd_T46 _ (a : Int)).f0 ≤ 64
  rw [kept_at ms gs pa _ ha]
  exact hM.rng _ (stay_at ha).1
 ·rw [hl] at ha
  have e : pfl (kept ms gs pa pa.length) a = flA ms pa ((stay gs pa pa.length)[a]) := by show (rd_T46 _ (a : Int)).f1 = _; rw [kept_at ms gs pa _ ha]; rfl
  rw [e] at h0 ⊢
  exact flA_has hM hV (stay_at ha).1 h0
 ·rw [hl] at hb
  have ha : a < (stay gs pa pa.length).length := by omega
  have e1 : pfl (kept ms gs pa pa.length) a = flA ms pa ((stay gs pa pa.length)[a]) := by show (rd_T46 _ (a : Int)).f1 = _; rw [kept_at ms gs pa _ ha]; rfl
  have e2 : pfl (kept ms gs pa pa.length) b = flA ms pa ((stay gs pa pa.length)[b]) := by show (rd_T46 _ (b : Int)).f1 = _; rw [kept_at ms gs pa _ hb]; rfl
  rw [e2] at h0
  rw [e1, e2]
  exact hd _ _ (stay_lt hab hb) (stay_at hb).1 (stay_at ha).2 (stay_at hb).2 h0
 ·rw [hl] at ha
  have e : pwt (kept ms gs pa pa.length) a = pwt pa ((stay gs pa pa.length)[a]) := by show (rd_T46 _ (a : Int)).f2 = _; rw [kept_at ms gs pa _ ha]; rfl
  rw [e] at hk ⊢
  exact hM.wnt _ (stay_at ha).1 k hk
 ·rw [hl] at ha
  have e : pwt (kept ms gs pa pa.length) a = pwt pa ((stay gs pa pa.length)[a]) := by show (rd_T46 _ (a : Int)).f2 = _; rw [kept_at ms gs pa _ ha]; rfl
  rw [e] at hk ⊢
  exact hM.wdis _ (stay_at ha).1 j k hjk hk
end
theorem few_kept {fl : List FT} {pa : List PT} {ms : List MT} {gs : List Int} (h : FewM fl pa) : FewM fl (kept ms gs pa pa.length) := by
 have hl := kept_len ms gs pa pa.length
 have hs := stay_len gs pa pa.length
 refine ⟨h.f, by have := h.p; omega, fun a ha => ?_⟩
 rw [hl] at ha
 show (rd_T46 _ (a : Int)).f2.length ≤ 30
 rw [kept_at ms gs pa _ ha]
 exact h.w _ (stay_at ha).1
theorem Valid26_f {fl : List FT} {pa : List PT} (h : FewM fl pa) : market_Valid.f fl pa = some (decide (Market fl pa)) := by
 unfold market_Valid.f
 rw [if_pos (few_M h), marketOk_eq]
theorem stay_nil (pa : List PT) (n : Nat) : stay [] pa n = List.range n := by
 unfold stay
 rw [List.filter_eq_self]
 intro i _
 rfl
theorem goneV_nil (pa : List PT) : GoneV pa [] := ⟨fun k hk => absurd hk (Nat.not_lt_zero _), fun j k _ hk => absurd hk (Nat.not_lt_zero _)⟩
section
variable {fl : List FT} {pa : List PT} {l : List GT} (hM : Market fl pa) (hR : RingsR fl pa l)
include hM hR
end
end Go.Proofs.Ytocbiggglnpeoaa.P
end
section
namespace Go.Proofs.Ytocbiggglnpeoaa.P
open Go.RowKit Go.Proofs.YtocbiggglnpeoaaW.PrintWords Go.Proofs.YtocbiggglnpeoaaW.PrintLast Go.Proofs.YtocbiggglnpeoaaW.PrintMore Go.Proofs.YtocbiggglnpeoaaH
open Classical
theorem head26 : Ev (fun k => cohousinglaw26_head.f k) true := Ev.of_mono 60 (by kernel_rfl) (fun k => cohousinglaw26_head.mono k)
theorem kept_nil_at (ms : List MT) (pa : List PT) {i : Nat} (hi : i < pa.length) : rd_T46 (kept ms [] pa pa.length) (i : Int) = newP ms pa i := by
 have hl : i < (stay [] pa pa.length).length := by rw [stay_nil, List.length_range]; exact hi
 rw [kept_at ms [] pa _ hl]
 congr 1
 simp [stay_nil]
theorem kept_nil_len (ms : List MT) (pa : List PT) : (kept ms [] pa pa.length).length = pa.length := by rw [kept_len, stay_nil, List.length_range]
theorem next_same {fl : List FT} {pa : List PT} (hM : Market fl pa) : nextR fl pa [] [] = (fl, pa, 0) := by
 have hV : MovesV fl pa [] := ⟨(fun x hx => by cases hx), List.nodup_nil⟩
 have hf : ∀ i, flA [] pa i = pfl pa i := fun i => rfl
 rw [nextR_eq, if_pos ⟨hM, hV, goneV_nil pa⟩, if_pos (show Dist [] [] pa pa.length from fun i j hij hj _ _ h0 => by rw [hf] at h0; rw [hf, hf]; exact hM.dis i j hij hj h0)]
 congr 2
 refine List.ext_getElem (kept_nil_len [] pa) (fun j h1 h2 => ?_)
 rw [← pa_get _ j h1, ← pa_get pa j h2, kept_nil_at [] pa h2]
 rfl
theorem stay_count {fl : List FT} {pa : List PT} {gs : List Int} (hM : Market fl pa) (hG : GoneV pa gs) : (stay gs pa pa.length).length + gs.length = pa.length := by
 have hnd : gs.Nodup := by
  rw [List.Nodup, List.pairwise_iff_getElem]
  intro i j hi hj hij e
  have := hG.asc i j hij hj
  rw [rd_get gs i hi, rd_get gs j hj] at this
  omega
 have hgo : (((List.range pa.length).filter (fun i => gs.contains (pid pa i))).map (pid pa)).Perm gs := by
  refine (List.perm_ext_iff_of_nodup ?_ hnd).2 (fun x => ?_)
  ·rw [List.Nodup, List.pairwise_map]
   have h1 : ((List.range pa.length).filter (fun i => gs.contains (pid pa i))).Pairwise (· < ·) := List.Pairwise.filter _ List.pairwise_lt_range
   refine h1.imp_of_mem (fun {i j} hi hj hij e => ?_)
   have hj' := List.mem_range.1 (List.mem_filter.1 hj).1
   have := hM.asc i j hij hj'
   omega
  ·simp only [List.mem_map, List.mem_filter, List.mem_range, List.contains_iff_mem]
   constructor
   ·rintro ⟨i, ⟨_, h⟩, rfl⟩; exact h
   ·intro hx
    obtain ⟨k, hk, e⟩ := List.mem_iff_getElem.1 hx
    obtain ⟨i, hi, e2⟩ := hG.party k hk
    rw [rd_get gs k hk, e] at e2
    exact ⟨i, ⟨hi, by rw [e2]; exact hx⟩, e2⟩
 have hl := hgo.length_eq
 rw [List.length_map] at hl
 have hsum : ∀ (p : Nat → Bool) (l : List Nat), (l.filter (fun i => !p i)).length + (l.filter p).length = l.length := by
  intro p l
  induction l with
  | nil => rfl
  | cons a l ih =>
   cases h : p a
   ·rw [List.filter_cons_of_pos (by simp [h]), List.filter_cons_of_neg (by simp [h])]
    simp only [List.length_cons]; omega
   ·rw [List.filter_cons_of_neg (by simp [h]), List.filter_cons_of_pos (by simp [h])]
    simp only [List.length_cons]; omega
 have := hsum (fun i => gs.contains (pid pa i)) (List.range pa.length)
 rw [List.length_range] at this
 unfold stay
 omega
theorem kept_pre (ms : List MT) (gs : List Int) (pa : List PT) {n : Nat} (hn : n < pa.length) (hg : pid pa n ∉ gs) : ∃ t, kept ms gs pa pa.length = kept ms gs pa n ++ newP ms pa n :: t := by
 have key : ∀ d, ∃ t, kept ms gs pa (n + 1 + d) = kept ms gs pa n ++ newP ms pa n :: t := by
  intro d
  induction d with
  | zero => exact ⟨[], by unfold kept; rw [Nat.add_zero, stay_succ, if_neg hg, List.map_append]; rfl⟩
  | succ d ih =>
   obtain ⟨t, e⟩ := ih
   refine ⟨t ++ (if pid pa (n + 1 + d) ∈ gs then [] else [n + 1 + d]).map (newP ms pa), ?_⟩
   unfold kept at e ⊢
   rw [← Nat.add_assoc, stay_succ, List.map_append, e, List.append_assoc]
   rfl
 obtain ⟨t, e⟩ := key (pa.length - (n + 1))
 rw [show n + 1 + (pa.length - (n + 1)) = pa.length by omega] at e
 exact ⟨t, e⟩
theorem kept_next (ms : List MT) (gs : List Int) (pa : List PT) {n : Nat} (hg : pid pa n ∉ gs) : (kept ms gs pa (n + 1)).length = (kept ms gs pa n).length + 1 := by
 unfold kept; rw [stay_succ, if_neg hg, List.map_append]; simp
theorem kept_stop (ms : List MT) (gs : List Int) (pa : List PT) {n : Nat} (hg : pid pa n ∈ gs) : (kept ms gs pa (n + 1)).length = (kept ms gs pa n).length := by
 unfold kept; rw [stay_succ, if_pos hg]; simp
end Go.Proofs.Ytocbiggglnpeoaa.P
end
section
namespace Go.Proofs.YtocbiggglnpeoaaH
open Go.RowKit Go.ChangeShapes Go.WideShapes Go.Proofs.YtocbiggglnpeoaaW.PrintWords
def Opens {α : Type} (P : Program) (d : Kd α) (t : TypeId) : Prop :=
 ∀ {H : Type} {enc : TypeId × Value → H} {w : World} {base : Nat} {spare : Nat → Bool} {held : Bool} {fuel : Nat} {cs : List Value} {x : DataW H × List MemPlace}, DataW.trod enc P w base spare held fuel t cs = some x → ∃ a : α, d.K w a cs
theorem Opens.int {P : Program} {t : TypeId} {k : IntKind} (h : P.underlying t = some (.int k)) : Opens P (Kd.int k) t := by
 intro H enc w base spare held fuel cs x hx
 obtain ⟨n, rfl, _, _⟩ := DataW.trod_int h hx
 exact ⟨n, rfl⟩
theorem Opens.iso {α β : Type} {P : Program} {d : Kd α} {t : TypeId} (f : β → α) (g : α → β) (hfg : ∀ a, f (g a) = a) (h : Opens P d t) : Opens P (Kd.iso d f) t := by
 intro H enc w base spare held fuel cs x hx
 obtain ⟨a, ha⟩ := h hx
 refine ⟨g a, ?_⟩
 show d.K w (f (g a)) cs
 rw [hfg]
 exact ha
def Segs {β : Type} (P : Program) (d : Kd β) (fs : List Field) (o z : Nat) : Prop :=
 ∀ {H : Type} {enc : TypeId × Value → H} {w : World} {base : Nat} {spare : Nat → Bool} {held : Bool} {fuel : Nat} {cs : List Value}, cs.length = z →
  (∀ f ∈ fs, ∃ x : DataW H × List MemPlace, DataW.trod enc P w base spare held fuel f.type ((cs.drop f.offset).take (P.cellsOf f.type)) = some x) → ∃ b : β, d.K w b (cs.drop o)
theorem Segs.one {α : Type} {P : Program} {d : Kd α} {f : Field} {o z : Nat} (h : Opens P d f.type) (ho : f.offset = o) (hz : z = o + P.cellsOf f.type) : Segs P d [f] o z := by
 intro H enc w base spare held fuel cs hl hf
 obtain ⟨x, hx⟩ := hf f (by simp)
 obtain ⟨a, ha⟩ := h hx
 refine ⟨a, ?_⟩
 rw [ho, List.take_of_length_le (by rw [List.length_drop]; omega)] at ha
 exact ha
theorem Segs.cons {α β : Type} {P : Program} {d : Kd α} {d' : Kd β} {f : Field} {fs : List Field} {o o' z : Nat} (h : Opens P d f.type) (ho : f.offset = o) (ho' : o' = o + P.cellsOf f.type) (hr : Segs P d' fs o' z) : Segs P (Kd.pair d d') (f :: fs) o z := by
 intro H enc w base spare held fuel cs hl hf
 obtain ⟨x, hx⟩ := hf f (by simp)
 obtain ⟨a, ha⟩ := h hx
 obtain ⟨b, hb⟩ := hr hl (fun f' h' => hf f' (List.mem_cons_of_mem _ h'))
 refine ⟨(a, b), _, _, ?_, ha, hb⟩
 rw [ho, ho', ← List.drop_drop, List.take_append_drop]
theorem Opens.struct {β : Type} {P : Program} {d : Kd β} {t : TypeId} {fs : Array Field} (h : P.underlying t = some (.struct fs)) (hr : Segs P d fs.toList 0 (P.cellsOf t)) : Opens P d t := by
 intro H enc w base spare held fuel cs x hx
 obtain ⟨xs, n, _, _, hl, hxl, hf⟩ := DataW.trod_struct h hx
 have := hr (enc := enc) (w := w) (base := base) (spare := spare) (held := held) (fuel := n) (cs := cs) hl (fun f hm => by
  obtain ⟨i, hi, rfl⟩ := List.mem_iff_getElem.1 hm
  have hi' : i < fs.size := by simpa using hi
  have h1 := hf i fs[i] (by simp [hi'])
  refine ⟨xs[i]'(by omega), ?_⟩
  rw [Array.getElem_toList]
  rw [h1]
  simp [hxl, hi'])
 rw [List.drop_zero] at this
 exact this
theorem Opens.row {α : Type} {P : Program} {d : Kd α} {t e : TypeId} (ht : P.underlying t = some (.slice e)) (hsz : P.cellsOf e = d.sz) (he : Opens P d e) {H : Type} {enc : TypeId × Value → H} {w : World} {base : Nat} {spare : Nat → Bool} {held : Bool} {fuel : Nat} {cs : List Value} {x : DataW H × List MemPlace}
  (hx : DataW.trod enc P w base spare held fuel t cs = some x) : ∃ A len cap, cs = [.slice A len cap] ∧ ∃ xs : List α, xs.length = len ∧ len ≤ cap ∧ d.C w A len xs := by
 rcases Deep.open_slice ht hx with ⟨rfl, _⟩ | ⟨a, len, cap, m, n, D, Pl, rfl, _, hl, hm, hmm, _, hel⟩
 ·exact ⟨none, 0, 0, rfl, [], rfl, Nat.le_refl _, rfl, by omega, fun h => absurd h (Nat.lt_irrefl _)⟩
 ·have hlm : len ≤ m := by rw [hmm]; split <;> omega
  have each : ∀ i, i < len → ∃ a' : α, ∃ cs', cs'.length = d.sz ∧ d.K w a' cs' ∧ ∀ j u, cs'[j]? = some u → w.cell? (a.add (i * d.sz + j)) = some u := by
   intro i hi
   obtain ⟨cs', h1, h2⟩ := hel i (by omega)
   obtain ⟨a', ha'⟩ := he h2
   obtain ⟨_, hlen, hcell⟩ := World.cells?_some h1
   refine ⟨a', cs', by omega, ha', fun j u hj => ?_⟩
   have hjl : j < cs'.length := (List.getElem?_eq_some_iff.1 hj).1
   have := hcell j (by omega)
   rw [Deep.add_add, hsz] at this
   rw [this, hj]
  obtain ⟨xs, hxs⟩ : ∃ xs : List α, xs.length = len ∧ ∀ i (h : i < xs.length), ∃ cs', cs'.length = d.sz ∧ d.K w xs[i] cs' ∧ ∀ j u, cs'[j]? = some u → w.cell? (a.add (i * d.sz + j)) = some u := by
   have key : ∀ k, k ≤ len → ∃ xs : List α, xs.length = k ∧ ∀ i (h : i < xs.length), ∃ cs', cs'.length = d.sz ∧ d.K w xs[i] cs' ∧ ∀ j u, cs'[j]? = some u → w.cell? (a.add (i * d.sz + j)) = some u := by
    intro k
    induction k with
    | zero => intro _; exact ⟨[], rfl, fun i h => absurd h (Nat.not_lt_zero _)⟩
    | succ k ih =>
     intro hk
     obtain ⟨xs, hl, hxs⟩ := ih (by omega)
     obtain ⟨a', ha'⟩ := each k (by omega)
     refine ⟨xs ++ [a'], by simp [hl], fun i h => ?_⟩
     by_cases hi : i < xs.length
     ·rw [List.getElem_append_left hi]
      exact hxs i hi
     ·have e : i = xs.length := by simp at h; omega
      subst e
      rw [List.getElem_append_right (Nat.le_refl _)]
      simp only [Nat.sub_self, List.getElem_cons_zero]
      rw [hl]
      exact ha'
   exact key len (Nat.le_refl _)
  refine ⟨some a, len, cap, rfl, xs, hxs.1, hl, hxs.1, ?_, fun _ => ⟨a, rfl, fun j p hj => ?_⟩⟩
  ·have : maxLen = 2 ^ 63 - 1 := rfl
   omega
  ·obtain ⟨hjl, rfl⟩ := List.getElem?_eq_some_iff.1 hj
   exact hxs.2 j hjl
theorem Opens.slice {α : Type} {P : Program} {d : Kd α} {t e : TypeId} (ht : P.underlying t = some (.slice e)) (hsz : P.cellsOf e = d.sz) (he : Opens P d e) : Opens P (Kd.slice e d) t := by
 intro H enc w base spare held fuel cs x hx
 obtain ⟨A, len, cap, rfl, xs, rfl, hl, hC⟩ := Opens.row ht hsz he hx
 exact ⟨xs, A, cap, rfl, hl, hC⟩
theorem open_arg {α : Type} {P : Program} {d : Kd α} {t e : TypeId} (ht : P.underlying t = some (.slice e)) (hsz : P.cellsOf e = d.sz) (he : Opens P d e) {H : Type} {enc : TypeId × Value → H} {w : World} {base : Nat} {spare : Nat → Bool} {held : Bool} {A : Option Addr} {len cap : Nat} {x : DataW H} {ps : List MemPlace}
  (hx : DataW.Trod enc P w base spare held t (.slice A len cap) x ps) : ∃ xs : List α, xs.length = len ∧ len ≤ cap ∧ d.C w A len xs := by
 obtain ⟨fuel, hf⟩ := hx
 obtain ⟨A', len', cap', e1, r⟩ := Opens.row ht hsz he hf
 simp [Value.cells] at e1
 obtain ⟨rfl, rfl, rfl⟩ := e1
 exact r
theorem open_agg {α : Type} {P : Program} {d : Kd α} {t : TypeId} (he : Opens P d t) {H : Type} {enc : TypeId × Value → H} {w : World} {base : Nat} {spare : Nat → Bool} {held : Bool} {v : Value} {x : DataW H} {ps : List MemPlace}
  (hx : DataW.Trod enc P w base spare held t v x ps) : ∃ a : α, d.K w a v.cells.toList := by
 obtain ⟨fuel, hf⟩ := hx
 exact he hf
theorem sized_arg {H : Type} {enc : TypeId × Value → H} {P : Program} {W : World} {base : Nat} {spare : Nat → Bool} {held : Bool} {t e : TypeId} {a : Option Addr} {len cap : Nat} {d : DataW H} {ps : List MemPlace} {ts : List TypeId} {ds : List (DataW H)} {j : Nat}
  (hsz : (DataW.weightsEach P ts ds).all (· ≤ reachBytes) = true) (ht : ts[j]? = some t) (hd : ds[j]? = some d) (hu : P.underlying t = some (.slice e)) {B : Nat} (hB : P.bytesOf e = B)
  (h : DataW.Trod enc P W base spare held t (.slice a len cap) d ps) : len * B ≤ 140737488351232 := by
 obtain ⟨fuel, hf⟩ := h
 rcases Deep.open_slice hu hf with ⟨hcs, _⟩ | ⟨x, l, c, m, n, D, Pl, hcs, _, hl, _, hm, hx, _⟩
 ·simp [Value.cells] at hcs
  obtain ⟨rfl, rfl, rfl⟩ := hcs
  simp
 ·simp [Value.cells] at hcs
  obtain ⟨rfl, rfl, rfl⟩ := hcs
  obtain ⟨hx, _⟩ := Prod.mk.inj hx
  subst hx
  have z := sized_slice hsz ht hd hu
  rw [hB] at z
  simp only [List.length_map, List.length_range] at z
  exact Nat.le_trans (Nat.mul_le_mul_right _ (Nat.le_add_right _ _)) z
end Go.Proofs.YtocbiggglnpeoaaH
end
section
namespace Go.Proofs.YtocbiggglnpeoaaH
open Go.RowKit Go.ChangeShapes Go.WideShapes Go.Proofs.YtocbiggglnpeoaaW.PrintWords
theorem Opens.bool {P : Program} {t : TypeId} (h : P.underlying t = some .bool) : Opens P Kd.bool t := by
 intro H enc w base spare held fuel cs x hx
 obtain ⟨b, rfl, _⟩ := DataW.trod_bool h hx
 exact ⟨b, rfl⟩
end Go.Proofs.YtocbiggglnpeoaaH
end
section
namespace Go.Proofs.YtocbiggglnpeoaaH
open Go.RowKit Go.ChangeShapes Go.WideShapes Go.Proofs.YtocbiggglnpeoaaW.PrintWords
theorem open_two_rows {α β : Type} {P : Program} {d : Kd α} {d' : Kd β} {t e e' : TypeId} {fs : Array Field} (hu : P.underlying t = some (.struct fs)) (he : Opens P (Kd.pair (Kd.slice e d) (Kd.slice e' d')) t) {H : Type} {enc : TypeId × Value → H} {w : World} {r : Reach} {base : Nat} {spare : Nat → Bool} {held : Bool} {v : Value} {x : DataW H} {ps : List MemPlace}
  (ok : Value.okWide P w r base t v) (hx : DataW.Trod enc P w 0 spare held t v x ps) : ∃ A c A' c', ∃ xs : List α, ∃ ys : List β, v = .agg #[.slice A xs.length c, .slice A' ys.length c'] ∧ d.C w A xs.length xs ∧ xs.length ≤ c ∧ d'.C w A' ys.length ys ∧ ys.length ≤ c' := by
 obtain ⟨cs, rfl, _⟩ := okWide_struct hu ok
 obtain ⟨⟨xs, ys⟩, c1, c2, hcs, ⟨A, cap, h1, hl1, hC1⟩, ⟨A', cap', h2, hl2, hC2⟩⟩ := open_agg he hx
 refine ⟨A, cap, A', cap', xs, ys, ?_, hC1, hl1, hC2, hl2⟩
 have hcs' : cs.toList = c1 ++ c2 := hcs
 rw [h1, h2] at hcs'
 have : cs = (cs.toList).toArray := rfl
 rw [this, hcs']
 rfl
end Go.Proofs.YtocbiggglnpeoaaH
end
