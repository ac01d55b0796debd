/- Part 8 of the base that the seat's proofs share: words, walks and plain laws. -/
import Derived.ArgAppend
import Derived.Below
import Derived.BigQuiet
import Derived.ChangeOld
import Derived.ChangeSlices
import Derived.Deep.AppendLies
import Derived.Deep.CutBlock
import Derived.Deep.DeepCutAuto
import Derived.Deep.Draws
import Derived.Deep.LoopGhost
import Derived.Deep.OwnRows
import Derived.Deep.QuietTactic
import Derived.Deep.RegionHeld3
import Derived.Deep.Slices
import Derived.KernelRfl
import Derived.Laws.BitsLemmas
import Derived.Laws.BytesArg
import Derived.Laws.IdiomCopy
import Derived.Laws.MakeOwn
import Derived.Laws.OwnMore
import Derived.Laws.Rows
import Derived.Laws.Slices
import Derived.Laws.StructEq
import Derived.Lib.AppendStr
import Derived.Lib.BufferOwn
import Derived.Lib.ConvBytes
import Derived.Lib.SliceRun
import Derived.LoopIn
import Derived.LoopNIn
import Derived.Maps.AppendAt
import Derived.Maps.Own
import Derived.OpenShut
import Derived.OrdersHeld
import Derived.OwnWalk
import Derived.OwnWalkIn
import Derived.ProofKit
import Derived.RangeFuncBound
import Derived.RangeFuncCalls
import Derived.RangeFuncLeaves
import Derived.RangeFuncNested
import Derived.RowKit
import Derived.RowKit3
import Derived.ShutString
import Derived.SizedLaws
import Derived.Tactics
import Derived.TacticsInMore
import Derived.Test.YtocbiggglnpeoaaProg
import Derived.WalkKit
import Derived.WideLaws
import Derived.Test.YtocbiggglnpeoaaCRg
set_option linter.unusedVariables false
set_option linter.unusedSimpArgs false
section
namespace Go.Proofs.Ytocbiggglnpeoaa.P
open Go.RowKit Go.Proofs.YtocbiggglnpeoaaW.PrintWords Go.Proofs.YtocbiggglnpeoaaW.PrintLast Go.Proofs.YtocbiggglnpeoaaW.PrintMore
attribute [local go_sem] max2_int min2_int max_two min_two max_three min_three max_four min_four
set_option linter.unusedVariables false
set_option linter.unusedSimpArgs false
set_option maxHeartbeats 8000000
set_option maxRecDepth 100000
section
mutual
def cohousingref23_Valid.j0 : Nat → Bool → List (S84) → List (S46) → Option (Bool)
 | 0, _, _, _ => none
 | k + 1, x20, x214000, x214001 => if x20 = true then (some false) else (cohousingref23_Valid.l0 k 0 x214000 x214001)
def cohousingref23_Valid.l0 : Nat → Int → List (S84) → List (S46) → Option (Bool)
 | 0, _, _, _ => none
 | k + 1, x4, x214000, x214001 => if x4 < (x214001.length : Int) then (if 0 ≤ x4 then (if ((rd_T46 x214001 x4).f0) < 1 then (cohousingref23_Valid.j2 k x4 true x214000 x214001 ((rd_T46 x214001 x4).f0) ((rd_T46 x214001 x4).f1) ((rd_T46 x214001 x4).f2)) else (if ((rd_T46 x214001 x4).f0) > 64 then (cohousingref23_Valid.j2 k x4 true x214000 x214001 ((rd_T46 x214001 x4).f0) ((rd_T46 x214001 x4).f1) ((rd_T46 x214001 x4).f2)) else (if x4 > 0 then (if 0 ≤ (wrap64 (x4 - 1)) then (if (wrap64 (x4 - 1)) < (x214001.length : Int) then (cohousingref23_Valid.j2 k x4 (decide (((rd_T46 x214001 x4).f0) ≤ ((rd_T46 x214001 (wrap64 (x4 - 1))).f0))) x214000 x214001 ((rd_T46 x214001 x4).f0) ((rd_T46 x214001 x4).f1) ((rd_T46 x214001 x4).f2)) else (none)) else (none)) else (cohousingref23_Valid.j2 k x4 false x214000 x214001 ((rd_T46 x214001 x4).f0) ((rd_T46 x214001 x4).f1) ((rd_T46 x214001 x4).f2))))) else (none)) else (some true)
def cohousingref23_Valid.j2 : Nat → Int → Bool → List (S84) → List (S46) → Int → Int → List Int → Option (Bool)
 | 0, _, _, _, _, _, _, _ => none
 | k + 1, x4, x56, x214000, x214001, x217000, x217001, x217002 => if x56 = true then (some false) else ((cohousingref23_Has.f k x214000 x217001).bind fun t218 => (if x217001 = 0 then (cohousingref23_Valid.j3 k x4 false x214000 x214001 x217000 x217001 x217002) else (cohousingref23_Valid.j3 k x4 (!t218) x214000 x214001 x217000 x217001 x217002)))
def cohousingref23_Valid.j3 : Nat → Int → Bool → List (S84) → List (S46) → Int → Int → List Int → Option (Bool)
 | 0, _, _, _, _, _, _, _ => none
 | k + 1, x4, x68, x214000, x214001, x217000, x217001, x217002 => if x68 = true then (some false) else (cohousingref23_Valid.l1 k x4 0 x214000 x214001 x217000 x217001 x217002)
def cohousingref23_Valid.l1 : Nat → Int → Int → List (S84) → List (S46) → Int → Int → List Int → Option (Bool)
 | 0, _, _, _, _, _, _, _ => none
 | k + 1, x4, x7, x214000, x214001, x217000, x217001, x217002 => if x7 < x4 then (if x217001 = 0 then (cohousingref23_Valid.l1 k x4 (wrap64 (x7 + 1)) x214000 x214001 x217000 x217001 x217002) else (if 0 ≤ x7 then (if x7 < (x214001.length : Int) then (if ((rd_T46 x214001 x7).f1) = x217001 then (some false) else (cohousingref23_Valid.l1 k x4 (wrap64 (x7 + 1)) x214000 x214001 x217000 x217001 x217002)) else (none)) else (none))) else (cohousingref23_Valid.l2 k x4 0 x214000 x214001 x217000 x217001 x217002)
def cohousingref23_Valid.l2 : Nat → Int → Int → List (S84) → List (S46) → Int → Int → List Int → Option (Bool)
 | 0, _, _, _, _, _, _, _ => none
 | k + 1, x4, x8, x214000, x214001, x217000, x217001, x217002 => if x8 < (x217002.length : Int) then (if 0 ≤ x8 then ((cohousingref23_Has.f k x214000 (rd x217002 x8)).bind fun t221 => (if t221 = true then ((cohousingref23_In.f k x217002 (rd x217002 x8)).bind fun t223 => (if t223 = x8 then (cohousingref23_Valid.l2 k x4 (wrap64 (x8 + 1)) x214000 x214001 x217000 x217001 x217002) else (some false))) else (some false))) else (none)) else (cohousingref23_Valid.l0 k (wrap64 (x4 + 1)) x214000 x214001)
end
def cohousingref23_Valid.f (k : Nat) (l0_0 : List (S84)) (l0_1 : List (S46)) : Option (Bool) := (cohousingref23_Flats.f k l0_0).bind fun t214 => (if t214 = true then (cohousingref23_Valid.j0 k (decide ((l0_1.length : Int) > 64)) l0_0 l0_1) else (cohousingref23_Valid.j0 k true l0_0 l0_1))
theorem cohousingref23_Valid.calls (k : Nat) (A0_0 : Option Addr) (c0_0 : Nat) (l0_0 : List (S84)) (A0_1 : Option Addr) (c0_1 : Nat) (l0_1 : List (S46)) (r : Bool) (w : World) (hr0_0 : Kd.C k84 w A0_0 l0_0.length l0_0) (hc0_0 : l0_0.length ≤ c0_0) (hr0_1 : Kd.C k46 w A0_1 l0_1.length l0_1) (hc0_1 : l0_1.length ≤ c0_1) (h : cohousingref23_Valid.f k l0_0 l0_1 = some r) :
  Calls Try.prog 25 #[.agg #[.slice A0_0 l0_0.length c0_0, .slice A0_1 l0_1.length c0_1]] w fun e w' => e = .returned (.bool r) ∧ Below w.heap.size w w' := by
 have hu25 := Try.underlying25
 have hu46 := Try.underlying46
 have HR0_0 := Aside0.mk hr0_0
 have HC0_0 := Aside0.mk hc0_0
 clear hr0_0 hc0_0
 have HR0_1 := Aside0.mk hr0_1
 have HC0_1 := Aside0.mk hc0_1
 clear hr0_1 hc0_1
 have HB := Aside0.mk (Below.refl w.heap.size w)
 have H : ((cohousingref23_Flats.f k l0_0).bind fun t214 => (if t214 = true then (cohousingref23_Valid.j0 k (decide ((l0_1.length : Int) > 64)) l0_0 l0_1) else (cohousingref23_Valid.j0 k true l0_0 l0_1))) = some r := h
 clear h
 replace H := Option.bind_eq_some_iff.mp H
 obtain ⟨t214, A20, H⟩ := H
 replace H : (if t214 = true then (cohousingref23_Valid.j0 k (decide ((l0_1.length : Int) > 64)) l0_0 l0_1) else (cohousingref23_Valid.j0 k true l0_0 l0_1)) = some r := H
 have A2 := Aside0.mk A20
 clear A20
 have HC3 := Aside0.mk H
 clear H
 go_enter Try.func25, Try.ntmps25
 go_upto_region 2 with (first | ((with_reducible refine gate_dst (N := 1) rfl ?_); (try (refine gate_guard (by rfl) ?_; dsimp only)); refine box_event ?hg (N := 1) ?hd (cs := #[.slice A0_0 l0_0.length c0_0, .slice A0_1 l0_1.length c0_1]) (t := 25) ?hr ?_; (case hd => rfl); (case hg => rfl); (case hr => first | (go_simp; done) | (go_simp; rfl)); intro gb213 hg w4 hbox hb; have n0_ := Aside0.mk (below_step (bb_ HB) hb); have n1_ := Aside0.mk (hbox); have n2_ := Aside0.mk ((by rw [hg]; exact (below_size (bb_ HB)) : w.heap.size ≤ gb213)); have n3_ := Aside0.mk ((by rw [hg]; exact (below_size (bb_ HB)) : w.heap.size ≤ gb213)); clear HB; have HB := n0_; have BK213 := n1_; have GW213 := n2_; have GE213 := n3_; clear n0_ n1_ n2_ n3_; clear hb hbox hg; have hcz5_0 : w4.cell? ⟨gb213, 0, none⟩ = some (.slice A0_0 l0_0.length c0_0) := (blk_cell BK213.out 0).trans rfl; have hcz5_1 : w4.cell? ⟨gb213, 1, none⟩ = some (.slice A0_1 l0_1.length c0_1) := (blk_cell BK213.out 1).trans rfl; have hfz5_0 := blk_frozen BK213.out 0; have hfz5_1 := blk_frozen BK213.out 1) | (go_at_call 44; (with_reducible refine (cohousingref23_Flats.calls k _ _ l0_0 t214 _ ?side1 ?side2 A2.out).mono ?_); (case side1 => exact cc_ ((Kd.C_below HR0_0.out HB.out))); (case side2 => exact HC0_0.out); rintro e w' ⟨rfl, ⟨nd, rfl⟩⟩; (try first | exact ⟨rfl, _, World.drewN_drewN _ _ _⟩ | exact ⟨rfl, _, Eq.trans (World.drewN_drewN _ _ _) (congrArg (World.drewN _) (Nat.add_assoc _ _ _))⟩)))
 repeat (go_quiet (first | ((with_reducible refine gate_dst (N := 1) rfl ?_); (try (refine gate_guard (by rfl) ?_; dsimp only)); refine box_event ?hg (N := 1) ?hd (cs := #[.slice A0_0 l0_0.length c0_0, .slice A0_1 l0_1.length c0_1]) (t := 25) ?hr ?_; (case hd => rfl); (case hg => rfl); (case hr => first | (go_simp; done) | (go_simp; rfl)); intro gb213 hg w4 hbox hb; have n0_ := Aside0.mk (below_step (bb_ HB) hb); have n1_ := Aside0.mk (hbox); have n2_ := Aside0.mk ((by rw [hg]; exact (below_size (bb_ HB)) : w.heap.size ≤ gb213)); have n3_ := Aside0.mk ((by rw [hg]; exact (below_size (bb_ HB)) : w.heap.size ≤ gb213)); clear HB; have HB := n0_; have BK213 := n1_; have GW213 := n2_; have GE213 := n3_; clear n0_ n1_ n2_ n3_; clear hb hbox hg; have hcz5_0 : w4.cell? ⟨gb213, 0, none⟩ = some (.slice A0_0 l0_0.length c0_0) := (blk_cell BK213.out 0).trans rfl; have hcz5_1 : w4.cell? ⟨gb213, 1, none⟩ = some (.slice A0_1 l0_1.length c0_1) := (blk_cell BK213.out 1).trans rfl; have hfz5_0 := blk_frozen BK213.out 0; have hfz5_1 := blk_frozen BK213.out 1) | (go_at_call 44; (with_reducible refine (cohousingref23_Flats.calls k _ _ l0_0 t214 _ ?side1 ?side2 A2.out).mono ?_); (case side1 => exact cc_ ((Kd.C_below HR0_0.out HB.out))); (case side2 => exact HC0_0.out); rintro e w' ⟨rfl, ⟨nd, rfl⟩⟩; (try first | exact ⟨rfl, _, World.drewN_drewN _ _ _⟩ | exact ⟨rfl, _, Eq.trans (World.drewN_drewN _ _ _) (congrArg (World.drewN _) (Nat.add_assoc _ _ _))⟩))); go_upto_region 2 with (first | ((with_reducible refine gate_dst (N := 1) rfl ?_); (try (refine gate_guard (by rfl) ?_; dsimp only)); refine box_event ?hg (N := 1) ?hd (cs := #[.slice A0_0 l0_0.length c0_0, .slice A0_1 l0_1.length c0_1]) (t := 25) ?hr ?_; (case hd => rfl); (case hg => rfl); (case hr => first | (go_simp; done) | (go_simp; rfl)); intro gb213 hg w4 hbox hb; have n0_ := Aside0.mk (below_step (bb_ HB) hb); have n1_ := Aside0.mk (hbox); have n2_ := Aside0.mk ((by rw [hg]; exact (below_size (bb_ HB)) : w.heap.size ≤ gb213)); have n3_ := Aside0.mk ((by rw [hg]; exact (below_size (bb_ HB)) : w.heap.size ≤ gb213)); clear HB; have HB := n0_; have BK213 := n1_; have GW213 := n2_; have GE213 := n3_; clear n0_ n1_ n2_ n3_; clear hb hbox hg; have hcz5_0 : w4.cell? ⟨gb213, 0, none⟩ = some (.slice A0_0 l0_0.length c0_0) := (blk_cell BK213.out 0).trans rfl; have hcz5_1 : w4.cell? ⟨gb213, 1, none⟩ = some (.slice A0_1 l0_1.length c0_1) := (blk_cell BK213.out 1).trans rfl; have hfz5_0 := blk_frozen BK213.out 0; have hfz5_1 := blk_frozen BK213.out 1) | (go_at_call 44; (with_reducible refine (cohousingref23_Flats.calls k _ _ l0_0 t214 _ ?side1 ?side2 A2.out).mono ?_); (case side1 => exact cc_ ((Kd.C_below HR0_0.out HB.out))); (case side2 => exact HC0_0.out); rintro e w' ⟨rfl, ⟨nd, rfl⟩⟩; (try first | exact ⟨rfl, _, World.drewN_drewN _ _ _⟩ | exact ⟨rfl, _, Eq.trans (World.drewN_drewN _ _ _) (congrArg (World.drewN _) (Nat.add_assoc _ _ _))⟩))))
 (try simp only [Act.put, sI_, s0_, sS_])
 go_cut [20] (fun v20 wc => ∃ (kq : Nat) (x20_2 : Bool), v20 = .bool x20_2 ∧ Aside0 (cohousingref23_Valid.j0 kq x20_2 l0_0 l0_1 = some r) ∧ Aside0 (kq ≤ k) ∧ Aside0 (wc.heap[gb213]? = some (.cells #[(.slice A0_0 l0_0.length c0_0), (.slice A0_1 l0_1.length c0_1)] 25 (0, 0))) ∧ Aside0 (Below w.heap.size w wc))
 case first =>
  have H := HC3.out
  clear HC3
  by_cases c6 : t214 = true
  ·subst c6
   have H1 : (cohousingref23_Valid.j0 k (decide ((l0_1.length : Int) > 64)) l0_0 l0_1) = some r := by rw [if_pos rfl] at H; exact H
   clear H
   have H := H1
   clear H1
   have H' := Aside0.mk H
   clear H
   have hcz7_0 : w4.cell? ⟨gb213, 0, none⟩ = some (.slice A0_0 l0_0.length c0_0) := (blk_cell BK213.out 0).trans rfl
   have hcz7_1 : w4.cell? ⟨gb213, 1, none⟩ = some (.slice A0_1 l0_1.length c0_1) := (blk_cell BK213.out 1).trans rfl
   have hfz7_0 := blk_frozen BK213.out 0
   have hfz7_1 := blk_frozen BK213.out 1
   go_wp2
   repeat (go_quiet (fail); try go_wp2)
   go_meet
   case rel => exact ⟨_, (decide ((l0_1.length : Int) > 64)), sd_, H', ⟨by first | omega | exact Nat.le_refl _⟩, ⟨by (with_reducible repeat (first | refine blk_drewN ?_ _ | refine blk_drew ?_ | refine blk_alloc ?_ _)); exact BK213.out⟩, ⟨by repeat (first | (with_reducible first | exact HB.out | apply below_alloc | apply pw_below_drewN | apply below_drew1 | refine below_set ?_ GE213.out) | exact HB.out)⟩⟩
  ·replace c6 := Bool.eq_false_iff.mpr c6
   subst c6
   have H1 : (cohousingref23_Valid.j0 k true l0_0 l0_1) = some r := by rw [if_neg (show ¬ (false = true) by decide)] at H; exact H
   clear H
   have H := H1
   clear H1
   have H' := Aside0.mk H
   clear H
   go_wp2
   repeat (go_quiet (fail); try go_wp2)
   go_meet
   case rel => exact ⟨_, (true), sd_, H', ⟨by first | omega | exact Nat.le_refl _⟩, ⟨by (with_reducible repeat (first | refine blk_drewN ?_ _ | refine blk_drew ?_ | refine blk_alloc ?_ _)); exact BK213.out⟩, ⟨by repeat (first | (with_reducible first | exact HB.out | apply below_alloc | apply pw_below_drewN | apply below_drew1 | refine below_set ?_ GE213.out) | exact HB.out)⟩⟩
 case rest =>
  clear HC3
  try clear c2
  try clear p2
  try clear c6
  try clear hcz5_0
  try clear hcz5_1
  try clear hcz7_0
  try clear hcz7_1
  try clear hfz5_0
  try clear hfz5_1
  try clear hfz7_0
  try clear hfz7_1
  obtain ⟨kq, x20_2, rfl, HA, HJ2, BK213, HB⟩ := hcut
  cases kq with
  | zero => exact absurd HA.out (by simp [cohousingref23_Valid.j0])
  | succ kj2 =>
   have H := HA.out
   clear HA
   simp only [cohousingref23_Valid.j0] at H
   by_cases c8 : x20_2 = true
   ·subst c8
    have H1 : (some false) = some r := by rw [if_pos rfl] at H; exact H
    clear H
    have H := H1
    clear H1
    obtain rfl := Option.some.inj H
    go_wp2
    repeat (go_quiet (fail); try go_wp2)
    go_ret
    exact ⟨ew_, by repeat (first | (with_reducible first | exact HB.out | apply below_alloc | apply pw_below_drewN | apply below_drew1 | refine below_set ?_ GE213.out) | exact HB.out)⟩
   ·replace c8 := Bool.eq_false_iff.mpr c8
    subst c8
    have H1 : (cohousingref23_Valid.l0 kj2 0 l0_0 l0_1) = some r := by rw [if_neg (show ¬ (false = true) by decide)] at H; exact H
    clear H
    have H := H1
    clear H1
    have H' := Aside0.mk H
    clear H
    go_wp2
    repeat (go_quiet (fail); try go_wp2)
    go_loopg [4] kj2 (fun kq v4 w' => ∃ (x4_2 : Int), v4 = .int .i64 x4_2 ∧ Aside0 (cohousingref23_Valid.l0 kq x4_2 l0_0 l0_1 = some r) ∧ Aside0 (kq ≤ kj2) ∧ Aside0 (w'.heap[gb213]? = some (.cells #[(.slice A0_0 l0_0.length c0_0), (.slice A0_1 l0_1.length c0_1)] 25 (0, 0))) ∧ Aside0 (Below w.heap.size w w'))
    case atStart => exact ⟨(0), sd_, H', ⟨Nat.le_refl _⟩, ⟨by (with_reducible repeat (first | refine blk_drewN ?_ _ | refine blk_drew ?_ | refine blk_alloc ?_ _)); exact BK213.out⟩, ⟨by repeat (first | (with_reducible first | exact HB.out | apply below_alloc | apply pw_below_drewN | apply below_drew1 | refine below_set ?_ GE213.out) | exact HB.out)⟩⟩
    case round =>
     clear H'
     try clear c2
     try clear p2
     try clear c6
     try clear c8
     try clear hcz5_0
     try clear hcz5_1
     try clear hcz7_0
     try clear hcz7_1
     try clear hfz5_0
     try clear hfz5_1
     try clear hfz7_0
     try clear hfz7_1
     try clear p2
     obtain ⟨x4_2, rfl, HA, HK2, BK213, HB⟩ := hrel
     cases gk with
     | zero => exact absurd HA.out (by simp [cohousingref23_Valid.l0])
     | succ k2 =>
      have H := HA.out
      clear HA
      simp only [cohousingref23_Valid.l0] at H
      by_cases c9 : x4_2 < (l0_1.length : Int)
      ·rw [if_pos c9] at H
       have c9b0 : decide (x4_2 < (l0_1.length : Int)) = true := decide_eq_true c9
       clear c9
       by_cases c10 : 0 ≤ x4_2
       ·rw [if_pos c10] at H
        have c10b0 : decide (0 ≤ x4_2) = true := decide_eq_true c10
        clear c10
        have HC11 := Aside0.mk H
        clear H
        have hcz12_0 : wr.cell? ⟨gb213, 0, none⟩ = some (.slice A0_0 l0_0.length c0_0) := (blk_cell BK213.out 0).trans rfl
        have hcz12_1 : wr.cell? ⟨gb213, 1, none⟩ = some (.slice A0_1 l0_1.length c0_1) := (blk_cell BK213.out 1).trans rfl
        have hfz12_0 := blk_frozen BK213.out 0
        have hfz12_1 := blk_frozen BK213.out 1
        have p215 : 0 ≤ (x4_2 : Int) := od_
        have q215 : x4_2 < (l0_1.length : Int) := od_
        obtain ⟨ad215, A215_2, c215_2, e215, hx215_0, hx215_1, hx215_2, hl215_2, hi215_2⟩ := at_T46 HR0_1.out x4_2 p215 q215
        cases e215
        replace hx215_0 := (HB.out.cell (World.block_lt_of_cell? w _ hx215_0)).trans hx215_0
        replace hx215_1 := (HB.out.cell (World.block_lt_of_cell? w _ hx215_1)).trans hx215_1
        replace hx215_2 := (HB.out.cell (World.block_lt_of_cell? w _ hx215_2)).trans hx215_2
        have HR215_2 := Aside0.mk hi215_2
        have HC215_2 := Aside0.mk hl215_2
        clear hi215_2 hl215_2
        replace p215 := eq_true p215
        replace q215 := eq_true q215
        go_upto_region 8 with (first | ((with_reducible refine gate_dst (N := 5) rfl ?_); (try (refine gate_guard (by rfl) ?_; dsimp only)); refine box_event ?hg (N := 5) ?hd (cs := #[.int .i64 0, .int .i64 0, .slice none 0 0]) (t := 46) ?hr ?_; (case hd => rfl); (case hg => rfl); (case hr => first | (go_simp; done) | (go_simp; rfl)); intro gb216 hg w13 hbox hb; have n0_ := Aside0.mk (blk_below (g := gb213) (o := .cells #[.slice A0_0 l0_0.length c0_0, .slice (some ad215) l0_1.length c0_1] 25 (0, 0)) (kk_ BK213) hb); have n1_ := Aside0.mk (below_step (bs_ HB GE213.out) hb); have n2_ := Aside0.mk (hbox); have n3_ := Aside0.mk ((by rw [hg]; exact (below_size (bs_ HB GE213.out)) : w.heap.size ≤ gb216)); have n4_ := Aside0.mk ((by rw [hg]; exact (below_size (bs_ HB GE213.out)) : w.heap.size ≤ gb216)); have n5_ := Aside0.mk ((by rw [hg]; exact Nat.ne_of_lt (blk_lt (g := gb213) (o := .cells #[.slice A0_0 l0_0.length c0_0, .slice (some ad215) l0_1.length c0_1] 25 (0, 0)) (kk_ BK213)) : gb213 ≠ gb216)); have n6_ := Aside0.mk ((by rw [hg]; exact Nat.ne_of_gt (blk_lt (g := gb213) (o := .cells #[.slice A0_0 l0_0.length c0_0, .slice (some ad215) l0_1.length c0_1] 25 (0, 0)) (kk_ BK213)) : gb216 ≠ gb213)); clear BK213; clear HB; have BK213 := n0_; have HB := n1_; have BK216 := n2_; have GW216 := n3_; have GE216 := n4_; have NB213_216 := n5_; have NB216_213 := n6_; clear n0_ n1_ n2_ n3_ n4_ n5_ n6_; clear hb hbox hg; have hnb14 := NB216_213.out; have hnc14 := NB213_216.out; have hcz15_0 : w13.cell? ⟨gb216, 0, none⟩ = some (.int .i64 0) := (blk_cell BK216.out 0).trans rfl; have hcz15_1 : w13.cell? ⟨gb216, 1, none⟩ = some (.int .i64 0) := (blk_cell BK216.out 1).trans rfl; have hcz15_2 : w13.cell? ⟨gb216, 2, none⟩ = some (.slice none 0 0) := (blk_cell BK216.out 2).trans rfl; have hfz15_0 := blk_frozen BK216.out 0; have hfz15_1 := blk_frozen BK216.out 1; have hfz15_2 := blk_frozen BK216.out 2))
        repeat (go_quiet (first | ((with_reducible refine gate_dst (N := 5) rfl ?_); (try (refine gate_guard (by rfl) ?_; dsimp only)); refine box_event ?hg (N := 5) ?hd (cs := #[.int .i64 0, .int .i64 0, .slice none 0 0]) (t := 46) ?hr ?_; (case hd => rfl); (case hg => rfl); (case hr => first | (go_simp; done) | (go_simp; rfl)); intro gb216 hg w13 hbox hb; have n0_ := Aside0.mk (blk_below (g := gb213) (o := .cells #[.slice A0_0 l0_0.length c0_0, .slice (some ad215) l0_1.length c0_1] 25 (0, 0)) (kk_ BK213) hb); have n1_ := Aside0.mk (below_step (bs_ HB GE213.out) hb); have n2_ := Aside0.mk (hbox); have n3_ := Aside0.mk ((by rw [hg]; exact (below_size (bs_ HB GE213.out)) : w.heap.size ≤ gb216)); have n4_ := Aside0.mk ((by rw [hg]; exact (below_size (bs_ HB GE213.out)) : w.heap.size ≤ gb216)); have n5_ := Aside0.mk ((by rw [hg]; exact Nat.ne_of_lt (blk_lt (g := gb213) (o := .cells #[.slice A0_0 l0_0.length c0_0, .slice (some ad215) l0_1.length c0_1] 25 (0, 0)) (kk_ BK213)) : gb213 ≠ gb216)); have n6_ := Aside0.mk ((by rw [hg]; exact Nat.ne_of_gt (blk_lt (g := gb213) (o := .cells #[.slice A0_0 l0_0.length c0_0, .slice (some ad215) l0_1.length c0_1] 25 (0, 0)) (kk_ BK213)) : gb216 ≠ gb213)); clear BK213; clear HB; have BK213 := n0_; have HB := n1_; have BK216 := n2_; have GW216 := n3_; have GE216 := n4_; have NB213_216 := n5_; have NB216_213 := n6_; clear n0_ n1_ n2_ n3_ n4_ n5_ n6_; clear hb hbox hg; have hnb14 := NB216_213.out; have hnc14 := NB213_216.out; have hcz15_0 : w13.cell? ⟨gb216, 0, none⟩ = some (.int .i64 0) := (blk_cell BK216.out 0).trans rfl; have hcz15_1 : w13.cell? ⟨gb216, 1, none⟩ = some (.int .i64 0) := (blk_cell BK216.out 1).trans rfl; have hcz15_2 : w13.cell? ⟨gb216, 2, none⟩ = some (.slice none 0 0) := (blk_cell BK216.out 2).trans rfl; have hfz15_0 := blk_frozen BK216.out 0; have hfz15_1 := blk_frozen BK216.out 1; have hfz15_2 := blk_frozen BK216.out 2)); go_upto_region 8 with (first | ((with_reducible refine gate_dst (N := 5) rfl ?_); (try (refine gate_guard (by rfl) ?_; dsimp only)); refine box_event ?hg (N := 5) ?hd (cs := #[.int .i64 0, .int .i64 0, .slice none 0 0]) (t := 46) ?hr ?_; (case hd => rfl); (case hg => rfl); (case hr => first | (go_simp; done) | (go_simp; rfl)); intro gb216 hg w13 hbox hb; have n0_ := Aside0.mk (blk_below (g := gb213) (o := .cells #[.slice A0_0 l0_0.length c0_0, .slice (some ad215) l0_1.length c0_1] 25 (0, 0)) (kk_ BK213) hb); have n1_ := Aside0.mk (below_step (bs_ HB GE213.out) hb); have n2_ := Aside0.mk (hbox); have n3_ := Aside0.mk ((by rw [hg]; exact (below_size (bs_ HB GE213.out)) : w.heap.size ≤ gb216)); have n4_ := Aside0.mk ((by rw [hg]; exact (below_size (bs_ HB GE213.out)) : w.heap.size ≤ gb216)); have n5_ := Aside0.mk ((by rw [hg]; exact Nat.ne_of_lt (blk_lt (g := gb213) (o := .cells #[.slice A0_0 l0_0.length c0_0, .slice (some ad215) l0_1.length c0_1] 25 (0, 0)) (kk_ BK213)) : gb213 ≠ gb216)); have n6_ := Aside0.mk ((by rw [hg]; exact Nat.ne_of_gt (blk_lt (g := gb213) (o := .cells #[.slice A0_0 l0_0.length c0_0, .slice (some ad215) l0_1.length c0_1] 25 (0, 0)) (kk_ BK213)) : gb216 ≠ gb213)); clear BK213; clear HB; have BK213 := n0_; have HB := n1_; have BK216 := n2_; have GW216 := n3_; have GE216 := n4_; have NB213_216 := n5_; have NB216_213 := n6_; clear n0_ n1_ n2_ n3_ n4_ n5_ n6_; clear hb hbox hg; have hnb14 := NB216_213.out; have hnc14 := NB213_216.out; have hcz15_0 : w13.cell? ⟨gb216, 0, none⟩ = some (.int .i64 0) := (blk_cell BK216.out 0).trans rfl; have hcz15_1 : w13.cell? ⟨gb216, 1, none⟩ = some (.int .i64 0) := (blk_cell BK216.out 1).trans rfl; have hcz15_2 : w13.cell? ⟨gb216, 2, none⟩ = some (.slice none 0 0) := (blk_cell BK216.out 2).trans rfl; have hfz15_0 := blk_frozen BK216.out 0; have hfz15_1 := blk_frozen BK216.out 1; have hfz15_2 := blk_frozen BK216.out 2)))
        (try simp only [Act.put, sI_, s0_, sS_])
        go_cut [56] (fun v56 wc => ∃ (kq : Nat) (x56_10 : Bool), v56 = .bool x56_10 ∧ Aside0 (cohousingref23_Valid.j2 kq x4_2 x56_10 l0_0 l0_1 ((rd_T46 l0_1 x4_2).f0) ((rd_T46 l0_1 x4_2).f1) ((rd_T46 l0_1 x4_2).f2) = some r) ∧ Aside0 (kq ≤ k2) ∧ Aside0 (wc.heap[gb213]? = some (.cells #[(.slice A0_0 l0_0.length c0_0), (.slice (some ad215) l0_1.length c0_1)] 25 (0, 0))) ∧ Aside0 (wc.heap[gb216]? = some (.cells #[.int .i64 ((rd_T46 l0_1 x4_2).f0), .int .i64 ((rd_T46 l0_1 x4_2).f1), (.slice A215_2 ((rd_T46 l0_1 x4_2).f2).length c215_2)] 46 (0, 0))) ∧ Aside0 (Below w.heap.size w wc))
        case first =>
         have H := HC11.out
         clear HC11
         by_cases c16 : ((rd_T46 l0_1 x4_2).f0) < 1
         ·rw [if_pos c16] at H
          have c16b0 : decide (((rd_T46 l0_1 x4_2).f0) < 1) = true := decide_eq_true c16
          clear c16
          (first | rw [c16b0] | (simp only [i64_w, i32_w]; rw [c16b0]) | skip)
          have H' := Aside0.mk H
          clear H
          have hnb17 := NB216_213.out
          have hnc17 := NB213_216.out
          have hcz18_0 : w13.cell? ⟨gb216, 0, none⟩ = some (.int .i64 0) := (blk_cell BK216.out 0).trans rfl
          have hcz18_1 : w13.cell? ⟨gb216, 1, none⟩ = some (.int .i64 0) := (blk_cell BK216.out 1).trans rfl
          have hcz18_2 : w13.cell? ⟨gb216, 2, none⟩ = some (.slice none 0 0) := (blk_cell BK216.out 2).trans rfl
          have hfz18_0 := blk_frozen BK216.out 0
          have hfz18_1 := blk_frozen BK216.out 1
          have hfz18_2 := blk_frozen BK216.out 2
          go_wp2
          repeat (go_quiet (fail); try go_wp2)
          go_meet
          case rel => exact ⟨_, (true), sd_, H', ⟨by have := HJ2.out; have := HK2.out; first | omega | exact Nat.le_refl _⟩, ⟨by (with_reducible repeat (first | refine blk_drewN ?_ _ | refine blk_drew ?_ | refine blk_alloc ?_ _)); refine blk_far ?_ NB213_216.out _; (with_reducible repeat (first | refine blk_drewN ?_ _ | refine blk_drew ?_ | refine blk_alloc ?_ _)); refine blk_far ?_ NB213_216.out _; (with_reducible repeat (first | refine blk_drewN ?_ _ | refine blk_drew ?_ | refine blk_alloc ?_ _)); refine blk_far ?_ NB213_216.out _; (with_reducible repeat (first | refine blk_drewN ?_ _ | refine blk_drew ?_ | refine blk_alloc ?_ _)); exact BK213.out⟩, ⟨by (with_reducible repeat (first | refine blk_drewN ?_ _ | refine blk_drew ?_ | refine blk_alloc ?_ _)); refine blk_put (cs := #[.int .i64 ((rd_T46 l0_1 x4_2).f0), .int .i64 ((rd_T46 l0_1 x4_2).f1), .slice none 0 0]) ?_ 2 _ rfl; (with_reducible repeat (first | refine blk_drewN ?_ _ | refine blk_drew ?_ | refine blk_alloc ?_ _)); refine blk_put (cs := #[.int .i64 ((rd_T46 l0_1 x4_2).f0), .int .i64 0, .slice none 0 0]) ?_ 1 _ rfl; (with_reducible repeat (first | refine blk_drewN ?_ _ | refine blk_drew ?_ | refine blk_alloc ?_ _)); refine blk_put (cs := #[.int .i64 0, .int .i64 0, .slice none 0 0]) ?_ 0 _ rfl; (with_reducible repeat (first | refine blk_drewN ?_ _ | refine blk_drew ?_ | refine blk_alloc ?_ _)); exact BK216.out⟩, ⟨by repeat (first | (with_reducible first | exact HB.out | apply below_alloc | apply pw_below_drewN | apply below_drew1 | refine below_set ?_ GE213.out | refine below_set ?_ GE216.out) | exact HB.out)⟩⟩
         ·rw [if_neg c16] at H
          have c16b0 : decide (((rd_T46 l0_1 x4_2).f0) < 1) = false := decide_eq_false c16
          clear c16
          (first | rw [c16b0] | (simp only [i64_w, i32_w]; rw [c16b0]) | skip)
          by_cases c19 : ((rd_T46 l0_1 x4_2).f0) > 64
          ·rw [if_pos c19] at H
           have c19b0 : decide (64 < ((rd_T46 l0_1 x4_2).f0)) = true := decide_eq_true c19
           clear c19
           have H' := Aside0.mk H
           clear H
           have hnb20 := NB216_213.out
           have hnc20 := NB213_216.out
           have hcz21_0 : w13.cell? ⟨gb216, 0, none⟩ = some (.int .i64 0) := (blk_cell BK216.out 0).trans rfl
           have hcz21_1 : w13.cell? ⟨gb216, 1, none⟩ = some (.int .i64 0) := (blk_cell BK216.out 1).trans rfl
           have hcz21_2 : w13.cell? ⟨gb216, 2, none⟩ = some (.slice none 0 0) := (blk_cell BK216.out 2).trans rfl
           have hfz21_0 := blk_frozen BK216.out 0
           have hfz21_1 := blk_frozen BK216.out 1
           have hfz21_2 := blk_frozen BK216.out 2
           go_wp2
           repeat (go_quiet (fail); try go_wp2)
           go_meet
           case rel => exact ⟨_, (true), sd_, H', ⟨by have := HJ2.out; have := HK2.out; first | omega | exact Nat.le_refl _⟩, ⟨by (with_reducible repeat (first | refine blk_drewN ?_ _ | refine blk_drew ?_ | refine blk_alloc ?_ _)); refine blk_far ?_ NB213_216.out _; (with_reducible repeat (first | refine blk_drewN ?_ _ | refine blk_drew ?_ | refine blk_alloc ?_ _)); refine blk_far ?_ NB213_216.out _; (with_reducible repeat (first | refine blk_drewN ?_ _ | refine blk_drew ?_ | refine blk_alloc ?_ _)); refine blk_far ?_ NB213_216.out _; (with_reducible repeat (first | refine blk_drewN ?_ _ | refine blk_drew ?_ | refine blk_alloc ?_ _)); exact BK213.out⟩, ⟨by (with_reducible repeat (first | refine blk_drewN ?_ _ | refine blk_drew ?_ | refine blk_alloc ?_ _)); refine blk_put (cs := #[.int .i64 ((rd_T46 l0_1 x4_2).f0), .int .i64 ((rd_T46 l0_1 x4_2).f1), .slice none 0 0]) ?_ 2 _ rfl; (with_reducible repeat (first | refine blk_drewN ?_ _ | refine blk_drew ?_ | refine blk_alloc ?_ _)); refine blk_put (cs := #[.int .i64 ((rd_T46 l0_1 x4_2).f0), .int .i64 0, .slice none 0 0]) ?_ 1 _ rfl; (with_reducible repeat (first | refine blk_drewN ?_ _ | refine blk_drew ?_ | refine blk_alloc ?_ _)); refine blk_put (cs := #[.int .i64 0, .int .i64 0, .slice none 0 0]) ?_ 0 _ rfl; (with_reducible repeat (first | refine blk_drewN ?_ _ | refine blk_drew ?_ | refine blk_alloc ?_ _)); exact BK216.out⟩, ⟨by repeat (first | (with_reducible first | exact HB.out | apply below_alloc | apply pw_below_drewN | apply below_drew1 | refine below_set ?_ GE213.out | refine below_set ?_ GE216.out) | exact HB.out)⟩⟩
          ·rw [if_neg c19] at H
           have c19b0 : decide (64 < ((rd_T46 l0_1 x4_2).f0)) = false := decide_eq_false c19
           clear c19
           by_cases c22 : x4_2 > 0
           ·rw [if_pos c22] at H
            have c22b0 : decide (0 < x4_2) = true := decide_eq_true c22
            clear c22
            obtain ⟨ji23, hji23⟩ : ∃ j_ : Int, (wrap64 (x4_2 - 1)) = j_ := ⟨_, rfl⟩
            replace H : (if 0 ≤ (ji23) then (if (ji23) < (l0_1.length : Int) then (cohousingref23_Valid.j2 k2 x4_2 (decide (((rd_T46 l0_1 x4_2).f0) ≤ ((rd_T46 l0_1 (ji23)).f0))) l0_0 l0_1 ((rd_T46 l0_1 x4_2).f0) ((rd_T46 l0_1 x4_2).f1) ((rd_T46 l0_1 x4_2).f2)) else (none)) else (none)) = some r := by first | (rw [hji23] at H; exact H) | (simp only [hji23] at H ⊢; exact H)
            have hji23w : (IntKind.i64.wrap (x4_2 - 1)) = ji23 := (i64_w _).trans hji23
            by_cases c24 : 0 ≤ (ji23)
            ·rw [if_pos c24] at H
             have c24b0 : decide (0 ≤ (ji23)) = true := decide_eq_true c24
             clear c24
             by_cases c25 : (ji23) < (l0_1.length : Int)
             ·rw [if_pos c25] at H
              have c25b0 : decide ((ji23) < (l0_1.length : Int)) = true := decide_eq_true c25
              clear c25
              have H' := Aside0.mk H
              clear H
              have hnb26 := NB216_213.out
              have hnc26 := NB213_216.out
              have hcz27_0 : w13.cell? ⟨gb216, 0, none⟩ = some (.int .i64 0) := (blk_cell BK216.out 0).trans rfl
              have hcz27_1 : w13.cell? ⟨gb216, 1, none⟩ = some (.int .i64 0) := (blk_cell BK216.out 1).trans rfl
              have hcz27_2 : w13.cell? ⟨gb216, 2, none⟩ = some (.slice none 0 0) := (blk_cell BK216.out 2).trans rfl
              have hfz27_0 := blk_frozen BK216.out 0
              have hfz27_1 := blk_frozen BK216.out 1
              have hfz27_2 := blk_frozen BK216.out 2
              have hcz28_0 : w13.cell? ⟨gb213, 0, none⟩ = some (.slice A0_0 l0_0.length c0_0) := (blk_cell BK213.out 0).trans rfl
              have hcz28_1 : w13.cell? ⟨gb213, 1, none⟩ = some (.slice (some ad215) l0_1.length c0_1) := (blk_cell BK213.out 1).trans rfl
              have hfz28_0 := blk_frozen BK213.out 0
              have hfz28_1 := blk_frozen BK213.out 1
              have p217 : 0 ≤ ((ji23) : Int) := od_
              have q217 : (ji23) < (l0_1.length : Int) := od_
              obtain ⟨ad217, A217_2, c217_2, e217, hx217_0, hx217_1, hx217_2, hl217_2, hi217_2⟩ := at_T46 HR0_1.out (ji23) p217 q217
              obtain rfl : ad215 = ad217 := (by injection e217)
              have hn217_0 : ad215.block ≠ gb216 := Nat.ne_of_lt (Nat.lt_of_lt_of_le (by have := World.block_lt_of_cell? _ _ hx217_0; first | rwa [add_block] at this | exact this) GW216.out)
              have hn217_1 : ad215.block ≠ gb216 := Nat.ne_of_lt (Nat.lt_of_lt_of_le (by have := World.block_lt_of_cell? _ _ hx217_0; first | rwa [add_block] at this | exact this) GW216.out)
              have hn217_2 : ad215.block ≠ gb216 := Nat.ne_of_lt (Nat.lt_of_lt_of_le (by have := World.block_lt_of_cell? _ _ hx217_0; first | rwa [add_block] at this | exact this) GW216.out)
              replace hx217_0 := (HB.out.cell (World.block_lt_of_cell? w _ hx217_0)).trans hx217_0
              replace hx217_1 := (HB.out.cell (World.block_lt_of_cell? w _ hx217_1)).trans hx217_1
              replace hx217_2 := (HB.out.cell (World.block_lt_of_cell? w _ hx217_2)).trans hx217_2
              have HR217_2 := Aside0.mk hi217_2
              have HC217_2 := Aside0.mk hl217_2
              clear hi217_2 hl217_2
              replace hx217_0 := (cell_far (p := ⟨gb216, 0, none⟩) (by first | (rw [add_block]; exact hn217_0) | (show (Addr.add _ _).block ≠ _; rw [add_block]; exact hn217_0) | exact hn217_0) (.int .i64 ((rd_T46 l0_1 x4_2).f0))).trans hx217_0
              replace hx217_1 := (cell_far (p := ⟨gb216, 0, none⟩) (by first | (rw [add_block]; exact hn217_0) | (show (Addr.add _ _).block ≠ _; rw [add_block]; exact hn217_0) | exact hn217_0) (.int .i64 ((rd_T46 l0_1 x4_2).f0))).trans hx217_1
              replace hx217_2 := (cell_far (p := ⟨gb216, 0, none⟩) (by first | (rw [add_block]; exact hn217_0) | (show (Addr.add _ _).block ≠ _; rw [add_block]; exact hn217_0) | exact hn217_0) (.int .i64 ((rd_T46 l0_1 x4_2).f0))).trans hx217_2
              replace hx217_0 := (cell_far (p := ⟨gb216, 1, none⟩) (by first | (rw [add_block]; exact hn217_1) | (show (Addr.add _ _).block ≠ _; rw [add_block]; exact hn217_1) | exact hn217_1) (.int .i64 ((rd_T46 l0_1 x4_2).f1))).trans hx217_0
              replace hx217_1 := (cell_far (p := ⟨gb216, 1, none⟩) (by first | (rw [add_block]; exact hn217_1) | (show (Addr.add _ _).block ≠ _; rw [add_block]; exact hn217_1) | exact hn217_1) (.int .i64 ((rd_T46 l0_1 x4_2).f1))).trans hx217_1
              replace hx217_2 := (cell_far (p := ⟨gb216, 1, none⟩) (by first | (rw [add_block]; exact hn217_1) | (show (Addr.add _ _).block ≠ _; rw [add_block]; exact hn217_1) | exact hn217_1) (.int .i64 ((rd_T46 l0_1 x4_2).f1))).trans hx217_2
              replace hx217_0 := (cell_far (p := ⟨gb216, 2, none⟩) (by first | (rw [add_block]; exact hn217_2) | (show (Addr.add _ _).block ≠ _; rw [add_block]; exact hn217_2) | exact hn217_2) (.slice A215_2 ((rd_T46 l0_1 x4_2).f2).length c215_2)).trans hx217_0
              replace hx217_1 := (cell_far (p := ⟨gb216, 2, none⟩) (by first | (rw [add_block]; exact hn217_2) | (show (Addr.add _ _).block ≠ _; rw [add_block]; exact hn217_2) | exact hn217_2) (.slice A215_2 ((rd_T46 l0_1 x4_2).f2).length c215_2)).trans hx217_1
              replace hx217_2 := (cell_far (p := ⟨gb216, 2, none⟩) (by first | (rw [add_block]; exact hn217_2) | (show (Addr.add _ _).block ≠ _; rw [add_block]; exact hn217_2) | exact hn217_2) (.slice A215_2 ((rd_T46 l0_1 x4_2).f2).length c215_2)).trans hx217_2
              (try have hy217_0 := fun (n_ : Nat) => (show (((((w13.drewN n_).setCell ⟨gb216, 0, none⟩ (.int .i64 ((rd_T46 l0_1 x4_2).f0))).setCell ⟨gb216, 1, none⟩ (.int .i64 ((rd_T46 l0_1 x4_2).f1))).setCell ⟨gb216, 2, none⟩ (.slice A215_2 ((rd_T46 l0_1 x4_2).f2).length c215_2))).cell? _ = some _ from hx217_0))
              (try have hy217_1 := fun (n_ : Nat) => (show (((((w13.drewN n_).setCell ⟨gb216, 0, none⟩ (.int .i64 ((rd_T46 l0_1 x4_2).f0))).setCell ⟨gb216, 1, none⟩ (.int .i64 ((rd_T46 l0_1 x4_2).f1))).setCell ⟨gb216, 2, none⟩ (.slice A215_2 ((rd_T46 l0_1 x4_2).f2).length c215_2))).cell? _ = some _ from hx217_1))
              (try have hy217_2 := fun (n_ : Nat) => (show (((((w13.drewN n_).setCell ⟨gb216, 0, none⟩ (.int .i64 ((rd_T46 l0_1 x4_2).f0))).setCell ⟨gb216, 1, none⟩ (.int .i64 ((rd_T46 l0_1 x4_2).f1))).setCell ⟨gb216, 2, none⟩ (.slice A215_2 ((rd_T46 l0_1 x4_2).f2).length c215_2))).cell? _ = some _ from hx217_2))
              clear hn217_0
              clear hn217_1
              clear hn217_2
              replace p217 := eq_true p217
              replace q217 := eq_true q217
              go_wp2
              repeat (go_quiet (fail); try go_wp2)
              go_meet
              case rel => exact ⟨_, (decide (((rd_T46 l0_1 x4_2).f0) ≤ ((rd_T46 l0_1 (ji23)).f0))), (by first | rfl | (simp; done) | (simp only [← hji23] <;> (first | rfl | simp)) | (simp [*]; done)), H', ⟨by have := HJ2.out; have := HK2.out; first | omega | exact Nat.le_refl _⟩, ⟨by (with_reducible repeat (first | refine blk_drewN ?_ _ | refine blk_drew ?_ | refine blk_alloc ?_ _)); refine blk_far ?_ NB213_216.out _; (with_reducible repeat (first | refine blk_drewN ?_ _ | refine blk_drew ?_ | refine blk_alloc ?_ _)); refine blk_far ?_ NB213_216.out _; (with_reducible repeat (first | refine blk_drewN ?_ _ | refine blk_drew ?_ | refine blk_alloc ?_ _)); refine blk_far ?_ NB213_216.out _; (with_reducible repeat (first | refine blk_drewN ?_ _ | refine blk_drew ?_ | refine blk_alloc ?_ _)); exact BK213.out⟩, ⟨by (with_reducible repeat (first | refine blk_drewN ?_ _ | refine blk_drew ?_ | refine blk_alloc ?_ _)); refine blk_put (cs := #[.int .i64 ((rd_T46 l0_1 x4_2).f0), .int .i64 ((rd_T46 l0_1 x4_2).f1), .slice none 0 0]) ?_ 2 _ rfl; (with_reducible repeat (first | refine blk_drewN ?_ _ | refine blk_drew ?_ | refine blk_alloc ?_ _)); refine blk_put (cs := #[.int .i64 ((rd_T46 l0_1 x4_2).f0), .int .i64 0, .slice none 0 0]) ?_ 1 _ rfl; (with_reducible repeat (first | refine blk_drewN ?_ _ | refine blk_drew ?_ | refine blk_alloc ?_ _)); refine blk_put (cs := #[.int .i64 0, .int .i64 0, .slice none 0 0]) ?_ 0 _ rfl; (with_reducible repeat (first | refine blk_drewN ?_ _ | refine blk_drew ?_ | refine blk_alloc ?_ _)); exact BK216.out⟩, ⟨by repeat (first | (with_reducible first | exact HB.out | apply below_alloc | apply pw_below_drewN | apply below_drew1 | refine below_set ?_ GE213.out | refine below_set ?_ GE216.out) | exact HB.out)⟩⟩
             ·rw [if_neg c25] at H
              exact absurd H (by simp)
            ·rw [if_neg c24] at H
             exact absurd H (by simp)
           ·rw [if_neg c22] at H
            have c22b0 : decide (0 < x4_2) = false := decide_eq_false c22
            clear c22
            have H' := Aside0.mk H
            clear H
            have hnb29 := NB216_213.out
            have hnc29 := NB213_216.out
            have hcz30_0 : w13.cell? ⟨gb216, 0, none⟩ = some (.int .i64 0) := (blk_cell BK216.out 0).trans rfl
            have hcz30_1 : w13.cell? ⟨gb216, 1, none⟩ = some (.int .i64 0) := (blk_cell BK216.out 1).trans rfl
            have hcz30_2 : w13.cell? ⟨gb216, 2, none⟩ = some (.slice none 0 0) := (blk_cell BK216.out 2).trans rfl
            have hfz30_0 := blk_frozen BK216.out 0
            have hfz30_1 := blk_frozen BK216.out 1
            have hfz30_2 := blk_frozen BK216.out 2
            go_wp2
            repeat (go_quiet (fail); try go_wp2)
            go_meet
            case rel => exact ⟨_, (false), sd_, H', ⟨by have := HJ2.out; have := HK2.out; first | omega | exact Nat.le_refl _⟩, ⟨by (with_reducible repeat (first | refine blk_drewN ?_ _ | refine blk_drew ?_ | refine blk_alloc ?_ _)); refine blk_far ?_ NB213_216.out _; (with_reducible repeat (first | refine blk_drewN ?_ _ | refine blk_drew ?_ | refine blk_alloc ?_ _)); refine blk_far ?_ NB213_216.out _; (with_reducible repeat (first | refine blk_drewN ?_ _ | refine blk_drew ?_ | refine blk_alloc ?_ _)); refine blk_far ?_ NB213_216.out _; (with_reducible repeat (first | refine blk_drewN ?_ _ | refine blk_drew ?_ | refine blk_alloc ?_ _)); exact BK213.out⟩, ⟨by (with_reducible repeat (first | refine blk_drewN ?_ _ | refine blk_drew ?_ | refine blk_alloc ?_ _)); refine blk_put (cs := #[.int .i64 ((rd_T46 l0_1 x4_2).f0), .int .i64 ((rd_T46 l0_1 x4_2).f1), .slice none 0 0]) ?_ 2 _ rfl; (with_reducible repeat (first | refine blk_drewN ?_ _ | refine blk_drew ?_ | refine blk_alloc ?_ _)); refine blk_put (cs := #[.int .i64 ((rd_T46 l0_1 x4_2).f0), .int .i64 0, .slice none 0 0]) ?_ 1 _ rfl; (with_reducible repeat (first | refine blk_drewN ?_ _ | refine blk_drew ?_ | refine blk_alloc ?_ _)); refine blk_put (cs := #[.int .i64 0, .int .i64 0, .slice none 0 0]) ?_ 0 _ rfl; (with_reducible repeat (first | refine blk_drewN ?_ _ | refine blk_drew ?_ | refine blk_alloc ?_ _)); exact BK216.out⟩, ⟨by repeat (first | (with_reducible first | exact HB.out | apply below_alloc | apply pw_below_drewN | apply below_drew1 | refine below_set ?_ GE213.out | refine below_set ?_ GE216.out) | exact HB.out)⟩⟩
        case rest =>
         clear HC11
         try clear c1
         try clear c2
         try clear p2
         try clear q2
         try clear hx2
         try clear c6
         try clear p6
         try clear c8
         try clear c9
         try clear c9b0
         try clear c10
         try clear c10b0
         try clear c14
         try clear c16
         try clear c16b0
         try clear c17
         try clear c19
         try clear c19b0
         try clear c20
         try clear c21
         try clear p21
         try clear q21
         try clear hx21
         try clear c22
         try clear c22b0
         try clear c24
         try clear c24b0
         try clear c25
         try clear c25b0
         try clear c26
         try clear c29
         try clear hcz12_0
         try clear hcz12_1
         try clear hcz15_0
         try clear hcz15_1
         try clear hcz15_2
         try clear hcz18_0
         try clear hcz18_1
         try clear hcz18_2
         try clear hcz21_0
         try clear hcz21_1
         try clear hcz21_2
         try clear hcz27_0
         try clear hcz27_1
         try clear hcz27_2
         try clear hcz28_0
         try clear hcz28_1
         try clear hcz30_0
         try clear hcz30_1
         try clear hcz30_2
         try clear hcz5_0
         try clear hcz5_1
         try clear hcz7_0
         try clear hcz7_1
         try clear hfz12_0
         try clear hfz12_1
         try clear hfz15_0
         try clear hfz15_1
         try clear hfz15_2
         try clear hfz18_0
         try clear hfz18_1
         try clear hfz18_2
         try clear hfz21_0
         try clear hfz21_1
         try clear hfz21_2
         try clear hfz27_0
         try clear hfz27_1
         try clear hfz27_2
         try clear hfz28_0
         try clear hfz28_1
         try clear hfz30_0
         try clear hfz30_1
         try clear hfz30_2
         try clear hfz5_0
         try clear hfz5_1
         try clear hfz7_0
         try clear hfz7_1
         try clear hx215_0
         try clear hx215_1
         try clear hx215_2
         try clear hx217_0
         try clear hx217_1
         try clear hx217_2
         try clear p2
         try clear p215
         try clear p217
         try clear q215
         try clear q217
         obtain ⟨kq, x56_10, rfl, HA, HJ10, BK213, BK216, HB⟩ := hcut
         cases kq with
         | zero => exact absurd HA.out (by simp [cohousingref23_Valid.j2])
         | succ kj10 =>
          have H := HA.out
          clear HA
          simp only [cohousingref23_Valid.j2] at H
          by_cases c31 : x56_10 = true
          ·subst c31
           have H1 : (some false) = some r := by rw [if_pos rfl] at H; exact H
           clear H
           have H := H1
           clear H1
           obtain rfl := Option.some.inj H
           go_wp2
           repeat (go_quiet (fail); try go_wp2)
           go_ret
           exact ⟨ew_, by repeat (first | (with_reducible first | exact HB.out | apply below_alloc | apply pw_below_drewN | apply below_drew1 | refine below_set ?_ GE213.out | refine below_set ?_ GE216.out) | exact HB.out)⟩
          ·replace c31 := Bool.eq_false_iff.mpr c31
           subst c31
           have H1 : ((cohousingref23_Has.f kj10 l0_0 ((rd_T46 l0_1 x4_2).f1)).bind fun t218 => (if ((rd_T46 l0_1 x4_2).f1) = 0 then (cohousingref23_Valid.j3 kj10 x4_2 false l0_0 l0_1 ((rd_T46 l0_1 x4_2).f0) ((rd_T46 l0_1 x4_2).f1) ((rd_T46 l0_1 x4_2).f2)) else (cohousingref23_Valid.j3 kj10 x4_2 (!t218) l0_0 l0_1 ((rd_T46 l0_1 x4_2).f0) ((rd_T46 l0_1 x4_2).f1) ((rd_T46 l0_1 x4_2).f2)))) = some r := by rw [if_neg (show ¬ (false = true) by decide)] at H; exact H
           clear H
           have H := H1
           clear H1
           replace H := Option.bind_eq_some_iff.mp H
           obtain ⟨t218, A320, H⟩ := H
           replace H : (if ((rd_T46 l0_1 x4_2).f1) = 0 then (cohousingref23_Valid.j3 kj10 x4_2 false l0_0 l0_1 ((rd_T46 l0_1 x4_2).f0) ((rd_T46 l0_1 x4_2).f1) ((rd_T46 l0_1 x4_2).f2)) else (cohousingref23_Valid.j3 kj10 x4_2 (!t218) l0_0 l0_1 ((rd_T46 l0_1 x4_2).f0) ((rd_T46 l0_1 x4_2).f1) ((rd_T46 l0_1 x4_2).f2))) = some r := H
           have A32 := Aside0.mk A320
           clear A320
           have HC33 := Aside0.mk H
           clear H
           have hnb34 := NB213_216.out
           have hnc34 := NB216_213.out
           have hcz35_0 : wc.cell? ⟨gb213, 0, none⟩ = some (.slice A0_0 l0_0.length c0_0) := (blk_cell BK213.out 0).trans rfl
           have hcz35_1 : wc.cell? ⟨gb213, 1, none⟩ = some (.slice (some ad215) l0_1.length c0_1) := (blk_cell BK213.out 1).trans rfl
           have hfz35_0 := blk_frozen BK213.out 0
           have hfz35_1 := blk_frozen BK213.out 1
           have hcz36_0 : wc.cell? ⟨gb216, 0, none⟩ = some (.int .i64 ((rd_T46 l0_1 x4_2).f0)) := (blk_cell BK216.out 0).trans rfl
           have hcz36_1 : wc.cell? ⟨gb216, 1, none⟩ = some (.int .i64 ((rd_T46 l0_1 x4_2).f1)) := (blk_cell BK216.out 1).trans rfl
           have hcz36_2 : wc.cell? ⟨gb216, 2, none⟩ = some (.slice A215_2 ((rd_T46 l0_1 x4_2).f2).length c215_2) := (blk_cell BK216.out 2).trans rfl
           have hfz36_0 := blk_frozen BK216.out 0
           have hfz36_1 := blk_frozen BK216.out 1
           have hfz36_2 := blk_frozen BK216.out 2
           go_upto_region 11 with (first | (go_at_call 45; (with_reducible refine (cohousingref23_Has.calls kj10 _ _ l0_0 ((rd_T46 l0_1 x4_2).f1) t218 _ ?side1 ?side2 A32.out).mono ?_); (case side1 => exact cc_ ((Kd.C_below HR0_0.out HB.out))); (case side2 => exact HC0_0.out); rintro e w' ⟨rfl, ⟨nd, rfl⟩⟩; (try first | exact ⟨rfl, _, World.drewN_drewN _ _ _⟩ | exact ⟨rfl, _, Eq.trans (World.drewN_drewN _ _ _) (congrArg (World.drewN _) (Nat.add_assoc _ _ _))⟩)))
           repeat (go_quiet (first | (go_at_call 45; (with_reducible refine (cohousingref23_Has.calls kj10 _ _ l0_0 ((rd_T46 l0_1 x4_2).f1) t218 _ ?side1 ?side2 A32.out).mono ?_); (case side1 => exact cc_ ((Kd.C_below HR0_0.out HB.out))); (case side2 => exact HC0_0.out); rintro e w' ⟨rfl, ⟨nd, rfl⟩⟩; (try first | exact ⟨rfl, _, World.drewN_drewN _ _ _⟩ | exact ⟨rfl, _, Eq.trans (World.drewN_drewN _ _ _) (congrArg (World.drewN _) (Nat.add_assoc _ _ _))⟩))); go_upto_region 11 with (first | (go_at_call 45; (with_reducible refine (cohousingref23_Has.calls kj10 _ _ l0_0 ((rd_T46 l0_1 x4_2).f1) t218 _ ?side1 ?side2 A32.out).mono ?_); (case side1 => exact cc_ ((Kd.C_below HR0_0.out HB.out))); (case side2 => exact HC0_0.out); rintro e w' ⟨rfl, ⟨nd, rfl⟩⟩; (try first | exact ⟨rfl, _, World.drewN_drewN _ _ _⟩ | exact ⟨rfl, _, Eq.trans (World.drewN_drewN _ _ _) (congrArg (World.drewN _) (Nat.add_assoc _ _ _))⟩))))
           (try simp only [Act.put, sI_, s0_, sS_])
           go_cut [68] (fun v68 wc => ∃ (kq : Nat) (x68_32 : Bool), v68 = .bool x68_32 ∧ Aside0 (cohousingref23_Valid.j3 kq x4_2 x68_32 l0_0 l0_1 ((rd_T46 l0_1 x4_2).f0) ((rd_T46 l0_1 x4_2).f1) ((rd_T46 l0_1 x4_2).f2) = some r) ∧ Aside0 (kq ≤ kj10) ∧ Aside0 (wc.heap[gb213]? = some (.cells #[(.slice A0_0 l0_0.length c0_0), (.slice (some ad215) l0_1.length c0_1)] 25 (0, 0))) ∧ Aside0 (wc.heap[gb216]? = some (.cells #[.int .i64 ((rd_T46 l0_1 x4_2).f0), .int .i64 ((rd_T46 l0_1 x4_2).f1), (.slice A215_2 ((rd_T46 l0_1 x4_2).f2).length c215_2)] 46 (0, 0))) ∧ Aside0 (Below w.heap.size w wc))
           case first =>
            have H := HC33.out
            clear HC33
            by_cases c37 : ((rd_T46 l0_1 x4_2).f1) = 0
            ·rw [if_pos c37] at H
             have c37b0 : (((rd_T46 l0_1 x4_2).f1) == 0) = true := beq_iff_eq.mpr c37
             have c37b1 : (((rd_T46 l0_1 x4_2).f1) != 0) = false := bne_eq_false_iff_eq.mpr c37
             clear c37
             (first | rw [c37b0] | (simp only [i64_w, i32_w]; rw [c37b0]) | skip)
             have H' := Aside0.mk H
             clear H
             have hnb38 := NB216_213.out
             have hnc38 := NB213_216.out
             have hcz39_0 : wc.cell? ⟨gb216, 0, none⟩ = some (.int .i64 ((rd_T46 l0_1 x4_2).f0)) := (blk_cell BK216.out 0).trans rfl
             have hcz39_1 : wc.cell? ⟨gb216, 1, none⟩ = some (.int .i64 ((rd_T46 l0_1 x4_2).f1)) := (blk_cell BK216.out 1).trans rfl
             have hcz39_2 : wc.cell? ⟨gb216, 2, none⟩ = some (.slice A215_2 ((rd_T46 l0_1 x4_2).f2).length c215_2) := (blk_cell BK216.out 2).trans rfl
             have hfz39_0 := blk_frozen BK216.out 0
             have hfz39_1 := blk_frozen BK216.out 1
             have hfz39_2 := blk_frozen BK216.out 2
             go_wp2
             repeat (go_quiet (fail); try go_wp2)
             go_meet
             case rel => exact ⟨_, (false), sd_, H', ⟨by have := HJ2.out; have := HK2.out; have := HJ10.out; first | omega | exact Nat.le_refl _⟩, ⟨by (with_reducible repeat (first | refine blk_drewN ?_ _ | refine blk_drew ?_ | refine blk_alloc ?_ _)); exact BK213.out⟩, ⟨by (with_reducible repeat (first | refine blk_drewN ?_ _ | refine blk_drew ?_ | refine blk_alloc ?_ _)); exact BK216.out⟩, ⟨by repeat (first | (with_reducible first | exact HB.out | apply below_alloc | apply pw_below_drewN | apply below_drew1 | refine below_set ?_ GE213.out | refine below_set ?_ GE216.out) | exact HB.out)⟩⟩
            ·rw [if_neg c37] at H
             have c37b0 : (((rd_T46 l0_1 x4_2).f1) == 0) = false := beq_eq_false_iff_ne.mpr c37
             have c37b1 : (((rd_T46 l0_1 x4_2).f1) != 0) = true := bne_iff_ne.mpr c37
             (first | rw [c37b0] | (simp only [i64_w, i32_w]; rw [c37b0]) | skip)
             have H' := Aside0.mk H
             clear H
             have hnb40 := NB216_213.out
             have hnc40 := NB213_216.out
             have hcz41_0 : wc.cell? ⟨gb216, 0, none⟩ = some (.int .i64 ((rd_T46 l0_1 x4_2).f0)) := (blk_cell BK216.out 0).trans rfl
             have hcz41_1 : wc.cell? ⟨gb216, 1, none⟩ = some (.int .i64 ((rd_T46 l0_1 x4_2).f1)) := (blk_cell BK216.out 1).trans rfl
             have hcz41_2 : wc.cell? ⟨gb216, 2, none⟩ = some (.slice A215_2 ((rd_T46 l0_1 x4_2).f2).length c215_2) := (blk_cell BK216.out 2).trans rfl
             have hfz41_0 := blk_frozen BK216.out 0
             have hfz41_1 := blk_frozen BK216.out 1
             have hfz41_2 := blk_frozen BK216.out 2
             go_wp2
             repeat (go_quiet (fail); try go_wp2)
             go_meet
             case rel => exact ⟨_, (!t218), sd_, H', ⟨by have := HJ2.out; have := HK2.out; have := HJ10.out; first | omega | exact Nat.le_refl _⟩, ⟨by (with_reducible repeat (first | refine blk_drewN ?_ _ | refine blk_drew ?_ | refine blk_alloc ?_ _)); exact BK213.out⟩, ⟨by (with_reducible repeat (first | refine blk_drewN ?_ _ | refine blk_drew ?_ | refine blk_alloc ?_ _)); exact BK216.out⟩, ⟨by repeat (first | (with_reducible first | exact HB.out | apply below_alloc | apply pw_below_drewN | apply below_drew1 | refine below_set ?_ GE213.out | refine below_set ?_ GE216.out) | exact HB.out)⟩⟩
           case rest =>
            clear HC33
            try clear c1
            try clear c2
            try clear p2
            try clear q2
            try clear hx2
            try clear c3
            try clear c4
            try clear c6
            try clear p6
            try clear c8
            try clear c9
            try clear c9b0
            try clear c10
            try clear c10b0
            try clear c14
            try clear c16
            try clear c16b0
            try clear c17
            try clear c19
            try clear c19b0
            try clear c20
            try clear c21
            try clear p21
            try clear q21
            try clear hx21
            try clear c22
            try clear c22b0
            try clear c24
            try clear c24b0
            try clear c25
            try clear c25b0
            try clear c26
            try clear c29
            try clear c31
            try clear c34
            try clear c37
            try clear c37b0
            try clear c37b1
            try clear c38
            try clear c40
            try clear hcz12_0
            try clear hcz12_1
            try clear hcz15_0
            try clear hcz15_1
            try clear hcz15_2
            try clear hcz18_0
            try clear hcz18_1
            try clear hcz18_2
            try clear hcz21_0
            try clear hcz21_1
            try clear hcz21_2
            try clear hcz27_0
            try clear hcz27_1
            try clear hcz27_2
            try clear hcz28_0
            try clear hcz28_1
            try clear hcz30_0
            try clear hcz30_1
            try clear hcz30_2
            try clear hcz35_0
            try clear hcz35_1
            try clear hcz36_0
            try clear hcz36_1
            try clear hcz36_2
            try clear hcz39_0
            try clear hcz39_1
            try clear hcz39_2
            try clear hcz41_0
            try clear hcz41_1
            try clear hcz41_2
            try clear hcz5_0
            try clear hcz5_1
            try clear hcz7_0
            try clear hcz7_1
            try clear hfz12_0
            try clear hfz12_1
            try clear hfz15_0
            try clear hfz15_1
            try clear hfz15_2
            try clear hfz18_0
            try clear hfz18_1
            try clear hfz18_2
            try clear hfz21_0
            try clear hfz21_1
            try clear hfz21_2
            try clear hfz27_0
            try clear hfz27_1
            try clear hfz27_2
            try clear hfz28_0
            try clear hfz28_1
            try clear hfz30_0
            try clear hfz30_1
            try clear hfz30_2
            try clear hfz35_0
            try clear hfz35_1
            try clear hfz36_0
            try clear hfz36_1
            try clear hfz36_2
            try clear hfz39_0
            try clear hfz39_1
            try clear hfz39_2
            try clear hfz41_0
            try clear hfz41_1
            try clear hfz41_2
            try clear hfz5_0
            try clear hfz5_1
            try clear hfz7_0
            try clear hfz7_1
            try clear hx215_0
            try clear hx215_1
            try clear hx215_2
            try clear hx217_0
            try clear hx217_1
            try clear hx217_2
            try clear p2
            try clear p21
            try clear p215
            try clear p217
            try clear p6
            try clear q2
            try clear q21
            try clear q215
            try clear q217
            obtain ⟨kq, x68_32, rfl, HA, HJ32, BK213, BK216, HB⟩ := hcut
            cases kq with
            | zero => exact absurd HA.out (by simp [cohousingref23_Valid.j3])
            | succ kj32 =>
             have H := HA.out
             clear HA
             simp only [cohousingref23_Valid.j3] at H
             by_cases c42 : x68_32 = true
             ·subst c42
              have H1 : (some false) = some r := by rw [if_pos rfl] at H; exact H
              clear H
              have H := H1
              clear H1
              obtain rfl := Option.some.inj H
              go_wp2
              repeat (go_quiet (fail); try go_wp2)
              go_ret
              exact ⟨ew_, by repeat (first | (with_reducible first | exact HB.out | apply below_alloc | apply pw_below_drewN | apply below_drew1 | refine below_set ?_ GE213.out | refine below_set ?_ GE216.out) | exact HB.out)⟩
             ·replace c42 := Bool.eq_false_iff.mpr c42
              subst c42
              have H1 : (cohousingref23_Valid.l1 kj32 x4_2 0 l0_0 l0_1 ((rd_T46 l0_1 x4_2).f0) ((rd_T46 l0_1 x4_2).f1) ((rd_T46 l0_1 x4_2).f2)) = some r := by rw [if_neg (show ¬ (false = true) by decide)] at H; exact H
              clear H
              have H := H1
              clear H1
              have H' := Aside0.mk H
              clear H
              go_wp2
              repeat (go_quiet (fail); try go_wp2)
              go_loopg [7] kj32 (fun kq v7 w' => ∃ (x7_5 : Int), v7 = .int .i64 x7_5 ∧ Aside0 (cohousingref23_Valid.l1 kq x4_2 x7_5 l0_0 l0_1 ((rd_T46 l0_1 x4_2).f0) ((rd_T46 l0_1 x4_2).f1) ((rd_T46 l0_1 x4_2).f2) = some r) ∧ Aside0 (kq ≤ kj32) ∧ Aside0 (w'.heap[gb213]? = some (.cells #[(.slice A0_0 l0_0.length c0_0), (.slice (some ad215) l0_1.length c0_1)] 25 (0, 0))) ∧ Aside0 (w'.heap[gb216]? = some (.cells #[.int .i64 ((rd_T46 l0_1 x4_2).f0), .int .i64 ((rd_T46 l0_1 x4_2).f1), (.slice A215_2 ((rd_T46 l0_1 x4_2).f2).length c215_2)] 46 (0, 0))) ∧ Aside0 (Below w.heap.size w w'))
              case atStart => exact ⟨(0), sd_, H', ⟨Nat.le_refl _⟩, ⟨by (with_reducible repeat (first | refine blk_drewN ?_ _ | refine blk_drew ?_ | refine blk_alloc ?_ _)); exact BK213.out⟩, ⟨by (with_reducible repeat (first | refine blk_drewN ?_ _ | refine blk_drew ?_ | refine blk_alloc ?_ _)); exact BK216.out⟩, ⟨by repeat (first | (with_reducible first | exact HB.out | apply below_alloc | apply pw_below_drewN | apply below_drew1 | refine below_set ?_ GE213.out | refine below_set ?_ GE216.out) | exact HB.out)⟩⟩
              case round =>
               clear H'
               try clear c1
               try clear c2
               try clear p2
               try clear q2
               try clear hx2
               try clear c3
               try clear c4
               try clear c6
               try clear p6
               try clear c8
               try clear c9
               try clear c9b0
               try clear c10
               try clear c10b0
               try clear c14
               try clear c16
               try clear c16b0
               try clear c17
               try clear c19
               try clear c19b0
               try clear c20
               try clear c21
               try clear p21
               try clear q21
               try clear hx21
               try clear c22
               try clear c22b0
               try clear c24
               try clear c24b0
               try clear c25
               try clear c25b0
               try clear c26
               try clear c29
               try clear c31
               try clear c34
               try clear c37
               try clear c37b0
               try clear c37b1
               try clear c38
               try clear c40
               try clear c42
               try clear hcz12_0
               try clear hcz12_1
               try clear hcz15_0
               try clear hcz15_1
               try clear hcz15_2
               try clear hcz18_0
               try clear hcz18_1
               try clear hcz18_2
               try clear hcz21_0
               try clear hcz21_1
               try clear hcz21_2
               try clear hcz27_0
               try clear hcz27_1
               try clear hcz27_2
               try clear hcz28_0
               try clear hcz28_1
               try clear hcz30_0
               try clear hcz30_1
               try clear hcz30_2
               try clear hcz35_0
               try clear hcz35_1
               try clear hcz36_0
               try clear hcz36_1
               try clear hcz36_2
               try clear hcz39_0
               try clear hcz39_1
               try clear hcz39_2
               try clear hcz41_0
               try clear hcz41_1
               try clear hcz41_2
               try clear hcz5_0
               try clear hcz5_1
               try clear hcz7_0
               try clear hcz7_1
               try clear hfz12_0
               try clear hfz12_1
               try clear hfz15_0
               try clear hfz15_1
               try clear hfz15_2
               try clear hfz18_0
               try clear hfz18_1
               try clear hfz18_2
               try clear hfz21_0
               try clear hfz21_1
               try clear hfz21_2
               try clear hfz27_0
               try clear hfz27_1
               try clear hfz27_2
               try clear hfz28_0
               try clear hfz28_1
               try clear hfz30_0
               try clear hfz30_1
               try clear hfz30_2
               try clear hfz35_0
               try clear hfz35_1
               try clear hfz36_0
               try clear hfz36_1
               try clear hfz36_2
               try clear hfz39_0
               try clear hfz39_1
               try clear hfz39_2
               try clear hfz41_0
               try clear hfz41_1
               try clear hfz41_2
               try clear hfz5_0
               try clear hfz5_1
               try clear hfz7_0
               try clear hfz7_1
               try clear hx215_0
               try clear hx215_1
               try clear hx215_2
               try clear hx217_0
               try clear hx217_1
               try clear hx217_2
               try clear p2
               try clear p21
               try clear p215
               try clear p217
               try clear p6
               try clear q2
               try clear q21
               try clear q215
               try clear q217
               obtain ⟨x7_5, rfl, HA, HK5, BK213, BK216, HB⟩ := hrel
               cases gk with
               | zero => exact absurd HA.out (by simp [cohousingref23_Valid.l1])
               | succ k5 =>
                have H := HA.out
                clear HA
                simp only [cohousingref23_Valid.l1] at H
                by_cases c43 : x7_5 < x4_2
                ·rw [if_pos c43] at H
                 have c43b0 : decide (x7_5 < x4_2) = true := decide_eq_true c43
                 clear c43
                 by_cases c44 : ((rd_T46 l0_1 x4_2).f1) = 0
                 ·rw [if_pos c44] at H
                  have c44b0 : (((rd_T46 l0_1 x4_2).f1) == 0) = true := beq_iff_eq.mpr c44
                  have c44b1 : (((rd_T46 l0_1 x4_2).f1) != 0) = false := bne_eq_false_iff_eq.mpr c44
                  clear c44
                  have H' := Aside0.mk H
                  clear H
                  have hnb45 := NB216_213.out
                  have hnc45 := NB213_216.out
                  have hcz46_0 : wr.cell? ⟨gb216, 0, none⟩ = some (.int .i64 ((rd_T46 l0_1 x4_2).f0)) := (blk_cell BK216.out 0).trans rfl
                  have hcz46_1 : wr.cell? ⟨gb216, 1, none⟩ = some (.int .i64 ((rd_T46 l0_1 x4_2).f1)) := (blk_cell BK216.out 1).trans rfl
                  have hcz46_2 : wr.cell? ⟨gb216, 2, none⟩ = some (.slice A215_2 ((rd_T46 l0_1 x4_2).f2).length c215_2) := (blk_cell BK216.out 2).trans rfl
                  have hfz46_0 := blk_frozen BK216.out 0
                  have hfz46_1 := blk_frozen BK216.out 1
                  have hfz46_2 := blk_frozen BK216.out 2
                  go_wp2
                  repeat (go_quiet (fail); try go_wp2)
                  go_roundg k5
                  case measure => have := HJ2.out; have := HK2.out; have := HJ10.out; have := HJ32.out; have := HK5.out; omega
                  case rel => exact ⟨(wrap64 (x7_5 + 1)), sd_, H', ⟨by have := HJ2.out; have := HK2.out; have := HJ10.out; have := HJ32.out; have := HK5.out; omega⟩, ⟨by (with_reducible repeat (first | refine blk_drewN ?_ _ | refine blk_drew ?_ | refine blk_alloc ?_ _)); exact BK213.out⟩, ⟨by (with_reducible repeat (first | refine blk_drewN ?_ _ | refine blk_drew ?_ | refine blk_alloc ?_ _)); exact BK216.out⟩, ⟨by repeat (first | (with_reducible first | exact HB.out | apply below_alloc | apply pw_below_drewN | apply below_drew1 | refine below_set ?_ GE213.out | refine below_set ?_ GE216.out) | exact HB.out)⟩⟩
                 ·rw [if_neg c44] at H
                  have c44b0 : (((rd_T46 l0_1 x4_2).f1) == 0) = false := beq_eq_false_iff_ne.mpr c44
                  have c44b1 : (((rd_T46 l0_1 x4_2).f1) != 0) = true := bne_iff_ne.mpr c44
                  by_cases c47 : 0 ≤ x7_5
                  ·rw [if_pos c47] at H
                   have c47b0 : decide (0 ≤ x7_5) = true := decide_eq_true c47
                   clear c47
                   by_cases c48 : x7_5 < (l0_1.length : Int)
                   ·rw [if_pos c48] at H
                    have c48b0 : decide (x7_5 < (l0_1.length : Int)) = true := decide_eq_true c48
                    clear c48
                    by_cases c49 : ((rd_T46 l0_1 x7_5).f1) = ((rd_T46 l0_1 x4_2).f1)
                    ·rw [if_pos c49] at H
                     have c49b0 : (((rd_T46 l0_1 x7_5).f1) == ((rd_T46 l0_1 x4_2).f1)) = true := beq_iff_eq.mpr c49
                     have c49b1 : (((rd_T46 l0_1 x7_5).f1) != ((rd_T46 l0_1 x4_2).f1)) = false := bne_eq_false_iff_eq.mpr c49
                     clear c49
                     obtain rfl := Option.some.inj H
                     have hnb50 := NB216_213.out
                     have hnc50 := NB213_216.out
                     have hcz51_0 : wr.cell? ⟨gb216, 0, none⟩ = some (.int .i64 ((rd_T46 l0_1 x4_2).f0)) := (blk_cell BK216.out 0).trans rfl
                     have hcz51_1 : wr.cell? ⟨gb216, 1, none⟩ = some (.int .i64 ((rd_T46 l0_1 x4_2).f1)) := (blk_cell BK216.out 1).trans rfl
                     have hcz51_2 : wr.cell? ⟨gb216, 2, none⟩ = some (.slice A215_2 ((rd_T46 l0_1 x4_2).f2).length c215_2) := (blk_cell BK216.out 2).trans rfl
                     have hfz51_0 := blk_frozen BK216.out 0
                     have hfz51_1 := blk_frozen BK216.out 1
                     have hfz51_2 := blk_frozen BK216.out 2
                     have hcz52_0 : wr.cell? ⟨gb213, 0, none⟩ = some (.slice A0_0 l0_0.length c0_0) := (blk_cell BK213.out 0).trans rfl
                     have hcz52_1 : wr.cell? ⟨gb213, 1, none⟩ = some (.slice (some ad215) l0_1.length c0_1) := (blk_cell BK213.out 1).trans rfl
                     have hfz52_0 := blk_frozen BK213.out 0
                     have hfz52_1 := blk_frozen BK213.out 1
                     have p219 : 0 ≤ (x7_5 : Int) := od_
                     have q219 : x7_5 < (l0_1.length : Int) := od_
                     obtain ⟨ad219, A219_2, c219_2, e219, hx219_0, hx219_1, hx219_2, hl219_2, hi219_2⟩ := at_T46 HR0_1.out x7_5 p219 q219
                     obtain rfl : ad215 = ad219 := (by injection e219)
                     replace hx219_0 := (HB.out.cell (World.block_lt_of_cell? w _ hx219_0)).trans hx219_0
                     replace hx219_1 := (HB.out.cell (World.block_lt_of_cell? w _ hx219_1)).trans hx219_1
                     replace hx219_2 := (HB.out.cell (World.block_lt_of_cell? w _ hx219_2)).trans hx219_2
                     have HR219_2 := Aside0.mk hi219_2
                     have HC219_2 := Aside0.mk hl219_2
                     clear hi219_2 hl219_2
                     replace p219 := eq_true p219
                     replace q219 := eq_true q219
                     go_wp2
                     repeat (go_quiet (fail); try go_wp2)
                     go_ret
                     exact ⟨ew_, by repeat (first | (with_reducible first | exact HB.out | apply below_alloc | apply pw_below_drewN | apply below_drew1 | refine below_set ?_ GE213.out | refine below_set ?_ GE216.out) | exact HB.out)⟩
                    ·rw [if_neg c49] at H
                     have c49b0 : (((rd_T46 l0_1 x7_5).f1) == ((rd_T46 l0_1 x4_2).f1)) = false := beq_eq_false_iff_ne.mpr c49
                     have c49b1 : (((rd_T46 l0_1 x7_5).f1) != ((rd_T46 l0_1 x4_2).f1)) = true := bne_iff_ne.mpr c49
                     have H' := Aside0.mk H
                     clear H
                     have hnb53 := NB216_213.out
                     have hnc53 := NB213_216.out
                     have hcz54_0 : wr.cell? ⟨gb216, 0, none⟩ = some (.int .i64 ((rd_T46 l0_1 x4_2).f0)) := (blk_cell BK216.out 0).trans rfl
                     have hcz54_1 : wr.cell? ⟨gb216, 1, none⟩ = some (.int .i64 ((rd_T46 l0_1 x4_2).f1)) := (blk_cell BK216.out 1).trans rfl
                     have hcz54_2 : wr.cell? ⟨gb216, 2, none⟩ = some (.slice A215_2 ((rd_T46 l0_1 x4_2).f2).length c215_2) := (blk_cell BK216.out 2).trans rfl
                     have hfz54_0 := blk_frozen BK216.out 0
                     have hfz54_1 := blk_frozen BK216.out 1
                     have hfz54_2 := blk_frozen BK216.out 2
                     have hcz55_0 : wr.cell? ⟨gb213, 0, none⟩ = some (.slice A0_0 l0_0.length c0_0) := (blk_cell BK213.out 0).trans rfl
                     have hcz55_1 : wr.cell? ⟨gb213, 1, none⟩ = some (.slice (some ad215) l0_1.length c0_1) := (blk_cell BK213.out 1).trans rfl
                     have hfz55_0 := blk_frozen BK213.out 0
                     have hfz55_1 := blk_frozen BK213.out 1
                     have p219 : 0 ≤ (x7_5 : Int) := od_
                     have q219 : x7_5 < (l0_1.length : Int) := od_
                     obtain ⟨ad219, A219_2, c219_2, e219, hx219_0, hx219_1, hx219_2, hl219_2, hi219_2⟩ := at_T46 HR0_1.out x7_5 p219 q219
                     obtain rfl : ad215 = ad219 := (by injection e219)
                     replace hx219_0 := (HB.out.cell (World.block_lt_of_cell? w _ hx219_0)).trans hx219_0
                     replace hx219_1 := (HB.out.cell (World.block_lt_of_cell? w _ hx219_1)).trans hx219_1
                     replace hx219_2 := (HB.out.cell (World.block_lt_of_cell? w _ hx219_2)).trans hx219_2
                     have HR219_2 := Aside0.mk hi219_2
                     have HC219_2 := Aside0.mk hl219_2
                     clear hi219_2 hl219_2
                     replace p219 := eq_true p219
                     replace q219 := eq_true q219
                     go_wp2
                     repeat (go_quiet (fail); try go_wp2)
                     go_roundg k5
                     case measure => have := HJ2.out; have := HK2.out; have := HJ10.out; have := HJ32.out; have := HK5.out; omega
                     case rel => exact ⟨(wrap64 (x7_5 + 1)), sd_, H', ⟨by have := HJ2.out; have := HK2.out; have := HJ10.out; have := HJ32.out; have := HK5.out; omega⟩, ⟨by (with_reducible repeat (first | refine blk_drewN ?_ _ | refine blk_drew ?_ | refine blk_alloc ?_ _)); exact BK213.out⟩, ⟨by (with_reducible repeat (first | refine blk_drewN ?_ _ | refine blk_drew ?_ | refine blk_alloc ?_ _)); exact BK216.out⟩, ⟨by repeat (first | (with_reducible first | exact HB.out | apply below_alloc | apply pw_below_drewN | apply below_drew1 | refine below_set ?_ GE213.out | refine below_set ?_ GE216.out) | exact HB.out)⟩⟩
                   ·rw [if_neg c48] at H
                    exact absurd H (by simp)
                  ·rw [if_neg c47] at H
                   exact absurd H (by simp)
                ·rw [if_neg c43] at H
                 have c43b0 : decide (x7_5 < x4_2) = false := decide_eq_false c43
                 clear c43
                 have H' := Aside0.mk H
                 clear H
                 go_wp2
                 repeat (go_quiet (fail); try go_wp2)
                 go_loopg [8] k5 (fun kq v8 w' => ∃ (x8_6 : Int), v8 = .int .i64 x8_6 ∧ Aside0 (cohousingref23_Valid.l2 kq x4_2 x8_6 l0_0 l0_1 ((rd_T46 l0_1 x4_2).f0) ((rd_T46 l0_1 x4_2).f1) ((rd_T46 l0_1 x4_2).f2) = some r) ∧ Aside0 (kq ≤ k5) ∧ Aside0 (w'.heap[gb213]? = some (.cells #[(.slice A0_0 l0_0.length c0_0), (.slice (some ad215) l0_1.length c0_1)] 25 (0, 0))) ∧ Aside0 (w'.heap[gb216]? = some (.cells #[.int .i64 ((rd_T46 l0_1 x4_2).f0), .int .i64 ((rd_T46 l0_1 x4_2).f1), (.slice A215_2 ((rd_T46 l0_1 x4_2).f2).length c215_2)] 46 (0, 0))) ∧ Aside0 (Below w.heap.size w w'))
                 case atStart => exact ⟨(0), sd_, H', ⟨Nat.le_refl _⟩, ⟨by (with_reducible repeat (first | refine blk_drewN ?_ _ | refine blk_drew ?_ | refine blk_alloc ?_ _)); exact BK213.out⟩, ⟨by (with_reducible repeat (first | refine blk_drewN ?_ _ | refine blk_drew ?_ | refine blk_alloc ?_ _)); exact BK216.out⟩, ⟨by repeat (first | (with_reducible first | exact HB.out | apply below_alloc | apply pw_below_drewN | apply below_drew1 | refine below_set ?_ GE213.out | refine below_set ?_ GE216.out) | exact HB.out)⟩⟩
                 case round =>
                  clear H'
                  try clear c1
                  try clear c2
                  try clear p2
                  try clear q2
                  try clear hx2
                  try clear c3
                  try clear c4
                  try clear c5
                  try clear c6
                  try clear p6
                  try clear c8
                  try clear c9
                  try clear c9b0
                  try clear c10
                  try clear c10b0
                  try clear c14
                  try clear c16
                  try clear c16b0
                  try clear c17
                  try clear c19
                  try clear c19b0
                  try clear c20
                  try clear c21
                  try clear p21
                  try clear q21
                  try clear hx21
                  try clear c22
                  try clear c22b0
                  try clear c24
                  try clear c24b0
                  try clear c25
                  try clear c25b0
                  try clear c26
                  try clear c29
                  try clear c31
                  try clear c34
                  try clear c37
                  try clear c37b0
                  try clear c37b1
                  try clear c38
                  try clear c40
                  try clear c42
                  try clear c43
                  try clear c43b0
                  try clear c44
                  try clear c44b0
                  try clear c44b1
                  try clear c45
                  try clear c47
                  try clear c47b0
                  try clear c48
                  try clear c48b0
                  try clear c49
                  try clear c49b0
                  try clear c49b1
                  try clear c50
                  try clear c53
                  try clear hcz12_0
                  try clear hcz12_1
                  try clear hcz15_0
                  try clear hcz15_1
                  try clear hcz15_2
                  try clear hcz18_0
                  try clear hcz18_1
                  try clear hcz18_2
                  try clear hcz21_0
                  try clear hcz21_1
                  try clear hcz21_2
                  try clear hcz27_0
                  try clear hcz27_1
                  try clear hcz27_2
                  try clear hcz28_0
                  try clear hcz28_1
                  try clear hcz30_0
                  try clear hcz30_1
                  try clear hcz30_2
                  try clear hcz35_0
                  try clear hcz35_1
                  try clear hcz36_0
                  try clear hcz36_1
                  try clear hcz36_2
                  try clear hcz39_0
                  try clear hcz39_1
                  try clear hcz39_2
                  try clear hcz41_0
                  try clear hcz41_1
                  try clear hcz41_2
                  try clear hcz46_0
                  try clear hcz46_1
                  try clear hcz46_2
                  try clear hcz51_0
                  try clear hcz51_1
                  try clear hcz51_2
                  try clear hcz52_0
                  try clear hcz52_1
                  try clear hcz54_0
                  try clear hcz54_1
                  try clear hcz54_2
                  try clear hcz55_0
                  try clear hcz55_1
                  try clear hcz5_0
                  try clear hcz5_1
                  try clear hcz7_0
                  try clear hcz7_1
                  try clear hfz12_0
                  try clear hfz12_1
                  try clear hfz15_0
                  try clear hfz15_1
                  try clear hfz15_2
                  try clear hfz18_0
                  try clear hfz18_1
                  try clear hfz18_2
                  try clear hfz21_0
                  try clear hfz21_1
                  try clear hfz21_2
                  try clear hfz27_0
                  try clear hfz27_1
                  try clear hfz27_2
                  try clear hfz28_0
                  try clear hfz28_1
                  try clear hfz30_0
                  try clear hfz30_1
                  try clear hfz30_2
                  try clear hfz35_0
                  try clear hfz35_1
                  try clear hfz36_0
                  try clear hfz36_1
                  try clear hfz36_2
                  try clear hfz39_0
                  try clear hfz39_1
                  try clear hfz39_2
                  try clear hfz41_0
                  try clear hfz41_1
                  try clear hfz41_2
                  try clear hfz46_0
                  try clear hfz46_1
                  try clear hfz46_2
                  try clear hfz51_0
                  try clear hfz51_1
                  try clear hfz51_2
                  try clear hfz52_0
                  try clear hfz52_1
                  try clear hfz54_0
                  try clear hfz54_1
                  try clear hfz54_2
                  try clear hfz55_0
                  try clear hfz55_1
                  try clear hfz5_0
                  try clear hfz5_1
                  try clear hfz7_0
                  try clear hfz7_1
                  try clear hx215_0
                  try clear hx215_1
                  try clear hx215_2
                  try clear hx217_0
                  try clear hx217_1
                  try clear hx217_2
                  try clear hx219_0
                  try clear hx219_1
                  try clear hx219_2
                  try clear p2
                  try clear p21
                  try clear p215
                  try clear p217
                  try clear p219
                  try clear p6
                  try clear q2
                  try clear q21
                  try clear q215
                  try clear q217
                  try clear q219
                  obtain ⟨x8_6, rfl, HA, HK6, BK213, BK216, HB⟩ := hrel
                  cases gk with
                  | zero => exact absurd HA.out (by simp [cohousingref23_Valid.l2])
                  | succ k6 =>
                   have H := HA.out
                   clear HA
                   simp only [cohousingref23_Valid.l2] at H
                   by_cases c56 : x8_6 < (((rd_T46 l0_1 x4_2).f2).length : Int)
                   ·rw [if_pos c56] at H
                    have c56b0 : decide (x8_6 < (((rd_T46 l0_1 x4_2).f2).length : Int)) = true := decide_eq_true c56
                    clear c56
                    by_cases c57 : 0 ≤ x8_6
                    ·rw [if_pos c57] at H
                     have c57b0 : decide (0 ≤ x8_6) = true := decide_eq_true c57
                     clear c57
                     replace H := Option.bind_eq_some_iff.mp H
                     obtain ⟨t221, A580, H⟩ := H
                     replace H : (if t221 = true then ((cohousingref23_In.f k6 ((rd_T46 l0_1 x4_2).f2) (rd ((rd_T46 l0_1 x4_2).f2) x8_6)).bind fun t223 => (if t223 = x8_6 then (cohousingref23_Valid.l2 k6 x4_2 (wrap64 (x8_6 + 1)) l0_0 l0_1 ((rd_T46 l0_1 x4_2).f0) ((rd_T46 l0_1 x4_2).f1) ((rd_T46 l0_1 x4_2).f2)) else (some false))) else (some false)) = some r := H
                     have A58 := Aside0.mk A580
                     clear A580
                     by_cases c59 : t221 = true
                     ·subst c59
                      have H1 : ((cohousingref23_In.f k6 ((rd_T46 l0_1 x4_2).f2) (rd ((rd_T46 l0_1 x4_2).f2) x8_6)).bind fun t223 => (if t223 = x8_6 then (cohousingref23_Valid.l2 k6 x4_2 (wrap64 (x8_6 + 1)) l0_0 l0_1 ((rd_T46 l0_1 x4_2).f0) ((rd_T46 l0_1 x4_2).f1) ((rd_T46 l0_1 x4_2).f2)) else (some false))) = some r := by rw [if_pos rfl] at H; exact H
                      clear H
                      have H := H1
                      clear H1
                      replace H := Option.bind_eq_some_iff.mp H
                      obtain ⟨t223, A600, H⟩ := H
                      replace H : (if t223 = x8_6 then (cohousingref23_Valid.l2 k6 x4_2 (wrap64 (x8_6 + 1)) l0_0 l0_1 ((rd_T46 l0_1 x4_2).f0) ((rd_T46 l0_1 x4_2).f1) ((rd_T46 l0_1 x4_2).f2)) else (some false)) = some r := H
                      have A60 := Aside0.mk A600
                      clear A600
                      by_cases c61 : t223 = x8_6
                      ·rw [if_pos c61] at H
                       have c61b0 : (t223 == x8_6) = true := beq_iff_eq.mpr c61
                       have c61b1 : (t223 != x8_6) = false := bne_eq_false_iff_eq.mpr c61
                       clear c61
                       have H' := Aside0.mk H
                       clear H
                       have hnb62 := NB216_213.out
                       have hnc62 := NB213_216.out
                       have hcz63_0 : wr.cell? ⟨gb216, 0, none⟩ = some (.int .i64 ((rd_T46 l0_1 x4_2).f0)) := (blk_cell BK216.out 0).trans rfl
                       have hcz63_1 : wr.cell? ⟨gb216, 1, none⟩ = some (.int .i64 ((rd_T46 l0_1 x4_2).f1)) := (blk_cell BK216.out 1).trans rfl
                       have hcz63_2 : wr.cell? ⟨gb216, 2, none⟩ = some (.slice A215_2 ((rd_T46 l0_1 x4_2).f2).length c215_2) := (blk_cell BK216.out 2).trans rfl
                       have hfz63_0 := blk_frozen BK216.out 0
                       have hfz63_1 := blk_frozen BK216.out 1
                       have hfz63_2 := blk_frozen BK216.out 2
                       have hcz64_0 : wr.cell? ⟨gb213, 0, none⟩ = some (.slice A0_0 l0_0.length c0_0) := (blk_cell BK213.out 0).trans rfl
                       have hcz64_1 : wr.cell? ⟨gb213, 1, none⟩ = some (.slice (some ad215) l0_1.length c0_1) := (blk_cell BK213.out 1).trans rfl
                       have hfz64_0 := blk_frozen BK213.out 0
                       have hfz64_1 := blk_frozen BK213.out 1
                       have p220 : 0 ≤ (x8_6 : Int) := od_
                       have q220 : x8_6 < (((rd_T46 l0_1 x4_2).f2).length : Int) := od_
                       obtain ⟨ad220, e220, hx220_0⟩ := Kd.at_int HR215_2.out x8_6 p220 q220
                       cases e220
                       replace hx220_0 := (HB.out.cell (World.block_lt_of_cell? w _ hx220_0)).trans hx220_0
                       replace p220 := eq_true p220
                       replace q220 := eq_true q220
                       go_wp2_with (first | (go_at_call 45; (with_reducible refine (cohousingref23_Has.calls k6 _ _ l0_0 (rd ((rd_T46 l0_1 x4_2).f2) x8_6) true _ ?side1 ?side2 A58.out).mono ?_); (case side1 => exact cc_ ((Kd.C_below HR0_0.out HB.out))); (case side2 => exact HC0_0.out); rintro e w' ⟨rfl, ⟨nd, rfl⟩⟩; (try first | exact ⟨rfl, _, World.drewN_drewN _ _ _⟩ | exact ⟨rfl, _, Eq.trans (World.drewN_drewN _ _ _) (congrArg (World.drewN _) (Nat.add_assoc _ _ _))⟩); have p222 : 0 ≤ (x8_6 : Int) := od_; have q222 : x8_6 < (((rd_T46 l0_1 x4_2).f2).length : Int) := od_; obtain ⟨ad222, e222, hx222_0⟩ := Kd.at_int HR215_2.out x8_6 p222 q222; obtain rfl : ad220 = ad222 := (by injection e222); replace hx222_0 := (HB.out.cell (World.block_lt_of_cell? w _ hx222_0)).trans hx222_0; replace p222 := eq_true p222; replace q222 := eq_true q222) | (go_at_call 24; (with_reducible refine (cohousingref23_In.calls k6 _ _ ((rd_T46 l0_1 x4_2).f2) (rd ((rd_T46 l0_1 x4_2).f2) x8_6) t223 _ ?side1 ?side2 A60.out).mono ?_); (case side1 => repeat (first | exact (Kd.C_below HR215_2.out (by repeat (first | (with_reducible first | exact HB.out | apply below_alloc | apply pw_below_drewN | apply below_drew1 | refine below_set ?_ GE213.out | refine below_set ?_ GE216.out) | exact HB.out))) | (with_reducible refine Kd.C_alloc ?_ _) | (with_reducible refine Kd.C_drewN ?_ _) | (with_reducible refine Kd.C_drew ?_))); (case side2 => exact HC215_2.out); rintro e w' ⟨rfl, ⟨nd, rfl⟩⟩; (try first | exact ⟨rfl, _, World.drewN_drewN _ _ _⟩ | exact ⟨rfl, _, Eq.trans (World.drewN_drewN _ _ _) (congrArg (World.drewN _) (Nat.add_assoc _ _ _))⟩)))
                       repeat (go_quiet (first | (go_at_call 45; (with_reducible refine (cohousingref23_Has.calls k6 _ _ l0_0 (rd ((rd_T46 l0_1 x4_2).f2) x8_6) true _ ?side1 ?side2 A58.out).mono ?_); (case side1 => exact cc_ ((Kd.C_below HR0_0.out HB.out))); (case side2 => exact HC0_0.out); rintro e w' ⟨rfl, ⟨nd, rfl⟩⟩; (try first | exact ⟨rfl, _, World.drewN_drewN _ _ _⟩ | exact ⟨rfl, _, Eq.trans (World.drewN_drewN _ _ _) (congrArg (World.drewN _) (Nat.add_assoc _ _ _))⟩); have p222 : 0 ≤ (x8_6 : Int) := od_; have q222 : x8_6 < (((rd_T46 l0_1 x4_2).f2).length : Int) := od_; obtain ⟨ad222, e222, hx222_0⟩ := Kd.at_int HR215_2.out x8_6 p222 q222; obtain rfl : ad220 = ad222 := (by injection e222); replace hx222_0 := (HB.out.cell (World.block_lt_of_cell? w _ hx222_0)).trans hx222_0; replace p222 := eq_true p222; replace q222 := eq_true q222) | (go_at_call 24; (with_reducible refine (cohousingref23_In.calls k6 _ _ ((rd_T46 l0_1 x4_2).f2) (rd ((rd_T46 l0_1 x4_2).f2) x8_6) t223 _ ?side1 ?side2 A60.out).mono ?_); (case side1 => repeat (first | exact (Kd.C_below HR215_2.out (by repeat (first | (with_reducible first | exact HB.out | apply below_alloc | apply pw_below_drewN | apply below_drew1 | refine below_set ?_ GE213.out | refine below_set ?_ GE216.out) | exact HB.out))) | (with_reducible refine Kd.C_alloc ?_ _) | (with_reducible refine Kd.C_drewN ?_ _) | (with_reducible refine Kd.C_drew ?_))); (case side2 => exact HC215_2.out); rintro e w' ⟨rfl, ⟨nd, rfl⟩⟩; (try first | exact ⟨rfl, _, World.drewN_drewN _ _ _⟩ | exact ⟨rfl, _, Eq.trans (World.drewN_drewN _ _ _) (congrArg (World.drewN _) (Nat.add_assoc _ _ _))⟩))); try go_wp2_with (first | (go_at_call 45; (with_reducible refine (cohousingref23_Has.calls k6 _ _ l0_0 (rd ((rd_T46 l0_1 x4_2).f2) x8_6) true _ ?side1 ?side2 A58.out).mono ?_); (case side1 => exact cc_ ((Kd.C_below HR0_0.out HB.out))); (case side2 => exact HC0_0.out); rintro e w' ⟨rfl, ⟨nd, rfl⟩⟩; (try first | exact ⟨rfl, _, World.drewN_drewN _ _ _⟩ | exact ⟨rfl, _, Eq.trans (World.drewN_drewN _ _ _) (congrArg (World.drewN _) (Nat.add_assoc _ _ _))⟩); have p222 : 0 ≤ (x8_6 : Int) := od_; have q222 : x8_6 < (((rd_T46 l0_1 x4_2).f2).length : Int) := od_; obtain ⟨ad222, e222, hx222_0⟩ := Kd.at_int HR215_2.out x8_6 p222 q222; obtain rfl : ad220 = ad222 := (by injection e222); replace hx222_0 := (HB.out.cell (World.block_lt_of_cell? w _ hx222_0)).trans hx222_0; replace p222 := eq_true p222; replace q222 := eq_true q222) | (go_at_call 24; (with_reducible refine (cohousingref23_In.calls k6 _ _ ((rd_T46 l0_1 x4_2).f2) (rd ((rd_T46 l0_1 x4_2).f2) x8_6) t223 _ ?side1 ?side2 A60.out).mono ?_); (case side1 => repeat (first | exact (Kd.C_below HR215_2.out (by repeat (first | (with_reducible first | exact HB.out | apply below_alloc | apply pw_below_drewN | apply below_drew1 | refine below_set ?_ GE213.out | refine below_set ?_ GE216.out) | exact HB.out))) | (with_reducible refine Kd.C_alloc ?_ _) | (with_reducible refine Kd.C_drewN ?_ _) | (with_reducible refine Kd.C_drew ?_))); (case side2 => exact HC215_2.out); rintro e w' ⟨rfl, ⟨nd, rfl⟩⟩; (try first | exact ⟨rfl, _, World.drewN_drewN _ _ _⟩ | exact ⟨rfl, _, Eq.trans (World.drewN_drewN _ _ _) (congrArg (World.drewN _) (Nat.add_assoc _ _ _))⟩))))
                       go_roundg k6
                       case measure => have := HJ2.out; have := HK2.out; have := HJ10.out; have := HJ32.out; have := HK5.out; have := HK6.out; omega
                       case rel => exact ⟨(wrap64 (x8_6 + 1)), sd_, H', ⟨by have := HJ2.out; have := HK2.out; have := HJ10.out; have := HJ32.out; have := HK5.out; have := HK6.out; omega⟩, ⟨by (with_reducible repeat (first | refine blk_drewN ?_ _ | refine blk_drew ?_ | refine blk_alloc ?_ _)); exact BK213.out⟩, ⟨by (with_reducible repeat (first | refine blk_drewN ?_ _ | refine blk_drew ?_ | refine blk_alloc ?_ _)); exact BK216.out⟩, ⟨by repeat (first | (with_reducible first | exact HB.out | apply below_alloc | apply pw_below_drewN | apply below_drew1 | refine below_set ?_ GE213.out | refine below_set ?_ GE216.out) | exact HB.out)⟩⟩
                      ·rw [if_neg c61] at H
                       have c61b0 : (t223 == x8_6) = false := beq_eq_false_iff_ne.mpr c61
                       have c61b1 : (t223 != x8_6) = true := bne_iff_ne.mpr c61
                       obtain rfl := Option.some.inj H
                       have hnb65 := NB216_213.out
                       have hnc65 := NB213_216.out
                       have hcz66_0 : wr.cell? ⟨gb216, 0, none⟩ = some (.int .i64 ((rd_T46 l0_1 x4_2).f0)) := (blk_cell BK216.out 0).trans rfl
                       have hcz66_1 : wr.cell? ⟨gb216, 1, none⟩ = some (.int .i64 ((rd_T46 l0_1 x4_2).f1)) := (blk_cell BK216.out 1).trans rfl
                       have hcz66_2 : wr.cell? ⟨gb216, 2, none⟩ = some (.slice A215_2 ((rd_T46 l0_1 x4_2).f2).length c215_2) := (blk_cell BK216.out 2).trans rfl
                       have hfz66_0 := blk_frozen BK216.out 0
                       have hfz66_1 := blk_frozen BK216.out 1
                       have hfz66_2 := blk_frozen BK216.out 2
                       have hcz67_0 : wr.cell? ⟨gb213, 0, none⟩ = some (.slice A0_0 l0_0.length c0_0) := (blk_cell BK213.out 0).trans rfl
                       have hcz67_1 : wr.cell? ⟨gb213, 1, none⟩ = some (.slice (some ad215) l0_1.length c0_1) := (blk_cell BK213.out 1).trans rfl
                       have hfz67_0 := blk_frozen BK213.out 0
                       have hfz67_1 := blk_frozen BK213.out 1
                       have p220 : 0 ≤ (x8_6 : Int) := od_
                       have q220 : x8_6 < (((rd_T46 l0_1 x4_2).f2).length : Int) := od_
                       obtain ⟨ad220, e220, hx220_0⟩ := Kd.at_int HR215_2.out x8_6 p220 q220
                       cases e220
                       replace hx220_0 := (HB.out.cell (World.block_lt_of_cell? w _ hx220_0)).trans hx220_0
                       replace p220 := eq_true p220
                       replace q220 := eq_true q220
                       go_wp2_with (first | (go_at_call 45; (with_reducible refine (cohousingref23_Has.calls k6 _ _ l0_0 (rd ((rd_T46 l0_1 x4_2).f2) x8_6) true _ ?side1 ?side2 A58.out).mono ?_); (case side1 => exact cc_ ((Kd.C_below HR0_0.out HB.out))); (case side2 => exact HC0_0.out); rintro e w' ⟨rfl, ⟨nd, rfl⟩⟩; (try first | exact ⟨rfl, _, World.drewN_drewN _ _ _⟩ | exact ⟨rfl, _, Eq.trans (World.drewN_drewN _ _ _) (congrArg (World.drewN _) (Nat.add_assoc _ _ _))⟩); have p222 : 0 ≤ (x8_6 : Int) := od_; have q222 : x8_6 < (((rd_T46 l0_1 x4_2).f2).length : Int) := od_; obtain ⟨ad222, e222, hx222_0⟩ := Kd.at_int HR215_2.out x8_6 p222 q222; obtain rfl : ad220 = ad222 := (by injection e222); replace hx222_0 := (HB.out.cell (World.block_lt_of_cell? w _ hx222_0)).trans hx222_0; replace p222 := eq_true p222; replace q222 := eq_true q222) | (go_at_call 24; (with_reducible refine (cohousingref23_In.calls k6 _ _ ((rd_T46 l0_1 x4_2).f2) (rd ((rd_T46 l0_1 x4_2).f2) x8_6) t223 _ ?side1 ?side2 A60.out).mono ?_); (case side1 => repeat (first | exact (Kd.C_below HR215_2.out (by repeat (first | (with_reducible first | exact HB.out | apply below_alloc | apply pw_below_drewN | apply below_drew1 | refine below_set ?_ GE213.out | refine below_set ?_ GE216.out) | exact HB.out))) | (with_reducible refine Kd.C_alloc ?_ _) | (with_reducible refine Kd.C_drewN ?_ _) | (with_reducible refine Kd.C_drew ?_))); (case side2 => exact HC215_2.out); rintro e w' ⟨rfl, ⟨nd, rfl⟩⟩; (try first | exact ⟨rfl, _, World.drewN_drewN _ _ _⟩ | exact ⟨rfl, _, Eq.trans (World.drewN_drewN _ _ _) (congrArg (World.drewN _) (Nat.add_assoc _ _ _))⟩)))
                       repeat (go_quiet (first | (go_at_call 45; (with_reducible refine (cohousingref23_Has.calls k6 _ _ l0_0 (rd ((rd_T46 l0_1 x4_2).f2) x8_6) true _ ?side1 ?side2 A58.out).mono ?_); (case side1 => exact cc_ ((Kd.C_below HR0_0.out HB.out))); (case side2 => exact HC0_0.out); rintro e w' ⟨rfl, ⟨nd, rfl⟩⟩; (try first | exact ⟨rfl, _, World.drewN_drewN _ _ _⟩ | exact ⟨rfl, _, Eq.trans (World.drewN_drewN _ _ _) (congrArg (World.drewN _) (Nat.add_assoc _ _ _))⟩); have p222 : 0 ≤ (x8_6 : Int) := od_; have q222 : x8_6 < (((rd_T46 l0_1 x4_2).f2).length : Int) := od_; obtain ⟨ad222, e222, hx222_0⟩ := Kd.at_int HR215_2.out x8_6 p222 q222; obtain rfl : ad220 = ad222 := (by injection e222); replace hx222_0 := (HB.out.cell (World.block_lt_of_cell? w _ hx222_0)).trans hx222_0; replace p222 := eq_true p222; replace q222 := eq_true q222) | (go_at_call 24; (with_reducible refine (cohousingref23_In.calls k6 _ _ ((rd_T46 l0_1 x4_2).f2) (rd ((rd_T46 l0_1 x4_2).f2) x8_6) t223 _ ?side1 ?side2 A60.out).mono ?_); (case side1 => repeat (first | exact (Kd.C_below HR215_2.out (by repeat (first | (with_reducible first | exact HB.out | apply below_alloc | apply pw_below_drewN | apply below_drew1 | refine below_set ?_ GE213.out | refine below_set ?_ GE216.out) | exact HB.out))) | (with_reducible refine Kd.C_alloc ?_ _) | (with_reducible refine Kd.C_drewN ?_ _) | (with_reducible refine Kd.C_drew ?_))); (case side2 => exact HC215_2.out); rintro e w' ⟨rfl, ⟨nd, rfl⟩⟩; (try first | exact ⟨rfl, _, World.drewN_drewN _ _ _⟩ | exact ⟨rfl, _, Eq.trans (World.drewN_drewN _ _ _) (congrArg (World.drewN _) (Nat.add_assoc _ _ _))⟩))); try go_wp2_with (first | (go_at_call 45; (with_reducible refine (cohousingref23_Has.calls k6 _ _ l0_0 (rd ((rd_T46 l0_1 x4_2).f2) x8_6) true _ ?side1 ?side2 A58.out).mono ?_); (case side1 => exact cc_ ((Kd.C_below HR0_0.out HB.out))); (case side2 => exact HC0_0.out); rintro e w' ⟨rfl, ⟨nd, rfl⟩⟩; (try first | exact ⟨rfl, _, World.drewN_drewN _ _ _⟩ | exact ⟨rfl, _, Eq.trans (World.drewN_drewN _ _ _) (congrArg (World.drewN _) (Nat.add_assoc _ _ _))⟩); have p222 : 0 ≤ (x8_6 : Int) := od_; have q222 : x8_6 < (((rd_T46 l0_1 x4_2).f2).length : Int) := od_; obtain ⟨ad222, e222, hx222_0⟩ := Kd.at_int HR215_2.out x8_6 p222 q222; obtain rfl : ad220 = ad222 := (by injection e222); replace hx222_0 := (HB.out.cell (World.block_lt_of_cell? w _ hx222_0)).trans hx222_0; replace p222 := eq_true p222; replace q222 := eq_true q222) | (go_at_call 24; (with_reducible refine (cohousingref23_In.calls k6 _ _ ((rd_T46 l0_1 x4_2).f2) (rd ((rd_T46 l0_1 x4_2).f2) x8_6) t223 _ ?side1 ?side2 A60.out).mono ?_); (case side1 => repeat (first | exact (Kd.C_below HR215_2.out (by repeat (first | (with_reducible first | exact HB.out | apply below_alloc | apply pw_below_drewN | apply below_drew1 | refine below_set ?_ GE213.out | refine below_set ?_ GE216.out) | exact HB.out))) | (with_reducible refine Kd.C_alloc ?_ _) | (with_reducible refine Kd.C_drewN ?_ _) | (with_reducible refine Kd.C_drew ?_))); (case side2 => exact HC215_2.out); rintro e w' ⟨rfl, ⟨nd, rfl⟩⟩; (try first | exact ⟨rfl, _, World.drewN_drewN _ _ _⟩ | exact ⟨rfl, _, Eq.trans (World.drewN_drewN _ _ _) (congrArg (World.drewN _) (Nat.add_assoc _ _ _))⟩))))
                       go_ret
                       exact ⟨ew_, by repeat (first | (with_reducible first | exact HB.out | apply below_alloc | apply pw_below_drewN | apply below_drew1 | refine below_set ?_ GE213.out | refine below_set ?_ GE216.out) | exact HB.out)⟩
                     ·replace c59 := Bool.eq_false_iff.mpr c59
                      subst c59
                      have H1 : (some false) = some r := by rw [if_neg (show ¬ (false = true) by decide)] at H; exact H
                      clear H
                      have H := H1
                      clear H1
                      obtain rfl := Option.some.inj H
                      have hnb68 := NB216_213.out
                      have hnc68 := NB213_216.out
                      have hcz69_0 : wr.cell? ⟨gb216, 0, none⟩ = some (.int .i64 ((rd_T46 l0_1 x4_2).f0)) := (blk_cell BK216.out 0).trans rfl
                      have hcz69_1 : wr.cell? ⟨gb216, 1, none⟩ = some (.int .i64 ((rd_T46 l0_1 x4_2).f1)) := (blk_cell BK216.out 1).trans rfl
                      have hcz69_2 : wr.cell? ⟨gb216, 2, none⟩ = some (.slice A215_2 ((rd_T46 l0_1 x4_2).f2).length c215_2) := (blk_cell BK216.out 2).trans rfl
                      have hfz69_0 := blk_frozen BK216.out 0
                      have hfz69_1 := blk_frozen BK216.out 1
                      have hfz69_2 := blk_frozen BK216.out 2
                      have hcz70_0 : wr.cell? ⟨gb213, 0, none⟩ = some (.slice A0_0 l0_0.length c0_0) := (blk_cell BK213.out 0).trans rfl
                      have hcz70_1 : wr.cell? ⟨gb213, 1, none⟩ = some (.slice (some ad215) l0_1.length c0_1) := (blk_cell BK213.out 1).trans rfl
                      have hfz70_0 := blk_frozen BK213.out 0
                      have hfz70_1 := blk_frozen BK213.out 1
                      have p220 : 0 ≤ (x8_6 : Int) := od_
                      have q220 : x8_6 < (((rd_T46 l0_1 x4_2).f2).length : Int) := od_
                      obtain ⟨ad220, e220, hx220_0⟩ := Kd.at_int HR215_2.out x8_6 p220 q220
                      cases e220
                      replace hx220_0 := (HB.out.cell (World.block_lt_of_cell? w _ hx220_0)).trans hx220_0
                      replace p220 := eq_true p220
                      replace q220 := eq_true q220
                      go_wp2_with (first | (go_at_call 45; (with_reducible refine (cohousingref23_Has.calls k6 _ _ l0_0 (rd ((rd_T46 l0_1 x4_2).f2) x8_6) false _ ?side1 ?side2 A58.out).mono ?_); (case side1 => exact cc_ ((Kd.C_below HR0_0.out HB.out))); (case side2 => exact HC0_0.out); rintro e w' ⟨rfl, ⟨nd, rfl⟩⟩; (try first | exact ⟨rfl, _, World.drewN_drewN _ _ _⟩ | exact ⟨rfl, _, Eq.trans (World.drewN_drewN _ _ _) (congrArg (World.drewN _) (Nat.add_assoc _ _ _))⟩)))
                      repeat (go_quiet (first | (go_at_call 45; (with_reducible refine (cohousingref23_Has.calls k6 _ _ l0_0 (rd ((rd_T46 l0_1 x4_2).f2) x8_6) false _ ?side1 ?side2 A58.out).mono ?_); (case side1 => exact cc_ ((Kd.C_below HR0_0.out HB.out))); (case side2 => exact HC0_0.out); rintro e w' ⟨rfl, ⟨nd, rfl⟩⟩; (try first | exact ⟨rfl, _, World.drewN_drewN _ _ _⟩ | exact ⟨rfl, _, Eq.trans (World.drewN_drewN _ _ _) (congrArg (World.drewN _) (Nat.add_assoc _ _ _))⟩))); try go_wp2_with (first | (go_at_call 45; (with_reducible refine (cohousingref23_Has.calls k6 _ _ l0_0 (rd ((rd_T46 l0_1 x4_2).f2) x8_6) false _ ?side1 ?side2 A58.out).mono ?_); (case side1 => exact cc_ ((Kd.C_below HR0_0.out HB.out))); (case side2 => exact HC0_0.out); rintro e w' ⟨rfl, ⟨nd, rfl⟩⟩; (try first | exact ⟨rfl, _, World.drewN_drewN _ _ _⟩ | exact ⟨rfl, _, Eq.trans (World.drewN_drewN _ _ _) (congrArg (World.drewN _) (Nat.add_assoc _ _ _))⟩))))
                      go_ret
                      exact ⟨ew_, by repeat (first | (with_reducible first | exact HB.out | apply below_alloc | apply pw_below_drewN | apply below_drew1 | refine below_set ?_ GE213.out | refine below_set ?_ GE216.out) | exact HB.out)⟩
                    ·rw [if_neg c57] at H
                     exact absurd H (by simp)
                   ·rw [if_neg c56] at H
                    have c56b0 : decide (x8_6 < (((rd_T46 l0_1 x4_2).f2).length : Int)) = false := decide_eq_false c56
                    clear c56
                    have H' := Aside0.mk H
                    clear H
                    have hnb71 := NB216_213.out
                    have hnc71 := NB213_216.out
                    have hcz72_0 : wr.cell? ⟨gb216, 0, none⟩ = some (.int .i64 ((rd_T46 l0_1 x4_2).f0)) := (blk_cell BK216.out 0).trans rfl
                    have hcz72_1 : wr.cell? ⟨gb216, 1, none⟩ = some (.int .i64 ((rd_T46 l0_1 x4_2).f1)) := (blk_cell BK216.out 1).trans rfl
                    have hcz72_2 : wr.cell? ⟨gb216, 2, none⟩ = some (.slice A215_2 ((rd_T46 l0_1 x4_2).f2).length c215_2) := (blk_cell BK216.out 2).trans rfl
                    have hfz72_0 := blk_frozen BK216.out 0
                    have hfz72_1 := blk_frozen BK216.out 1
                    have hfz72_2 := blk_frozen BK216.out 2
                    go_wp2
                    repeat (go_quiet (fail); try go_wp2)
                    go_roundg k6
                    case measure => have := HJ2.out; have := HK2.out; have := HJ10.out; have := HJ32.out; have := HK5.out; have := HK6.out; omega
                    case rel => exact ⟨(wrap64 (x4_2 + 1)), sd_, H', ⟨by have := HJ2.out; have := HK2.out; have := HJ10.out; have := HJ32.out; have := HK5.out; have := HK6.out; omega⟩, ⟨by (with_reducible repeat (first | refine blk_drewN ?_ _ | refine blk_drew ?_ | refine blk_alloc ?_ _)); exact BK213.out⟩, ⟨by repeat (first | (with_reducible first | exact HB.out | apply below_alloc | apply pw_below_drewN | apply below_drew1 | refine below_set ?_ GE213.out | refine below_set ?_ GE216.out) | exact HB.out)⟩⟩
       ·rw [if_neg c10] at H
        exact absurd H (by simp)
      ·rw [if_neg c9] at H
       have c9b0 : decide (x4_2 < (l0_1.length : Int)) = false := decide_eq_false c9
       clear c9
       obtain rfl := Option.some.inj H
       have hcz73_0 : wr.cell? ⟨gb213, 0, none⟩ = some (.slice A0_0 l0_0.length c0_0) := (blk_cell BK213.out 0).trans rfl
       have hcz73_1 : wr.cell? ⟨gb213, 1, none⟩ = some (.slice A0_1 l0_1.length c0_1) := (blk_cell BK213.out 1).trans rfl
       have hfz73_0 := blk_frozen BK213.out 0
       have hfz73_1 := blk_frozen BK213.out 1
       go_wp2
       repeat (go_quiet (fail); try go_wp2)
       go_ret
       exact ⟨ew_, by repeat (first | (with_reducible first | exact HB.out | apply below_alloc | apply pw_below_drewN | apply below_drew1 | refine below_set ?_ GE213.out) | exact HB.out)⟩
end
section
theorem eqA84 (d : Nat) (w : World) (x0 y0 : Int) (x1 y1 : Int) :
  (Op.equalIn (d + 2) 84 (.agg #[.int .i64 x0, .int .i64 x1]) (.agg #[.int .i64 y0, .int .i64 y1])).run Try.prog w = .ok (x0 == y0 && (x1 == y1)) w := by
 refine eqA_of Try.underlying84 (by kernel_rfl) ?_
 refine eqf_cons (by rfl) (by go_simp; rfl) (by go_simp; rfl) (by go_simp) ?_
 exact eqf_last (by rfl) (by go_simp; rfl) (by go_simp; rfl) (by go_simp)
end
end Go.Proofs.Ytocbiggglnpeoaa.P
end
