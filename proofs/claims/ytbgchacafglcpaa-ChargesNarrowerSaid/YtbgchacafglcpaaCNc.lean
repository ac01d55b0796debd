/- Part 3 of the base that the seat's proofs share: words, walks and plain laws. -/
import Derived.ArgAppend
import Derived.Below
import Derived.BigQuiet
import Derived.ChangeOld
import Derived.ChangeSlices
import Derived.Deep.AppendLies
import Derived.Deep.CutBlock
import Derived.Deep.DeepCutAuto
import Derived.Deep.Draws
import Derived.Deep.LoopGhost
import Derived.Deep.OwnRows
import Derived.Deep.QuietTactic
import Derived.Deep.RegionHeld3
import Derived.Deep.Slices
import Derived.KernelRfl
import Derived.Laws.BitsLemmas
import Derived.Laws.BytesArg
import Derived.Laws.IdiomCopy
import Derived.Laws.MakeOwn
import Derived.Laws.OwnMore
import Derived.Laws.Rows
import Derived.Laws.Slices
import Derived.Laws.StructEq
import Derived.Lib.AppendStr
import Derived.Lib.ConvBytes
import Derived.LoopIn
import Derived.LoopNIn
import Derived.Maps.AppendAt
import Derived.Maps.Own
import Derived.OpenShut
import Derived.OrdersHeld
import Derived.OwnWalk
import Derived.OwnWalkIn
import Derived.ProofKit
import Derived.RangeFuncBound
import Derived.RangeFuncCalls
import Derived.RangeFuncLeaves
import Derived.RangeFuncNested
import Derived.RowKit
import Derived.RowKit3
import Derived.ShutString
import Derived.SizedLaws
import Derived.Tactics
import Derived.TacticsInMore
import Derived.Test.YtbgchacafglcpaaProg
import Derived.WalkKit
import Derived.WideLaws
import Derived.Test.YtbgchacafglcpaaCNb
set_option linter.unusedVariables false
set_option linter.unusedSimpArgs false
section
namespace Go.Proofs.Ytbgchacafglcpaa.P
open Go.RowKit Go.Proofs.YtbgchacafglcpaaW.PrintWords Go.Proofs.YtbgchacafglcpaaW.PrintLast Go.Proofs.YtbgchacafglcpaaW.PrintMore
attribute [local go_sem] max2_int min2_int max_two min_two max_three min_three max_four min_four
set_option linter.unusedVariables false
set_option linter.unusedSimpArgs false
set_option maxHeartbeats 8000000
set_option maxRecDepth 100000
section
open Go.Proofs.YtbgchacafglcpaaH
def mapVB (m : Int → Bool) : Int → Option Value := fun k => if m k then some (.bool true) else none
theorem mapVB_set (m : Int → Bool) (k : Int) : ∀ x, setM (mapVB m) k (.bool true) x = mapVB (fun k' => if k' = k then true else m k') x := by
 intro x
 unfold setM mapVB
 by_cases h : x = k <;> simp [h]
theorem mapVB_get (m : Int → Bool) (k : Int) : (mapVB m k).getD (.bool false) = .bool (m k) := by
 unfold mapVB
 cases m k <;> rfl
def abvB (l : List S63) (n : Nat) (k : Int) : Bool := (List.range n).any (fun j => decide (k = (rd_T63 l j).f1))
theorem abvB_succ (l : List S63) (n : Nat) : (fun k' => if k' = (rd_T63 l n).f1 then true else abvB l n k') = abvB l (n + 1) := by
 funext k
 unfold abvB
 rw [List.range_succ, List.any_append]
 by_cases h : k = (rd_T63 l n).f1 <;> simp [h]
def rootsN (l : List S63) (n : Nat) : Int := (List.range n).foldl (fun s (j : Nat) => if (rd_T63 l j).f1 = 0 then wrap64 (s + 1) else s) 0
def totN (l : List S63) (bs : List S38) (n : Nat) : S38 := (List.range n).foldl (fun t (j : Nat) => if (rd_T63 l j).f1 = 0 then ⟨(rd_T38 bs j).f0, (rd_T38 bs j).f1⟩ else t) ⟨0, 0⟩
def partsN (l : List S63) (bs : List S38) (n : Nat) : List S38 := (List.range n).foldl (fun ps (j : Nat) => if abvB l l.length (rd_T63 l j).f0 = true then ps else ps ++ [⟨(rd_T38 bs j).f0, (rd_T38 bs j).f1⟩]) []
theorem partsN_len (l : List S63) (bs : List S38) (n : Nat) : (partsN l bs n).length ≤ n := by
 unfold partsN
 induction n with
 | zero => simp
 | succ n ih =>
  rw [foldl_range_succ]
  split
  ·omega
  ·rw [List.length_append]; simp; omega
def networkC (c : Int) (l : List S63) (known : List S38) (homes : List Int) : List S43 × Int × Int :=
 if (boundsR l known).2 = 0 then
  if c < 0 ∨ 1000000000 < c ∨ rootsN l l.length ≠ 1 ∨ homes.length ≠ (partsN l (boundsR l known).1 l.length).length ∨ homesB 0 homes = false then ([], 0, 1)
  else if (totN l (boundsR l known).1 l.length).f0 ≠ (totN l (boundsR l known).1 l.length).f1 ∨ (totN l (boundsR l known).1 l.length).f0 = 0 then ([], 0, 3)
  else shareC c (totN l (boundsR l known).1 l.length).f0 homes (partsN l (boundsR l known).1 l.length)
 else ([], 0, (boundsR l known).2)
def charges_Network.f (a0 : Int) (l1 : List S63) (l2 : List S38) (l3 : List Int) : Option (List S43 × Int × Int) := if l1.length ≤ 5864062014805 ∧ l2.length ≤ 140737488355328 then some (networkC a0 l1 l2 l3) else none
theorem boundsR_two (l : List S63) (r : List S38) : (boundsR l r).2 ≠ 0 ∧ (boundsR l r).1 = [] ∨ (boundsR l r).2 = 0 ∧ l.length ≤ 200 ∧ (boundsR l r).1.length = l.length := by
 unfold boundsR
 cases hk : netOk l with
 | none => exact .inl ⟨by simp, rfl⟩
 | some kids =>
  have hl : l.length ≤ 200 := by
   unfold netOk at hk
   split at hk
   ·assumption
   ·cases hk
  simp only []
  split
  ·rename_i hb
   split
   ·refine .inr ⟨rfl, hl, ?_⟩
    rw [List.length_map, boundsF_len, List.length_map]
    simp [belongsB] at hb
    exact hb.1
   ·exact .inl ⟨by simp, rfl⟩
  ·exact .inl ⟨by simp, rfl⟩
theorem R_farT {e base g : Nat} {w : World} {A : Option Addr} {n c : Nat} {xs : List S38} (h : Kd.R k38 e w base (fun _ => True) (.slice A n c) xs) (hne : some g ≠ (Value.slice A n c).ownBlock) (j : Nat) (u : Value) : Kd.R k38 e (w.setCell ⟨g, j, none⟩ u) base (fun _ => True) (.slice A n c) xs :=
 Kd.R_mono (Kd.R_far (p := ⟨g, j, none⟩) (Kd.R_far1 h rfl hne) (fun _ hk => hk.2) u) (fun _ _ => trivial)
set_option maxHeartbeats 16000000 in
theorem charges_Network.calls (a0 : Int) (A1 : Option Addr) (c1 : Nat) (l1 : List (S63)) (A2 : Option Addr) (c2 : Nat) (l2 : List (S38)) (A3 : Option Addr) (c3 : Nat) (l3 : List Int) (r1 : List (S43)) (r2 r3 : Int) (w : World) (hr1 : Kd.C k63 w A1 l1.length l1) (hc1 : l1.length ≤ c1) (hr2 : Kd.C k38 w A2 l2.length l2) (hc2 : l2.length ≤ c2) (hr3 : Kd.C (Kd.int .i64) w A3 l3.length l3) (hc3 : l3.length ≤ c3) (h : charges_Network.f a0 l1 l2 l3 = some (r1, r2, r3)) :
  Calls Try.prog 14 #[.int .i64 a0, .slice A1 l1.length c1, .slice A2 l2.length c2, .slice A3 l3.length c3] w fun e w' => ∃ v0_ : Value, e = .returned (.tuple #[v0_, .int .i64 r2, .int .i64 r3]) ∧ Kd.R k43 43 w' w.heap.size (fun _ => True) v0_ r1 ∧ Below w.heap.size w w' := by
 have hu38 := Try.underlying38
 have hu63 := Try.underlying63
 unfold charges_Network.f at h
 by_cases hsz : l1.length ≤ 5864062014805 ∧ l2.length ≤ 140737488355328
 case neg =>
  rw [if_neg hsz] at h
  cases h
 rw [if_pos hsz] at h
 injection h with h
 have HR1 := Aside0.mk hr1
 have HC1 := Aside0.mk hc1
 have HR2 := Aside0.mk hr2
 have HC2 := Aside0.mk hc2
 have HR3 := Aside0.mk hr3
 have HC3 := Aside0.mk hc3
 have HB := Aside0.mk (Below.refl w.heap.size w)
 obtain ⟨bs, hbs⟩ : ∃ bs, bs = (boundsR l1 l2).1 := ⟨_, rfl⟩
 obtain ⟨be, hbe⟩ : ∃ be, be = (boundsR l1 l2).2 := ⟨_, rfl⟩
 have HE := Aside0.mk (show flow_Bounds.f l1 l2 = some (bs, be) by unfold flow_Bounds.f; rw [if_pos hsz, hbs, hbe])
 have hmm := @run_makeMap Try.prog
 clear hr1 hc1 hr2 hc2 hr3 hc3 hsz
 rcases boundsR_two l1 l2 with ⟨hne, hnil⟩ | ⟨h0, h200, hlen⟩
 ·have e : networkC a0 l1 l2 l3 = ([], 0, be) := by unfold networkC; rw [if_neg hne, hbe]
  rw [e] at h
  injection h with e1 e2
  injection e2 with e2 e3
  subst e1
  subst e2
  subst e3
  rw [← hbe] at hne
  have n1 : (be == 0) = false := beq_eq_false_iff_ne.2 hne
  have n2 : (be != 0) = true := bne_iff_ne.2 hne
  clear e hne hnil hbs hbe
  go_enter Try.func14, Try.ntmps14
  go_wp2_with (first | (go_at_call 13; (with_reducible refine (flow_Bounds.calls A1 c1 l1 A2 c2 l2 _ _ _ (Kd.C_below HR1.out HB.out) HC1.out (Kd.C_below HR2.out HB.out) HC2.out HE.out).mono ?_); rintro e w2 ⟨v2, rfl, hR_, hb_⟩; have n0_ := Aside0.mk (below_step HB.out hb_); obtain ⟨Ab, cb, rfl⟩ := Kd.R_slice hR_; have HRB := Aside0.mk (Kd.R_lower hR_ (below_size HB.out)); clear HB hb_ hR_; have HB := n0_; clear n0_))
  go_ret3
  exact ⟨_, rfl, Kd.R_nil _ _ _ _ _, HB.out⟩
 ·rw [← hbe] at h0
  rw [← hbs] at hlen
  subst h0
  have HNET := Aside0.mk (show networkC a0 l1 l2 l3 = (if a0 < 0 ∨ 1000000000 < a0 ∨ rootsN l1 l1.length ≠ 1 ∨ l3.length ≠ (partsN l1 bs l1.length).length ∨ homesB 0 l3 = false then ([], 0, 1) else if (totN l1 bs l1.length).f0 ≠ (totN l1 bs l1.length).f1 ∨ (totN l1 bs l1.length).f0 = 0 then ([], 0, 3) else shareC a0 (totN l1 bs l1.length).f0 l3 (partsN l1 bs l1.length)) by unfold networkC; rw [if_pos hbe.symm, ← hbs])
  rw [HNET.out] at h
  have HH := Aside0.mk h
  have HBL := Aside0.mk hlen
  have H200 := Aside0.mk h200
  clear h hlen h200 HNET hbs hbe
  go_enter Try.func14, Try.ntmps14
  go_wp2_with (first | (go_at_call 13; (with_reducible refine (flow_Bounds.calls A1 c1 l1 A2 c2 l2 _ _ _ (Kd.C_below HR1.out HB.out) HC1.out (Kd.C_below HR2.out HB.out) HC2.out HE.out).mono ?_); rintro e w2 ⟨v2, rfl, hR_, hb_⟩; have n0_ := Aside0.mk (below_step HB.out hb_); obtain ⟨Ab, cb, rfl⟩ := Kd.R_slice hR_; rw [HBL.out] at hR_; rw [HBL.out]; have HRB := Aside0.mk (Kd.R_lower hR_ (below_size HB.out)); clear HB hb_ hR_; have HB := n0_; clear n0_))
  obtain ⟨gm, hgm⟩ : ∃ gm, gm = w2.heap.size := ⟨_, rfl⟩
  obtain ⟨gt, hgt⟩ : ∃ gt, gt = w2.heap.size + 1 := ⟨_, rfl⟩
  obtain ⟨w4, hw4⟩ : ∃ w4, w4 = (w2.alloc (Obj.map #[] 0)).alloc (Obj.cells #[Value.int .i64 0, Value.int .i64 0] 38) := ⟨_, rfl⟩
  rw [← hw4, ← hgt, ← hgm]
  have hb4 : Below w2.heap.size w2 w4 := by rw [hw4]; exact below_alloc (below_alloc (Below.refl _ _) _) _
  have BT4 := Aside0.mk (show w4.heap[gt]? = some (.cells #[.int .i64 0, .int .i64 0] 38 (0, 0)) by rw [hw4, hgt]; have := blk_new (w2.alloc (Obj.map #[] 0)) (.cells #[Value.int .i64 0, Value.int .i64 0] 38); rwa [World.size_alloc] at this)
  have HM4 := Aside0.mk (show MapI w4 gm (mapVB (abvB l1 0)) by rw [hw4, hgm]; exact ((MapI.made w2).alloc _).eq (fun k => rfl))
  have HRB4 := Aside0.mk (Kd.R_below HRB.out hb4)
  have HB4 := Aside0.mk (below_step HB.out hb4)
  have GT := Aside0.mk (show w.heap.size ≤ gt by have := below_size HB.out; omega)
  have GM := Aside0.mk (show w.heap.size ≤ gm by have := below_size HB.out; omega)
  have NTB := Aside0.mk (show some gt ≠ (Value.slice Ab l1.length cb).ownBlock from fun e => by have := Kd.R_lt HRB.out _ e.symm; omega)
  clear hw4 hb4 hgm hgt HRB HB
  go_loopg [14, 33] l1.length (fun kq v14 v33 wr => ∃ (n : Nat) (q : Int) (t : S38), v14 = .int .i64 q ∧ v33 = .int .i64 n ∧ Aside0 (kq + n = l1.length) ∧ Aside0 (q = rootsN l1 n) ∧ Aside0 (t = totN l1 bs n) ∧ Aside0 (MapI wr gm (mapVB (abvB l1 n))) ∧ Aside0 (wr.heap[gt]? = some (.cells #[.int .i64 t.f0, .int .i64 t.f1] 38 (0, 0)))
   ∧ Aside0 (Kd.R k38 38 wr w.heap.size (fun _ => True) (.slice Ab l1.length cb) bs) ∧ Aside0 (Below w.heap.size w wr))
  case atStart => exact ⟨0, _, ⟨0, 0⟩, rfl, rfl, ⟨by omega⟩, ⟨rfl⟩, ⟨rfl⟩, HM4, BT4, HRB4, HB4⟩
  case round =>
   clear HM4 BT4 HRB4 HB4
   obtain ⟨n, q, t, rfl, rfl, HK, HQ, HT, HM, BT, HRB, HB⟩ := hrel
   by_cases hlt : n < l1.length
   ·obtain ⟨i, hi⟩ : ∃ i : Int, i = (n : Int) := ⟨_, rfl⟩
    rw [← hi]
    have HI2 := Aside0.mk (show 0 ≤ i ∧ i < l1.length ∧ i = (n : Int) from ⟨by omega, by omega, hi⟩)
    have d7 : decide (i < (l1.length : Int)) = true := decide_eq_true HI2.out.2.1
    have ci2 : (0 ≤ i) = True := eq_true HI2.out.1
    have ci3 : (i < l1.length) = True := eq_true HI2.out.2.1
    obtain ⟨adp, ep, hx0, hx1, hx2⟩ := at_T63 (Kd.C_below HR1.out HB.out) i HI2.out.1 HI2.out.2.1
    subst ep
    obtain ⟨p, hp⟩ : ∃ p, p = rd_T63 l1 i := ⟨_, rfl⟩
    rw [← hp] at hx0 hx1 hx2
    have HP := Aside0.mk hp
    have hz1 : i + 1 ≤ 9223372036854775807 := by have := HI2.out; have := H200.out; omega
    have hz2 : -9223372036854775808 ≤ i + 1 := by have := HI2.out; omega
    clear hi hlt hp
    have HB0 := Aside0.mk (Below.refl wr.heap.size wr)
    go_upto_region 10 with (first | ((with_reducible refine gate_dst (N := 17) rfl ?_); refine box_event ?hg (N := 17) ?hd (cs := #[.int .i64 0, .int .i64 0, .int .i64 0]) (t := 63) ?hr ?_; (case hd => rfl); (case hg => rfl); (case hr => first | (go_simp; done) | (go_simp; rfl)); intro gp hg_P w9 hbox_ hb_; have n0_ := Aside0.mk (below_step HB0.out hb_); have BP := Aside0.mk hbox_; have GP := Aside0.mk (show wr.heap.size ≤ gp by rw [hg_P]; exact below_size HB0.out); have EP := Aside0.mk hg_P; have hcp0 : w9.cell? ⟨gp, 0, none⟩ = some (.int .i64 0) := (blk_cell hbox_ 0).trans rfl; have hfp0 := blk_frozen hbox_ 0; have hcp1 : w9.cell? ⟨gp, 1, none⟩ = some (.int .i64 0) := (blk_cell hbox_ 1).trans rfl; have hfp1 := blk_frozen hbox_ 1; have hcp2 : w9.cell? ⟨gp, 2, none⟩ = some (.int .i64 0) := (blk_cell hbox_ 2).trans rfl; have hfp2 := blk_frozen hbox_ 2; clear HB0 hg_P hbox_ hb_; have HB0 := n0_; clear n0_))
    obtain ⟨w10, hw10⟩ : ∃ w10, w10 = ((w9.setCell ⟨gp, 0, none⟩ (.int .i64 p.f0)).setCell ⟨gp, 1, none⟩ (.int .i64 p.f1)).setCell ⟨gp, 2, none⟩ (.int .i64 p.f2) := ⟨_, rfl⟩
    rw [← hw10]
    have BP10 := Aside0.mk (show w10.heap[gp]? = some (.cells #[.int .i64 p.f0, .int .i64 p.f1, .int .i64 p.f2] 63 (0, 0)) by rw [hw10]; exact blk_put3 BP.out _ _ _)
    have HB10 := Aside0.mk (show Below wr.heap.size wr w10 by rw [hw10]; exact below_put3 HB0.out GP.out _ _ _)
    clear hw10 BP HB0 hcp0 hcp1 hcp2 hfp0 hfp1 hfp2 hx0 hx1 hx2
    have hcp1 : w10.cell? ⟨gp, 1, none⟩ = some (.int .i64 p.f1) := (blk_cell BP10.out 1).trans rfl
    have HM10 := Aside0.mk (HM.out.below HB10.out)
    go_upto_region 11 with (first | ((with_reducible refine gate_ (op := .mapUpdate 75 (.tmp 38) (.tmp 40) (.const (.bool true))) rfl ?_); refine wpList_storeI _ rfl (.tmp 38) (.tmp 40) (.const (.bool true)) 75 rfl 3 4 Try.underlying75 Try.underlying3 gm (mapVB (abvB l1 n)) rfl HM10.out p.f1 rfl (.bool true) rfl ?_; intro w11 hm9 hg9; have HM11 := Aside0.mk (hm9.eq (mapVB_set _ _)); have HG11 := Aside0.mk hg9; clear hm9 hg9))
    have hnt : some gt ≠ some gm := HM10.out.ne_blk (blk_below BT.out HB10.out)
    have BT11 := Aside0.mk (blk_grown (blk_below BT.out HB10.out) HG11.out hnt)
    have BP11 := Aside0.mk (blk_grown BP10.out HG11.out (HM10.out.ne_blk BP10.out))
    have HRB11 := Aside0.mk (R_map (Kd.R_below HRB.out HB10.out) HM10.out HG11.out)
    have HB11 := Aside0.mk (grown_below (below_step HB.out HB10.out) HG11.out (fun k e => by cases e; exact GM.out))
    have ei : i.toNat = n := by have := HI2.out; omega
    have ec : ((n : Nat) : Int) = i := by have := HI2.out; omega
    have HN1 := Aside0.mk (show (fun k' => if k' = p.f1 then true else abvB l1 n k') = abvB l1 (n + 1) by rw [HP.out, ← ec]; exact abvB_succ l1 n)
    have HPF := Aside0.mk (show (rd_T63 l1 n).f1 = p.f1 by rw [HP.out, ec])
    have HE2 := Aside0.mk (And.intro ei ec)
    clear hnt ei ec hcp1
    have hcp1 : w11.cell? ⟨gp, 1, none⟩ = some (.int .i64 p.f1) := (blk_cell BP11.out 1).trans rfl
    by_cases hz : p.f1 = 0
    ·have z1 : (p.f1 == 0) = true := beq_iff_eq.2 hz
     have HZ := Aside0.mk hz
     obtain ⟨adb, eb, hy0, hy1⟩ := at_T38 (Kd.R_reads' HRB11.out).2.2 i HI2.out.1 (by have := HI2.out; have := HBL.out; omega)
     subst eb
     obtain ⟨y0, hy0'⟩ : ∃ y0, y0 = (rd_T38 bs i).f0 := ⟨_, rfl⟩
     obtain ⟨y1, hy1'⟩ : ∃ y1, y1 = (rd_T38 bs i).f1 := ⟨_, rfl⟩
     rw [← hy0'] at hy0
     rw [← hy1'] at hy1
     have HY := Aside0.mk (And.intro hy0' hy1')
     have hct0 : w11.cell? ⟨gt, 0, none⟩ = some (.int .i64 t.f0) := (blk_cell BT11.out 0).trans rfl
     have hct1 : w11.cell? ⟨gt, 1, none⟩ = some (.int .i64 t.f1) := (blk_cell BT11.out 1).trans rfl
     have hft0 := blk_frozen BT11.out 0
     have hft1 := blk_frozen BT11.out 1
     clear hz hy0' hy1'
     go_wp2
     go_roundg (gk - 1)
     case measure => have := HK.out; have := HI2.out; omega
     case rel =>
      refine ⟨n + 1, _, ⟨y0, y1⟩, rfl, ?_, ⟨by have := HK.out; have := HI2.out; omega⟩, ⟨?_⟩, ⟨?_⟩, ⟨?_⟩, ⟨blk_put2 BT11.out _ _⟩, ⟨R_farT (R_farT HRB11.out NTB.out 0 _) NTB.out 1 _⟩, ⟨below_put2 HB11.out GT.out _ _⟩⟩
      ·have := HI2.out
       first | (rw [show ((n + 1 : Nat) : Int) = i + 1 from by omega]; done) | (simp; omega)
      ·unfold rootsN
       rw [foldl_range_succ, HPF.out, if_pos HZ.out]
       show _ = wrap64 (rootsN l1 n + 1)
       rw [← HQ.out]
      ·unfold totN
       rw [foldl_range_succ, HPF.out, if_pos HZ.out, HE2.out.2, HY.out.1, HY.out.2]
      ·rw [← HN1.out]
       exact (HM11.out.move (Below.heap_setCell _ _ _ _ (fun e => HM11.out.ne_blk BT11.out (by rw [e])))).move (Below.heap_setCell _ _ _ _ (fun e => HM11.out.ne_blk BT11.out (by rw [e])))
    ·have z1 : (p.f1 == 0) = false := beq_eq_false_iff_ne.2 hz
     have HZ := Aside0.mk hz
     clear hz
     go_wp2
     go_roundg (gk - 1)
     case measure => have := HK.out; have := HI2.out; omega
     case rel =>
      refine ⟨n + 1, _, t, rfl, ?_, ⟨by have := HK.out; have := HI2.out; omega⟩, ⟨?_⟩, ⟨?_⟩, ⟨?_⟩, BT11, HRB11, HB11⟩
      ·have := HI2.out
       first | (rw [show ((n + 1 : Nat) : Int) = i + 1 from by omega]; done) | (simp; omega)
      ·unfold rootsN
       rw [foldl_range_succ, HPF.out, if_neg HZ.out]
       exact HQ.out
      ·unfold totN
       rw [foldl_range_succ, HPF.out, if_neg HZ.out]
       exact HT.out
      ·rw [← HN1.out]
       exact HM11.out
   ·have d7 : decide ((n : Int) < (l1.length : Int)) = false := decide_eq_false (by omega)
    have d7' : decide (n < l1.length) = false := decide_eq_false hlt
    have hnl : n = l1.length := by have := HK.out; omega
    rw [hnl] at HQ HT HM
    clear hlt hnl
    go_wp2
    have HPT0 := Aside0.mk (show Kd.R k38 38 wr w.heap.size (fun k_ => some k_ ≠ (Value.slice Ab l1.length cb).ownBlock ∧ k_ ≠ gt) (.slice none 0 0) ([] : List S38) from Kd.R_nil _ _ _ _ _)
    go_loopg [18, 53] l1.length (fun kq v18 v53 wr => ∃ (n : Nat) (ps : List S38), v53 = .int .i64 n ∧ Aside0 (kq + n = l1.length) ∧ Aside0 (ps = partsN l1 bs n) ∧ Aside0 (Kd.R k38 38 wr w.heap.size (fun k_ => some k_ ≠ (Value.slice Ab l1.length cb).ownBlock ∧ k_ ≠ gt) v18 ps) ∧ Aside0 (MapI wr gm (mapVB (abvB l1 l1.length))) ∧ Aside0 (wr.heap[gt]? = some (.cells #[.int .i64 t.f0, .int .i64 t.f1] 38 (0, 0)))
     ∧ Aside0 (Kd.R k38 38 wr w.heap.size (fun _ => True) (.slice Ab l1.length cb) bs) ∧ Aside0 (Below w.heap.size w wr))
    case atStart => exact ⟨0, _, rfl, ⟨by omega⟩, ⟨rfl⟩, HPT0, HM, BT, HRB, HB⟩
    case round =>
     clear HPT0 HM BT HRB HB
     obtain ⟨n, ps, rfl, HK, HPS, HRP, HM, BT, HRB, HB⟩ := hrel
     by_cases hlt : n < l1.length
     ·obtain ⟨i, hi⟩ : ∃ i : Int, i = (n : Int) := ⟨_, rfl⟩
      rw [← hi]
      have HI2 := Aside0.mk (show 0 ≤ i ∧ i < l1.length ∧ i = (n : Int) from ⟨by omega, by omega, hi⟩)
      have d7 : decide (i < (l1.length : Int)) = true := decide_eq_true HI2.out.2.1
      have ci2 : (0 ≤ i) = True := eq_true HI2.out.1
      have ci3 : (i < l1.length) = True := eq_true HI2.out.2.1
      obtain ⟨adp, ep, hx0, hx1, hx2⟩ := at_T63 (Kd.C_below HR1.out HB.out) i HI2.out.1 HI2.out.2.1
      subst ep
      obtain ⟨p, hp⟩ : ∃ p, p = rd_T63 l1 i := ⟨_, rfl⟩
      rw [← hp] at hx0 hx1 hx2
      have HP := Aside0.mk hp
      have hz1 : i + 1 ≤ 9223372036854775807 := by have := HI2.out; have := H200.out; omega
      have hz2 : -9223372036854775808 ≤ i + 1 := by have := HI2.out; omega
      clear hi hlt hp
      have HB0 := Aside0.mk (Below.refl wr.heap.size wr)
      go_upto_region 19 with (first | ((with_reducible refine gate_dst (N := 20) rfl ?_); refine box_event ?hg (N := 20) ?hd (cs := #[.int .i64 0, .int .i64 0, .int .i64 0]) (t := 63) ?hr ?_; (case hd => rfl); (case hg => rfl); (case hr => first | (go_simp; done) | (go_simp; rfl)); intro gp hg_P w9 hbox_ hb_; have n0_ := Aside0.mk (below_step HB0.out hb_); have BP := Aside0.mk hbox_; have GP := Aside0.mk (show wr.heap.size ≤ gp by rw [hg_P]; exact below_size HB0.out); have EP := Aside0.mk hg_P; have hcp0 : w9.cell? ⟨gp, 0, none⟩ = some (.int .i64 0) := (blk_cell hbox_ 0).trans rfl; have hfp0 := blk_frozen hbox_ 0; have hcp1 : w9.cell? ⟨gp, 1, none⟩ = some (.int .i64 0) := (blk_cell hbox_ 1).trans rfl; have hfp1 := blk_frozen hbox_ 1; have hcp2 : w9.cell? ⟨gp, 2, none⟩ = some (.int .i64 0) := (blk_cell hbox_ 2).trans rfl; have hfp2 := blk_frozen hbox_ 2; clear HB0 hg_P hbox_ hb_; have HB0 := n0_; clear n0_))
      obtain ⟨w10, hw10⟩ : ∃ w10, w10 = ((w9.setCell ⟨gp, 0, none⟩ (.int .i64 p.f0)).setCell ⟨gp, 1, none⟩ (.int .i64 p.f1)).setCell ⟨gp, 2, none⟩ (.int .i64 p.f2) := ⟨_, rfl⟩
      rw [← hw10]
      have BP10 := Aside0.mk (show w10.heap[gp]? = some (.cells #[.int .i64 p.f0, .int .i64 p.f1, .int .i64 p.f2] 63 (0, 0)) by rw [hw10]; exact blk_put3 BP.out _ _ _)
      have HB10 := Aside0.mk (show Below wr.heap.size wr w10 by rw [hw10]; exact below_put3 HB0.out GP.out _ _ _)
      clear hw10 BP HB0 hcp0 hcp1 hcp2 hfp0 hfp1 hfp2 hx0 hx1 hx2
      have hcp0 : w10.cell? ⟨gp, 0, none⟩ = some (.int .i64 p.f0) := (blk_cell BP10.out 0).trans rfl
      have HM10 := Aside0.mk (HM.out.below HB10.out)
      have BT10 := Aside0.mk (blk_below BT.out HB10.out)
      have HRB10 := Aside0.mk (Kd.R_below HRB.out HB10.out)
      have HRP10 := Aside0.mk (Kd.R_below HRP.out HB10.out)
      have HBB10 := Aside0.mk (below_step HB.out HB10.out)
      have ei : i.toNat = n := by have := HI2.out; omega
      have ec : ((n : Nat) : Int) = i := by have := HI2.out; omega
      have HPF := Aside0.mk (show (rd_T63 l1 n).f0 = p.f0 by rw [HP.out, ec])
      have HE2 := Aside0.mk (And.intro ei ec)
      clear ei ec
      cases hab : abvB l1 l1.length p.f0 with
      | true =>
       have HAB := Aside0.mk hab
       clear hab
       go_wp2_with (first | ((with_reducible refine gate_ (op := .lookup 75 (.tmp 58) (.tmp 60) false) rfl ?_); refine wpList_lookI _ rfl (.tmp 58) (.tmp 60) 75 false rfl 3 4 Try.underlying75 Try.underlying3 (Try.zeroValue4 _) gm (mapVB (abvB l1 l1.length)) rfl HM10.out p.f0 rfl ?_; rw [if_neg (by decide), mapVB_get, HAB.out]))
       go_roundg (gk - 1)
       case measure => have := HK.out; have := HI2.out; omega
       case rel =>
        refine ⟨n + 1, ps, ?_, ⟨by have := HK.out; have := HI2.out; omega⟩, ⟨?_⟩, HRP10, HM10, BT10, HRB10, HBB10⟩
        ·have := HI2.out
         first | (rw [show ((n + 1 : Nat) : Int) = i + 1 from by omega]; done) | (simp; omega)
        ·unfold partsN
         rw [foldl_range_succ, HPF.out, if_pos HAB.out]
         exact HPS.out
      | false =>
       have HAB := Aside0.mk hab
       clear hab
       obtain ⟨adb, eb, hy0, hy1⟩ := at_T38 (Kd.R_reads' HRB10.out).2.2 i HI2.out.1 (by have := HI2.out; have := HBL.out; omega)
       subst eb
       obtain ⟨y0, hy0'⟩ : ∃ y0, y0 = (rd_T38 bs i).f0 := ⟨_, rfl⟩
       obtain ⟨y1, hy1'⟩ : ∃ y1, y1 = (rd_T38 bs i).f1 := ⟨_, rfl⟩
       rw [← hy0'] at hy0
       rw [← hy1'] at hy1
       have HY := Aside0.mk (And.intro hy0' hy1')
       have HPL := Aside0.mk (show ps.length ≤ 200 by have h1 := partsN_len l1 bs n; rw [HPS.out]; have := HI2.out; have := H200.out; omega)
       clear hy0' hy1'
       go_wp2_with (first | ((with_reducible refine gate_ (op := .lookup 75 (.tmp 58) (.tmp 60) false) rfl ?_); refine wpList_lookI _ rfl (.tmp 58) (.tmp 60) 75 false rfl 3 4 Try.underlying75 Try.underlying3 (Try.zeroValue4 _) gm (mapVB (abvB l1 l1.length)) rfl HM10.out p.f0 rfl ?_; rw [if_neg (by decide), mapVB_get, HAB.out]) | ((with_reducible refine gate_builtin (b := .append) (xs := #[.tmp 63, .tmp 68]) rfl ?_); at_builtin; refine Kd.R_append k38 (w0 := w) w.heap.size rfl (.tmp 63) (.tmp 68) 23 38 (.agg #[(.int .i64 0), (.int .i64 0)]) 16 rfl Try.underlying23 info38 rfl (by decide) (by omega) _ ps (⟨y0, y1⟩ : S38) [.int .i64 y0, .int .i64 y1] (fun k_ => some k_ ≠ (Value.slice (some adb) l1.length cb).ownBlock ∧ k_ ≠ gt) (fun _ => False) rfl rfl (k38_mkM _ _ _ (⟨y0, y1⟩ : S38)) (fun _ hk => hk.elim) (fun k_ hk_ => ⟨fun e_ => by have := Kd.R_lt HRB10.out k_ e_.symm; omega, fun e_ => by have := blk_lt BT10.out; omega⟩) HRP10.out HBB10.out (below_size HBB10.out) (by have := HPL.out; omega) ?_; intro v9 w12 ho_ hb_ hg_ hat_; have HRP12 := Aside0.mk ho_; have HRB12 := Aside0.mk (Kd.R_grown2 HRB10.out rfl hg_ (fun k_ hk_ => (HRP10.out.1 k_ hk_).1)); have BT12 := Aside0.mk (blk_grown BT10.out hg_ (fun e_ => (HRP10.out.1 gt e_.symm).2 rfl)); have HM12 := Aside0.mk (HM10.out.kept hg_ (HM10.out.ne_row HRP10.out)); have HBB12 := Aside0.mk hb_; clear ho_ hb_ hg_ hat_))
       go_roundg (gk - 1)
       case measure => have := HK.out; have := HI2.out; omega
       case rel =>
        refine ⟨n + 1, _, ?_, ⟨by have := HK.out; have := HI2.out; omega⟩, ⟨?_⟩, HRP12, HM12, BT12, HRB12, HBB12⟩
        ·have := HI2.out
         first | (rw [show ((n + 1 : Nat) : Int) = i + 1 from by omega]; done) | (simp; omega)
        ·unfold partsN
         rw [foldl_range_succ, HPF.out, if_neg (by rw [HAB.out]; decide), HE2.out.2, HY.out.1, HY.out.2]
         show _ = partsN l1 bs n ++ _
         rw [← HPS.out]
     ·have d7 : decide ((n : Int) < (l1.length : Int)) = false := decide_eq_false (by omega)
      have d7' : decide (n < l1.length) = false := decide_eq_false hlt
      have hnl : n = l1.length := by have := HK.out; omega
      rw [hnl] at HPS
      clear hlt hnl
      obtain ⟨Ap, cp, ep⟩ := Kd.R_slice HRP.out
      subst ep
      have hct0 : wr.cell? ⟨gt, 0, none⟩ = some (.int .i64 t.f0) := (blk_cell BT.out 0).trans rfl
      have hct1 : wr.cell? ⟨gt, 1, none⟩ = some (.int .i64 t.f1) := (blk_cell BT.out 1).trans rfl
      have HH2 := HH.out
      rw [← HQ.out, ← HT.out, ← HPS.out] at HH2
      by_cases b1 : a0 < 0
      ·rw [if_pos (.inl b1)] at HH2
       cases HH2
       have e1 : decide (a0 < 0) = true := decide_eq_true b1
       clear b1
       go_wp2
       go_ret3
       exact ⟨_, rfl, Kd.R_nil _ _ _ _ _, HB.out⟩
      have e1 : decide (a0 < 0) = false := decide_eq_false b1
      by_cases b2 : 1000000000 < a0
      ·rw [if_pos (.inr (.inl b2))] at HH2
       cases HH2
       have e2 : decide (1000000000 < a0) = true := decide_eq_true b2
       clear b1 b2
       go_wp2
       go_ret3
       exact ⟨_, rfl, Kd.R_nil _ _ _ _ _, HB.out⟩
      have e2 : decide (1000000000 < a0) = false := decide_eq_false b2
      by_cases b3 : q = 1
      case neg =>
       rw [if_pos (.inr (.inr (.inl b3)))] at HH2
       cases HH2
       have e3 : (q == 1) = false := beq_eq_false_iff_ne.2 b3
       have e3' : (q != 1) = true := bne_iff_ne.2 b3
       clear b1 b2 b3
       go_wp2
       go_ret3
       exact ⟨_, rfl, Kd.R_nil _ _ _ _ _, HB.out⟩
      have e3 : (q == 1) = true := beq_iff_eq.2 b3
      have e3' : (q != 1) = false := by rw [bne_eq_false_iff_eq]; exact b3
      by_cases b4 : l3.length = ps.length
      case neg =>
       rw [if_pos (.inr (.inr (.inr (.inl b4))))] at HH2
       cases HH2
       have e4 : ((l3.length : Int) == (ps.length : Int)) = false := beq_eq_false_iff_ne.2 (by omega)
       have e4' : ((l3.length : Int) != (ps.length : Int)) = true := by rw [bne_iff_ne]; omega
       clear b1 b2 b3 b4
       go_wp2
       go_ret3
       exact ⟨_, rfl, Kd.R_nil _ _ _ _ _, HB.out⟩
      have e4 : ((l3.length : Int) == (ps.length : Int)) = true := beq_iff_eq.2 (by omega)
      have e4' : ((l3.length : Int) != (ps.length : Int)) = false := by rw [bne_eq_false_iff_eq]; omega
      have HN3 := Aside0.mk (show l3.length ≤ 140737488355328 by have h1 := partsN_len l1 bs l1.length; rw [← HPS.out] at h1; have := H200.out; omega)
      cases hh : homesB 0 l3 with
      | false =>
       rw [if_pos (.inr (.inr (.inr (.inr hh))))] at HH2
       cases HH2
       have HHO := Aside0.mk hh
       clear b1 b2 b3 b4 hh
       go_wp2_with (first | (go_at_call 35; (with_reducible refine (homes_any A3 c3 l3 _ _ (Kd.C_below HR3.out HB.out) HC3.out HN3.out HHO.out).mono ?_); rintro e w13 ⟨rfl, hdr⟩; have hb_ := hdr.below; have n0_ := Aside0.mk (below_step HB.out hb_); have HRP := Aside0.mk (Kd.R_below HRP.out hb_); replace hct0 := (hb_.cell (World.block_lt_of_cell? _ _ hct0)).trans hct0; replace hct1 := (hb_.cell (World.block_lt_of_cell? _ _ hct1)).trans hct1; clear HB hb_ hdr; have HB := n0_; clear n0_))
       go_ret3
       exact ⟨_, rfl, Kd.R_nil _ _ _ _ _, HB.out⟩
      | true =>
      rw [if_neg (by rw [hh]; rintro (h_ | h_ | h_ | h_ | h_) <;> first | exact absurd h_ (by assumption) | exact h_ b3 | exact h_ b4 | cases h_)] at HH2
      have HHO := Aside0.mk hh
      clear b1 b2 b3 b4 hh
      by_cases b5 : t.f0 = t.f1
      case neg =>
       rw [if_pos (.inl b5)] at HH2
       cases HH2
       have e5 : (t.f0 == t.f1) = false := beq_eq_false_iff_ne.2 b5
       have e5' : (t.f0 != t.f1) = true := bne_iff_ne.2 b5
       clear b5
       go_wp2_with (first | (go_at_call 35; (with_reducible refine (homes_any A3 c3 l3 _ _ (Kd.C_below HR3.out HB.out) HC3.out HN3.out HHO.out).mono ?_); rintro e w13 ⟨rfl, hdr⟩; have hb_ := hdr.below; have n0_ := Aside0.mk (below_step HB.out hb_); have HRP := Aside0.mk (Kd.R_below HRP.out hb_); replace hct0 := (hb_.cell (World.block_lt_of_cell? _ _ hct0)).trans hct0; replace hct1 := (hb_.cell (World.block_lt_of_cell? _ _ hct1)).trans hct1; clear HB hb_ hdr; have HB := n0_; clear n0_))
       go_ret3
       exact ⟨_, rfl, Kd.R_nil _ _ _ _ _, HB.out⟩
      have e5 : (t.f0 == t.f1) = true := beq_iff_eq.2 b5
      have e5' : (t.f0 != t.f1) = false := by rw [bne_eq_false_iff_eq]; exact b5
      by_cases b6 : t.f0 = 0
      ·rw [if_pos (.inr b6)] at HH2
       cases HH2
       have e6 : (t.f0 == 0) = true := beq_iff_eq.2 b6
       clear b5 b6
       go_wp2_with (first | (go_at_call 35; (with_reducible refine (homes_any A3 c3 l3 _ _ (Kd.C_below HR3.out HB.out) HC3.out HN3.out HHO.out).mono ?_); rintro e w13 ⟨rfl, hdr⟩; have hb_ := hdr.below; have n0_ := Aside0.mk (below_step HB.out hb_); have HRP := Aside0.mk (Kd.R_below HRP.out hb_); replace hct0 := (hb_.cell (World.block_lt_of_cell? _ _ hct0)).trans hct0; replace hct1 := (hb_.cell (World.block_lt_of_cell? _ _ hct1)).trans hct1; clear HB hb_ hdr; have HB := n0_; clear n0_))
       go_ret3
       exact ⟨_, rfl, Kd.R_nil _ _ _ _ _, HB.out⟩
      have e6 : (t.f0 == 0) = false := beq_eq_false_iff_ne.2 b6
      rw [if_neg (fun h_ => h_.elim (fun x_ => x_ b5) b6)] at HH2
      have HSH := Aside0.mk (show charges_Share.f a0 t.f0 l3 ps = some (r1, r2, r3) from congrArg some HH2)
      clear b5 b6 HH2
      go_wp2_with (first | (go_at_call 35; (with_reducible refine (homes_any A3 c3 l3 _ _ (Kd.C_below HR3.out HB.out) HC3.out HN3.out HHO.out).mono ?_); rintro e w13 ⟨rfl, hdr⟩; have hb_ := hdr.below; have n0_ := Aside0.mk (below_step HB.out hb_); have HRP := Aside0.mk (Kd.R_below HRP.out hb_); replace hct0 := (hb_.cell (World.block_lt_of_cell? _ _ hct0)).trans hct0; replace hct1 := (hb_.cell (World.block_lt_of_cell? _ _ hct1)).trans hct1; clear HB hb_ hdr; have HB := n0_; clear n0_) | (go_at_call 25; (with_reducible refine (charges_Share.calls a0 t.f0 A3 c3 l3 Ap cp ps _ _ _ _ (Kd.C_below HR3.out HB.out) HC3.out (Kd.R_reads' HRP.out).2.2 (Kd.R_reads' HRP.out).2.1 HSH.out).mono ?_); rintro e w14 ⟨v14, rfl, hR_, hb_⟩; have n0_ := Aside0.mk (below_step HB.out hb_); have HRS := Aside0.mk (Kd.R_lower hR_ (below_size HB.out)); clear HB hb_ hR_; have HB := n0_; clear n0_))
      go_ret3
      exact ⟨_, rfl, HRS.out, HB.out⟩
end
section
theorem eqA38 (d : Nat) (w : World) (x0 y0 : Int) (x1 y1 : Int) :
  (Op.equalIn (d + 2) 38 (.agg #[.int .i64 x0, .int .i64 x1]) (.agg #[.int .i64 y0, .int .i64 y1])).run Try.prog w = .ok (x0 == y0 && (x1 == y1)) w := by
 refine eqA_of Try.underlying38 (by kernel_rfl) ?_
 refine eqf_cons (by rfl) (by go_simp; rfl) (by go_simp; rfl) (by go_simp) ?_
 exact eqf_last (by rfl) (by go_simp; rfl) (by go_simp; rfl) (by go_simp)
end
section
theorem eqA43 (d : Nat) (w : World) (x0 y0 : Int) (x1 y1 : Int) (x2 y2 : Int) (x3 y3 : Int) (x4 y4 : Bool) :
  (Op.equalIn (d + 3) 43 (.agg #[.int .i64 x0, .int .i64 x1, .int .i64 x2, .int .i64 x3, .bool x4]) (.agg #[.int .i64 y0, .int .i64 y1, .int .i64 y2, .int .i64 y3, .bool y4])).run Try.prog w = .ok (x0 == y0 && (x1 == y1 && ((x2 == y2 && (x3 == y3)) && (x4 == y4)))) w := by
 refine eqA_of Try.underlying43 (by kernel_rfl) ?_
 refine eqf_cons (by rfl) (by go_simp; rfl) (by go_simp; rfl) (by go_simp) ?_
 refine eqf_cons (by rfl) (by go_simp; rfl) (by go_simp; rfl) (by go_simp) ?_
 refine eqf_cons (by rfl) (by go_simp) (by go_simp) (eqA38 (d + 0) w _ _ _ _) ?_
 exact eqf_last (by rfl) (by go_simp; rfl) (by go_simp; rfl) (by go_simp)
end
section
attribute [local go_sem high] eqA43
def cohousingref29_Same.l0 : Nat → List (S43) → List (S43) → Int → Option (Bool)
 | 0, _, _, _ => none
 | k + 1, x0, x1, x5 => if x5 < (x0.length : Int) then (if 0 ≤ x5 then (if x5 < (x1.length : Int) then (if (!(((rd_T43 x0 x5).f0) == ((rd_T43 x1 x5).f0)) || (!(((rd_T43 x0 x5).f1) == ((rd_T43 x1 x5).f1)) || ((!(((rd_T43 x0 x5).f2.f0) == ((rd_T43 x1 x5).f2.f0)) || (!(((rd_T43 x0 x5).f2.f1) == ((rd_T43 x1 x5).f2.f1)))) || (!(((rd_T43 x0 x5).f3) == ((rd_T43 x1 x5).f3)))))) = true then (some false) else (cohousingref29_Same.l0 k x0 x1 (wrap64 (x5 + 1)))) else (none)) else (none)) else (some true)
def cohousingref29_Same.f (k : Nat) (l0 : List (S43)) (l1 : List (S43)) : Option (Bool) := if (l0.length : Int) = (l1.length : Int) then (cohousingref29_Same.l0 k l0 l1 0) else (some false)
theorem cohousingref29_Same.mono_l : ∀ k, (∀ y0 y1 y2, LeO (cohousingref29_Same.l0 k y0 y1 y2) (cohousingref29_Same.l0 (k + 1) y0 y1 y2))
 | 0 => fun _ _ _ r h => by simp [cohousingref29_Same.l0] at h
 | k + 1 => by
  have ih0 := cohousingref29_Same.mono_l k
  ·intro y0 y1 y2
   unfold cohousingref29_Same.l0
   repeat' first
   | (with_reducible exact ih0 _ _ _)
   | (with_reducible exact LeO.refl _)
   | (with_reducible exact LeO.none _)
   | (with_reducible refine LeO.ite ?_ ?_)
   | (with_reducible refine LeO.bind ?_ (fun _ => ?_))
   | exact ih0 _ _ _
   | exact LeO.none _
   | refine LeO.ite ?_ ?_
   | refine LeO.bind ?_ (fun _ => ?_)
theorem cohousingref29_Same.mono : ∀ a0 a1 k, LeO (cohousingref29_Same.f k a0 a1) (cohousingref29_Same.f (k + 1) a0 a1) := by
 intro a0 a1 k
 have ih0 := cohousingref29_Same.mono_l k
 unfold cohousingref29_Same.f
 repeat' first
   | (with_reducible exact ih0 _ _ _)
   | (with_reducible exact LeO.refl _)
   | (with_reducible exact LeO.none _)
   | (with_reducible refine LeO.ite ?_ ?_)
   | (with_reducible refine LeO.bind ?_ (fun _ => ?_))
   | exact ih0 _ _ _
   | exact LeO.none _
   | refine LeO.ite ?_ ?_
   | refine LeO.bind ?_ (fun _ => ?_)
theorem cohousingref29_Same.calls (k : Nat) (A0 : Option Addr) (c0 : Nat) (l0 : List (S43)) (A1 : Option Addr) (c1 : Nat) (l1 : List (S43)) (r : Bool) (w : World) (hr0 : Kd.C k43 w A0 l0.length l0) (hc0 : l0.length ≤ c0) (hr1 : Kd.C k43 w A1 l1.length l1) (hc1 : l1.length ≤ c1) (h : cohousingref29_Same.f k l0 l1 = some r) :
  Calls Try.prog 27 #[.slice A0 l0.length c0, .slice A1 l1.length c1] w fun e w' => e = .returned (.bool r) ∧ Drawn0 w w' := by
 have hu43 := Try.underlying43
 have HR0 := Aside0.mk hr0
 have HC0 := Aside0.mk hc0
 clear hr0 hc0
 have HR1 := Aside0.mk hr1
 have HC1 := Aside0.mk hc1
 clear hr1 hc1
 have H : (if (l0.length : Int) = (l1.length : Int) then (cohousingref29_Same.l0 k l0 l1 0) else (some false)) = some r := h
 clear h
 by_cases c3 : (l0.length : Int) = (l1.length : Int)
 ·rw [if_pos c3] at H
  have c3b0 : ((l0.length : Int) == (l1.length : Int)) = true := beq_iff_eq.mpr c3
  have c3b1 : ((l0.length : Int) != (l1.length : Int)) = false := bne_eq_false_iff_eq.mpr c3
  have c3b2 : (l0.length == l1.length) = true := by first | simpa using c3 | (simp at c3 ⊢; omega)
  clear c3
  have H' := Aside0.mk H
  clear H
  go_enter Try.func27, Try.ntmps27
  go_wp2
  repeat (go_quiet (fail); try go_wp2)
  go_loopg [5] k (fun kq v5 w' => ∃ (x5_1 : Int), v5 = .int .i64 x5_1 ∧ Aside0 (cohousingref29_Same.l0 kq l0 l1 x5_1 = some r) ∧ Aside0 (kq ≤ k) ∧ Drawn0 w w')
  case atStart => exact ⟨(0), sd_, H', ⟨Nat.le_refl _⟩, by repeat (first | exact Drawn0.refl _ | apply Drawn0.step)⟩
  case round =>
   clear H'
   try clear c1
   try clear c2
   try clear p2
   try clear c3
   try clear c3b0
   try clear c3b1
   try clear c3b2
   obtain ⟨x5_1, rfl, HA, HK1, ⟨m1, rfl⟩⟩ := hrel
   cases gk with
   | zero => exact absurd HA.out (by simp [cohousingref29_Same.l0])
   | succ k1 =>
    have H := HA.out
    clear HA
    simp only [cohousingref29_Same.l0] at H
    by_cases c4 : x5_1 < (l0.length : Int)
    ·rw [if_pos c4] at H
     have c4b0 : decide (x5_1 < (l0.length : Int)) = true := decide_eq_true c4
     clear c4
     by_cases c5 : 0 ≤ x5_1
     ·rw [if_pos c5] at H
      have c5b0 : decide (0 ≤ x5_1) = true := decide_eq_true c5
      clear c5
      by_cases c6 : x5_1 < (l1.length : Int)
      ·rw [if_pos c6] at H
       have c6b0 : decide (x5_1 < (l1.length : Int)) = true := decide_eq_true c6
       clear c6
       by_cases c7 : (!(((rd_T43 l0 x5_1).f0) == ((rd_T43 l1 x5_1).f0)) || (!(((rd_T43 l0 x5_1).f1) == ((rd_T43 l1 x5_1).f1)) || ((!(((rd_T43 l0 x5_1).f2.f0) == ((rd_T43 l1 x5_1).f2.f0)) || (!(((rd_T43 l0 x5_1).f2.f1) == ((rd_T43 l1 x5_1).f2.f1)))) || (!(((rd_T43 l0 x5_1).f3) == ((rd_T43 l1 x5_1).f3)))))) = true
       ·rw [if_pos c7] at H
        have c7b0 : (!(((rd_T43 l0 x5_1).f0) == ((rd_T43 l1 x5_1).f0)) || (!(((rd_T43 l0 x5_1).f1) == ((rd_T43 l1 x5_1).f1)) || ((!(((rd_T43 l0 x5_1).f2.f0) == ((rd_T43 l1 x5_1).f2.f0)) || (!(((rd_T43 l0 x5_1).f2.f1) == ((rd_T43 l1 x5_1).f2.f1)))) || (!(((rd_T43 l0 x5_1).f3) == ((rd_T43 l1 x5_1).f3)))))) = true := c7
        clear c7
        obtain rfl := Option.some.inj H
        have p133 : 0 ≤ (x5_1 : Int) := od_
        have q133 : x5_1 < (l0.length : Int) := od_
        obtain ⟨ad133, e133, hx133_0, hx133_1, hx133_2, hx133_3, hx133_4⟩ := at_T43 HR0.out x5_1 p133 q133
        cases e133
        replace p133 := eq_true p133
        replace q133 := eq_true q133
        have p134 : 0 ≤ (x5_1 : Int) := od_
        have q134 : x5_1 < (l1.length : Int) := od_
        obtain ⟨ad134, e134, hx134_0, hx134_1, hx134_2, hx134_3, hx134_4⟩ := at_T43 HR1.out x5_1 p134 q134
        cases e134
        replace p134 := eq_true p134
        replace q134 := eq_true q134
        go_wp2
        repeat (go_quiet (fail); try go_wp2)
        go_ret
        exact ⟨by first | rfl | (simp; done) | (simp [*]; done), by repeat (first | exact Drawn0.refl _ | apply Drawn0.step)⟩
       ·rw [if_neg c7] at H
        have c7b0 : (!(((rd_T43 l0 x5_1).f0) == ((rd_T43 l1 x5_1).f0)) || (!(((rd_T43 l0 x5_1).f1) == ((rd_T43 l1 x5_1).f1)) || ((!(((rd_T43 l0 x5_1).f2.f0) == ((rd_T43 l1 x5_1).f2.f0)) || (!(((rd_T43 l0 x5_1).f2.f1) == ((rd_T43 l1 x5_1).f2.f1)))) || (!(((rd_T43 l0 x5_1).f3) == ((rd_T43 l1 x5_1).f3)))))) = false := by simpa using c7
        clear c7
        have H' := Aside0.mk H
        clear H
        have p133 : 0 ≤ (x5_1 : Int) := od_
        have q133 : x5_1 < (l0.length : Int) := od_
        obtain ⟨ad133, e133, hx133_0, hx133_1, hx133_2, hx133_3, hx133_4⟩ := at_T43 HR0.out x5_1 p133 q133
        cases e133
        replace p133 := eq_true p133
        replace q133 := eq_true q133
        have p134 : 0 ≤ (x5_1 : Int) := od_
        have q134 : x5_1 < (l1.length : Int) := od_
        obtain ⟨ad134, e134, hx134_0, hx134_1, hx134_2, hx134_3, hx134_4⟩ := at_T43 HR1.out x5_1 p134 q134
        cases e134
        replace p134 := eq_true p134
        replace q134 := eq_true q134
        go_wp2
        repeat (go_quiet (fail); try go_wp2)
        go_roundg k1
        case measure => have := HK1.out; omega
        case rel => exact ⟨(wrap64 (x5_1 + 1)), sd_, H', ⟨by have := HK1.out; omega⟩, by repeat (first | exact Drawn0.refl _ | apply Drawn0.step)⟩
      ·rw [if_neg c6] at H
       exact absurd H (by simp)
     ·rw [if_neg c5] at H
      exact absurd H (by simp)
    ·rw [if_neg c4] at H
     have c4b0 : decide (x5_1 < (l0.length : Int)) = false := decide_eq_false c4
     clear c4
     obtain rfl := Option.some.inj H
     go_wp2
     repeat (go_quiet (fail); try go_wp2)
     go_ret
     exact ⟨by first | rfl | (simp; done) | (simp [*]; done), by repeat (first | exact Drawn0.refl _ | apply Drawn0.step)⟩
 ·rw [if_neg c3] at H
  have c3b0 : ((l0.length : Int) == (l1.length : Int)) = false := beq_eq_false_iff_ne.mpr c3
  have c3b1 : ((l0.length : Int) != (l1.length : Int)) = true := bne_iff_ne.mpr c3
  have c3b2 : (l0.length == l1.length) = false := by first | simpa using c3 | (simp at c3 ⊢; omega)
  obtain rfl := Option.some.inj H
  go_enter Try.func27, Try.ntmps27
  go_wp2
  repeat (go_quiet (fail); try go_wp2)
  go_ret
  exact ⟨by first | rfl | (simp; done) | (simp [*]; done), by repeat (first | exact Drawn0.refl _ | apply Drawn0.step)⟩
end
section
def cohousinglaw29_head.f (k : Nat)  : Option (Bool) := (charges_Share.f 100 10 (([1, 2] : List Int)) (([(⟨3, 3⟩ : S38), (⟨2, 4⟩ : S38)] : List (S38)))).bind fun bt141 => ((charges_Share.f 100 10 (([1, 2] : List Int)) (([(⟨3, 3⟩ : S38), (⟨6, 10⟩ : S38)] : List (S38)))).bind fun bt152 => ((some (([(⟨1, 0, 2⟩ : S63), (⟨2, 1, 0⟩ : S63), (⟨3, 1, 0⟩ : S63)] : List (S63)) : List (S63))).bind fun y157 => ((charges_Network.f 100 y157 (([(⟨10, 10⟩ : S38), (⟨3, 5⟩ : S38), (⟨0, 100⟩ : S38)] : List (S38))) (([4, 7] : List Int))).bind fun bt166 => ((charges_Network.f 100 y157 (([(⟨9, 10⟩ : S38), (⟨3, 5⟩ : S38), (⟨0, 100⟩ : S38)] : List (S38))) (([4, 7] : List Int))).bind fun bt177 => (if bt141.2.2 = 0 then (if bt152.2.2 = 0 then (if bt166.2.2 = 0 then (if bt177.2.2 = 3 then (if bt141.2.1 = 40 then (if bt152.2.1 = 0 then (if bt166.2.1 = 10 then ((cohousingref29_Same.f k bt141.1 (([(⟨1, 30, (⟨30, 30⟩ : S38), true⟩ : S43), (⟨2, 30, (⟨20, 40⟩ : S38), false⟩ : S43)] : List (S43)))).bind fun t185 => (if t185 = true then ((cohousingref29_Same.f k bt152.1 (([(⟨1, 30, (⟨30, 30⟩ : S38), true⟩ : S43), (⟨2, 70, (⟨60, 100⟩ : S38), false⟩ : S43)] : List (S43)))).bind fun t189 => (if t189 = true then ((cohousingref29_Same.f k bt166.1 (([(⟨4, 40, (⟨30, 50⟩ : S38), false⟩ : S43), (⟨7, 50, (⟨30, 70⟩ : S38), false⟩ : S43)] : List (S43)))).bind fun t193 => (some t193)) else (some false))) else (some false))) else (some false)) else (some false)) else (some false)) else (some false)) else (some false)) else (some false)) else (some false))))))
theorem cohousinglaw29_head.mono : ∀ k, LeO (cohousinglaw29_head.f k ) (cohousinglaw29_head.f (k + 1) ) := by
 intro  k
 unfold cohousinglaw29_head.f
 repeat' first
   | (with_reducible exact cohousingref29_Same.mono _ _ _)
   | (with_reducible exact LeO.refl _)
   | (with_reducible exact LeO.none _)
   | (with_reducible refine LeO.ite ?_ ?_)
   | (with_reducible refine LeO.bind ?_ (fun _ => ?_))
   | exact cohousingref29_Same.mono _ _ _
   | exact LeO.none _
   | refine LeO.ite ?_ ?_
   | refine LeO.bind ?_ (fun _ => ?_)
theorem cohousinglaw29_head.yes : ∀ k r, cohousinglaw29_head.f k = some r → r = true := fun k r h => by
 have h1 : cohousinglaw29_head.f 60 = some true := by kernel_rfl
 have up : ∀ (d a : Nat) (x : Bool), cohousinglaw29_head.f a = some x → cohousinglaw29_head.f (a + d) = some x := fun d => by
  induction d with
  | zero => intro a x hx; exact hx
  | succ d ih => intro a x hx; exact cohousinglaw29_head.mono _ _ (ih a x hx)
 have h2 := up 60 k r h
 have h3 := up k 60 true h1
 rw [Nat.add_comm] at h3
 rw [h2] at h3
 exact Option.some.inj h3
theorem cohousinglaw29_head.calls (k : Nat)  (r : Bool) (w : World) (h : cohousinglaw29_head.f k  = some r) :
  Calls Try.prog 20 #[] w fun e w' => e = .returned (.bool r) ∧ Below w.heap.size w w' := by
 have hr_ := cohousinglaw29_head.yes k r h
 subst hr_
 have hu38 := Try.underlying38
 have hu63 := Try.underlying63
 have hu43 := Try.underlying43
 have HB := Aside0.mk (Below.refl w.heap.size w)
 have H : ((charges_Share.f 100 10 (([1, 2] : List Int)) (([(⟨3, 3⟩ : S38), (⟨2, 4⟩ : S38)] : List (S38)))).bind fun bt141 => ((charges_Share.f 100 10 (([1, 2] : List Int)) (([(⟨3, 3⟩ : S38), (⟨6, 10⟩ : S38)] : List (S38)))).bind fun bt152 => ((some (([(⟨1, 0, 2⟩ : S63), (⟨2, 1, 0⟩ : S63), (⟨3, 1, 0⟩ : S63)] : List (S63)) : List (S63))).bind fun y157 => ((charges_Network.f 100 y157 (([(⟨10, 10⟩ : S38), (⟨3, 5⟩ : S38), (⟨0, 100⟩ : S38)] : List (S38))) (([4, 7] : List Int))).bind fun bt166 => ((charges_Network.f 100 y157 (([(⟨9, 10⟩ : S38), (⟨3, 5⟩ : S38), (⟨0, 100⟩ : S38)] : List (S38))) (([4, 7] : List Int))).bind fun bt177 => (if bt141.2.2 = 0 then (if bt152.2.2 = 0 then (if bt166.2.2 = 0 then (if bt177.2.2 = 3 then (if bt141.2.1 = 40 then (if bt152.2.1 = 0 then (if bt166.2.1 = 10 then ((cohousingref29_Same.f k bt141.1 (([(⟨1, 30, (⟨30, 30⟩ : S38), true⟩ : S43), (⟨2, 30, (⟨20, 40⟩ : S38), false⟩ : S43)] : List (S43)))).bind fun t185 => (if t185 = true then ((cohousingref29_Same.f k bt152.1 (([(⟨1, 30, (⟨30, 30⟩ : S38), true⟩ : S43), (⟨2, 70, (⟨60, 100⟩ : S38), false⟩ : S43)] : List (S43)))).bind fun t189 => (if t189 = true then ((cohousingref29_Same.f k bt166.1 (([(⟨4, 40, (⟨30, 50⟩ : S38), false⟩ : S43), (⟨7, 50, (⟨30, 70⟩ : S38), false⟩ : S43)] : List (S43)))).bind fun t193 => (some t193)) else (some false))) else (some false))) else (some false)) else (some false)) else (some false)) else (some false)) else (some false)) else (some false)) else (some false))))))) = some true := h
 clear h
 obtain ⟨y135, hy135⟩ : ∃ y_ : List Int, y_ = (([1, 2] : List Int)) := ⟨_, rfl⟩
 replace H : ((charges_Share.f 100 10 y135 (([(⟨3, 3⟩ : S38), (⟨2, 4⟩ : S38)] : List (S38)))).bind fun bt141 => ((charges_Share.f 100 10 (([1, 2] : List Int)) (([(⟨3, 3⟩ : S38), (⟨6, 10⟩ : S38)] : List (S38)))).bind fun bt152 => ((some (([(⟨1, 0, 2⟩ : S63), (⟨2, 1, 0⟩ : S63), (⟨3, 1, 0⟩ : S63)] : List (S63)) : List (S63))).bind fun y157 => ((charges_Network.f 100 y157 (([(⟨10, 10⟩ : S38), (⟨3, 5⟩ : S38), (⟨0, 100⟩ : S38)] : List (S38))) (([4, 7] : List Int))).bind fun bt166 => ((charges_Network.f 100 y157 (([(⟨9, 10⟩ : S38), (⟨3, 5⟩ : S38), (⟨0, 100⟩ : S38)] : List (S38))) (([4, 7] : List Int))).bind fun bt177 => (if bt141.2.2 = 0 then (if bt152.2.2 = 0 then (if bt166.2.2 = 0 then (if bt177.2.2 = 3 then (if bt141.2.1 = 40 then (if bt152.2.1 = 0 then (if bt166.2.1 = 10 then ((cohousingref29_Same.f k bt141.1 (([(⟨1, 30, (⟨30, 30⟩ : S38), true⟩ : S43), (⟨2, 30, (⟨20, 40⟩ : S38), false⟩ : S43)] : List (S43)))).bind fun t185 => (if t185 = true then ((cohousingref29_Same.f k bt152.1 (([(⟨1, 30, (⟨30, 30⟩ : S38), true⟩ : S43), (⟨2, 70, (⟨60, 100⟩ : S38), false⟩ : S43)] : List (S43)))).bind fun t189 => (if t189 = true then ((cohousingref29_Same.f k bt166.1 (([(⟨4, 40, (⟨30, 50⟩ : S38), false⟩ : S43), (⟨7, 50, (⟨30, 70⟩ : S38), false⟩ : S43)] : List (S43)))).bind fun t193 => (some t193)) else (some false))) else (some false))) else (some false)) else (some false)) else (some false)) else (some false)) else (some false)) else (some false)) else (some false))))))) = some true := by first | (rw [hy135]; with_reducible exact H) | (have H2_ := (Option.bind_some _ _).symm.trans H; rw [hy135]; with_reducible exact H2_) | (have H2_ := (Option.bind_some _ _).symm.trans H; with_reducible exact H2_) | with_reducible exact H | (rw [hy135]; exact H) | exact H
 have Ny135 := Aside0.mk hy135
 clear hy135
 obtain ⟨y138, hy138⟩ : ∃ y_ : List (S38), y_ = (([(⟨3, 3⟩ : S38), (⟨2, 4⟩ : S38)] : List (S38))) := ⟨_, rfl⟩
 replace H : ((charges_Share.f 100 10 y135 y138).bind fun bt141 => ((charges_Share.f 100 10 (([1, 2] : List Int)) (([(⟨3, 3⟩ : S38), (⟨6, 10⟩ : S38)] : List (S38)))).bind fun bt152 => ((some (([(⟨1, 0, 2⟩ : S63), (⟨2, 1, 0⟩ : S63), (⟨3, 1, 0⟩ : S63)] : List (S63)) : List (S63))).bind fun y157 => ((charges_Network.f 100 y157 (([(⟨10, 10⟩ : S38), (⟨3, 5⟩ : S38), (⟨0, 100⟩ : S38)] : List (S38))) (([4, 7] : List Int))).bind fun bt166 => ((charges_Network.f 100 y157 (([(⟨9, 10⟩ : S38), (⟨3, 5⟩ : S38), (⟨0, 100⟩ : S38)] : List (S38))) (([4, 7] : List Int))).bind fun bt177 => (if bt141.2.2 = 0 then (if bt152.2.2 = 0 then (if bt166.2.2 = 0 then (if bt177.2.2 = 3 then (if bt141.2.1 = 40 then (if bt152.2.1 = 0 then (if bt166.2.1 = 10 then ((cohousingref29_Same.f k bt141.1 (([(⟨1, 30, (⟨30, 30⟩ : S38), true⟩ : S43), (⟨2, 30, (⟨20, 40⟩ : S38), false⟩ : S43)] : List (S43)))).bind fun t185 => (if t185 = true then ((cohousingref29_Same.f k bt152.1 (([(⟨1, 30, (⟨30, 30⟩ : S38), true⟩ : S43), (⟨2, 70, (⟨60, 100⟩ : S38), false⟩ : S43)] : List (S43)))).bind fun t189 => (if t189 = true then ((cohousingref29_Same.f k bt166.1 (([(⟨4, 40, (⟨30, 50⟩ : S38), false⟩ : S43), (⟨7, 50, (⟨30, 70⟩ : S38), false⟩ : S43)] : List (S43)))).bind fun t193 => (some t193)) else (some false))) else (some false))) else (some false)) else (some false)) else (some false)) else (some false)) else (some false)) else (some false)) else (some false))))))) = some true := by first | (rw [hy138]; with_reducible exact H) | (have H2_ := (Option.bind_some _ _).symm.trans H; rw [hy138]; with_reducible exact H2_) | (have H2_ := (Option.bind_some _ _).symm.trans H; with_reducible exact H2_) | with_reducible exact H | (rw [hy138]; exact H) | exact H
 have Ny138 := Aside0.mk hy138
 clear hy138
 replace H := Option.bind_eq_some_iff.mp H
 obtain ⟨⟨t141, t142, t143⟩, A10, H⟩ := H
 replace H : ((charges_Share.f 100 10 (([1, 2] : List Int)) (([(⟨3, 3⟩ : S38), (⟨6, 10⟩ : S38)] : List (S38)))).bind fun bt152 => ((some (([(⟨1, 0, 2⟩ : S63), (⟨2, 1, 0⟩ : S63), (⟨3, 1, 0⟩ : S63)] : List (S63)) : List (S63))).bind fun y157 => ((charges_Network.f 100 y157 (([(⟨10, 10⟩ : S38), (⟨3, 5⟩ : S38), (⟨0, 100⟩ : S38)] : List (S38))) (([4, 7] : List Int))).bind fun bt166 => ((charges_Network.f 100 y157 (([(⟨9, 10⟩ : S38), (⟨3, 5⟩ : S38), (⟨0, 100⟩ : S38)] : List (S38))) (([4, 7] : List Int))).bind fun bt177 => (if t143 = 0 then (if bt152.2.2 = 0 then (if bt166.2.2 = 0 then (if bt177.2.2 = 3 then (if t142 = 40 then (if bt152.2.1 = 0 then (if bt166.2.1 = 10 then ((cohousingref29_Same.f k t141 (([(⟨1, 30, (⟨30, 30⟩ : S38), true⟩ : S43), (⟨2, 30, (⟨20, 40⟩ : S38), false⟩ : S43)] : List (S43)))).bind fun t185 => (if t185 = true then ((cohousingref29_Same.f k bt152.1 (([(⟨1, 30, (⟨30, 30⟩ : S38), true⟩ : S43), (⟨2, 70, (⟨60, 100⟩ : S38), false⟩ : S43)] : List (S43)))).bind fun t189 => (if t189 = true then ((cohousingref29_Same.f k bt166.1 (([(⟨4, 40, (⟨30, 50⟩ : S38), false⟩ : S43), (⟨7, 50, (⟨30, 70⟩ : S38), false⟩ : S43)] : List (S43)))).bind fun t193 => (some t193)) else (some false))) else (some false))) else (some false)) else (some false)) else (some false)) else (some false)) else (some false)) else (some false)) else (some false)))))) = some true := H
 have A1 := Aside0.mk A10
 clear A10
 obtain ⟨y146, hy146⟩ : ∃ y_ : List Int, y_ = (([1, 2] : List Int)) := ⟨_, rfl⟩
 replace H : ((charges_Share.f 100 10 y146 (([(⟨3, 3⟩ : S38), (⟨6, 10⟩ : S38)] : List (S38)))).bind fun bt152 => ((some (([(⟨1, 0, 2⟩ : S63), (⟨2, 1, 0⟩ : S63), (⟨3, 1, 0⟩ : S63)] : List (S63)) : List (S63))).bind fun y157 => ((charges_Network.f 100 y157 (([(⟨10, 10⟩ : S38), (⟨3, 5⟩ : S38), (⟨0, 100⟩ : S38)] : List (S38))) (([4, 7] : List Int))).bind fun bt166 => ((charges_Network.f 100 y157 (([(⟨9, 10⟩ : S38), (⟨3, 5⟩ : S38), (⟨0, 100⟩ : S38)] : List (S38))) (([4, 7] : List Int))).bind fun bt177 => (if t143 = 0 then (if bt152.2.2 = 0 then (if bt166.2.2 = 0 then (if bt177.2.2 = 3 then (if t142 = 40 then (if bt152.2.1 = 0 then (if bt166.2.1 = 10 then ((cohousingref29_Same.f k t141 (([(⟨1, 30, (⟨30, 30⟩ : S38), true⟩ : S43), (⟨2, 30, (⟨20, 40⟩ : S38), false⟩ : S43)] : List (S43)))).bind fun t185 => (if t185 = true then ((cohousingref29_Same.f k bt152.1 (([(⟨1, 30, (⟨30, 30⟩ : S38), true⟩ : S43), (⟨2, 70, (⟨60, 100⟩ : S38), false⟩ : S43)] : List (S43)))).bind fun t189 => (if t189 = true then ((cohousingref29_Same.f k bt166.1 (([(⟨4, 40, (⟨30, 50⟩ : S38), false⟩ : S43), (⟨7, 50, (⟨30, 70⟩ : S38), false⟩ : S43)] : List (S43)))).bind fun t193 => (some t193)) else (some false))) else (some false))) else (some false)) else (some false)) else (some false)) else (some false)) else (some false)) else (some false)) else (some false)))))) = some true := by first | (rw [hy146]; with_reducible exact H) | (have H2_ := (Option.bind_some _ _).symm.trans H; rw [hy146]; with_reducible exact H2_) | (have H2_ := (Option.bind_some _ _).symm.trans H; with_reducible exact H2_) | with_reducible exact H | (rw [hy146]; exact H) | exact H
 have Ny146 := Aside0.mk hy146
 clear hy146
 obtain ⟨y149, hy149⟩ : ∃ y_ : List (S38), y_ = (([(⟨3, 3⟩ : S38), (⟨6, 10⟩ : S38)] : List (S38))) := ⟨_, rfl⟩
 replace H : ((charges_Share.f 100 10 y146 y149).bind fun bt152 => ((some (([(⟨1, 0, 2⟩ : S63), (⟨2, 1, 0⟩ : S63), (⟨3, 1, 0⟩ : S63)] : List (S63)) : List (S63))).bind fun y157 => ((charges_Network.f 100 y157 (([(⟨10, 10⟩ : S38), (⟨3, 5⟩ : S38), (⟨0, 100⟩ : S38)] : List (S38))) (([4, 7] : List Int))).bind fun bt166 => ((charges_Network.f 100 y157 (([(⟨9, 10⟩ : S38), (⟨3, 5⟩ : S38), (⟨0, 100⟩ : S38)] : List (S38))) (([4, 7] : List Int))).bind fun bt177 => (if t143 = 0 then (if bt152.2.2 = 0 then (if bt166.2.2 = 0 then (if bt177.2.2 = 3 then (if t142 = 40 then (if bt152.2.1 = 0 then (if bt166.2.1 = 10 then ((cohousingref29_Same.f k t141 (([(⟨1, 30, (⟨30, 30⟩ : S38), true⟩ : S43), (⟨2, 30, (⟨20, 40⟩ : S38), false⟩ : S43)] : List (S43)))).bind fun t185 => (if t185 = true then ((cohousingref29_Same.f k bt152.1 (([(⟨1, 30, (⟨30, 30⟩ : S38), true⟩ : S43), (⟨2, 70, (⟨60, 100⟩ : S38), false⟩ : S43)] : List (S43)))).bind fun t189 => (if t189 = true then ((cohousingref29_Same.f k bt166.1 (([(⟨4, 40, (⟨30, 50⟩ : S38), false⟩ : S43), (⟨7, 50, (⟨30, 70⟩ : S38), false⟩ : S43)] : List (S43)))).bind fun t193 => (some t193)) else (some false))) else (some false))) else (some false)) else (some false)) else (some false)) else (some false)) else (some false)) else (some false)) else (some false)))))) = some true := by first | (rw [hy149]; with_reducible exact H) | (have H2_ := (Option.bind_some _ _).symm.trans H; rw [hy149]; with_reducible exact H2_) | (have H2_ := (Option.bind_some _ _).symm.trans H; with_reducible exact H2_) | with_reducible exact H | (rw [hy149]; exact H) | exact H
 have Ny149 := Aside0.mk hy149
 clear hy149
 replace H := Option.bind_eq_some_iff.mp H
 obtain ⟨⟨t152, t153, t154⟩, A20, H⟩ := H
 replace H : ((some (([(⟨1, 0, 2⟩ : S63), (⟨2, 1, 0⟩ : S63), (⟨3, 1, 0⟩ : S63)] : List (S63)) : List (S63))).bind fun y157 => ((charges_Network.f 100 y157 (([(⟨10, 10⟩ : S38), (⟨3, 5⟩ : S38), (⟨0, 100⟩ : S38)] : List (S38))) (([4, 7] : List Int))).bind fun bt166 => ((charges_Network.f 100 y157 (([(⟨9, 10⟩ : S38), (⟨3, 5⟩ : S38), (⟨0, 100⟩ : S38)] : List (S38))) (([4, 7] : List Int))).bind fun bt177 => (if t143 = 0 then (if t154 = 0 then (if bt166.2.2 = 0 then (if bt177.2.2 = 3 then (if t142 = 40 then (if t153 = 0 then (if bt166.2.1 = 10 then ((cohousingref29_Same.f k t141 (([(⟨1, 30, (⟨30, 30⟩ : S38), true⟩ : S43), (⟨2, 30, (⟨20, 40⟩ : S38), false⟩ : S43)] : List (S43)))).bind fun t185 => (if t185 = true then ((cohousingref29_Same.f k t152 (([(⟨1, 30, (⟨30, 30⟩ : S38), true⟩ : S43), (⟨2, 70, (⟨60, 100⟩ : S38), false⟩ : S43)] : List (S43)))).bind fun t189 => (if t189 = true then ((cohousingref29_Same.f k bt166.1 (([(⟨4, 40, (⟨30, 50⟩ : S38), false⟩ : S43), (⟨7, 50, (⟨30, 70⟩ : S38), false⟩ : S43)] : List (S43)))).bind fun t193 => (some t193)) else (some false))) else (some false))) else (some false)) else (some false)) else (some false)) else (some false)) else (some false)) else (some false)) else (some false))))) = some true := H
 have A2 := Aside0.mk A20
 clear A20
 obtain ⟨y157, hy157⟩ : ∃ y_ : List (S63), y_ = (([(⟨1, 0, 2⟩ : S63), (⟨2, 1, 0⟩ : S63), (⟨3, 1, 0⟩ : S63)] : List (S63))) := ⟨_, rfl⟩
 replace H : ((charges_Network.f 100 y157 (([(⟨10, 10⟩ : S38), (⟨3, 5⟩ : S38), (⟨0, 100⟩ : S38)] : List (S38))) (([4, 7] : List Int))).bind fun bt166 => ((charges_Network.f 100 y157 (([(⟨9, 10⟩ : S38), (⟨3, 5⟩ : S38), (⟨0, 100⟩ : S38)] : List (S38))) (([4, 7] : List Int))).bind fun bt177 => (if t143 = 0 then (if t154 = 0 then (if bt166.2.2 = 0 then (if bt177.2.2 = 3 then (if t142 = 40 then (if t153 = 0 then (if bt166.2.1 = 10 then ((cohousingref29_Same.f k t141 (([(⟨1, 30, (⟨30, 30⟩ : S38), true⟩ : S43), (⟨2, 30, (⟨20, 40⟩ : S38), false⟩ : S43)] : List (S43)))).bind fun t185 => (if t185 = true then ((cohousingref29_Same.f k t152 (([(⟨1, 30, (⟨30, 30⟩ : S38), true⟩ : S43), (⟨2, 70, (⟨60, 100⟩ : S38), false⟩ : S43)] : List (S43)))).bind fun t189 => (if t189 = true then ((cohousingref29_Same.f k bt166.1 (([(⟨4, 40, (⟨30, 50⟩ : S38), false⟩ : S43), (⟨7, 50, (⟨30, 70⟩ : S38), false⟩ : S43)] : List (S43)))).bind fun t193 => (some t193)) else (some false))) else (some false))) else (some false)) else (some false)) else (some false)) else (some false)) else (some false)) else (some false)) else (some false)))) = some true := by first | (rw [hy157]; with_reducible exact H) | (have H2_ := (Option.bind_some _ _).symm.trans H; rw [hy157]; with_reducible exact H2_) | (have H2_ := (Option.bind_some _ _).symm.trans H; with_reducible exact H2_) | with_reducible exact H | (rw [hy157]; exact H) | exact H
 have Ny157 := Aside0.mk hy157
 clear hy157
 obtain ⟨y160, hy160⟩ : ∃ y_ : List (S38), y_ = (([(⟨10, 10⟩ : S38), (⟨3, 5⟩ : S38), (⟨0, 100⟩ : S38)] : List (S38))) := ⟨_, rfl⟩
 replace H : ((charges_Network.f 100 y157 y160 (([4, 7] : List Int))).bind fun bt166 => ((charges_Network.f 100 y157 (([(⟨9, 10⟩ : S38), (⟨3, 5⟩ : S38), (⟨0, 100⟩ : S38)] : List (S38))) (([4, 7] : List Int))).bind fun bt177 => (if t143 = 0 then (if t154 = 0 then (if bt166.2.2 = 0 then (if bt177.2.2 = 3 then (if t142 = 40 then (if t153 = 0 then (if bt166.2.1 = 10 then ((cohousingref29_Same.f k t141 (([(⟨1, 30, (⟨30, 30⟩ : S38), true⟩ : S43), (⟨2, 30, (⟨20, 40⟩ : S38), false⟩ : S43)] : List (S43)))).bind fun t185 => (if t185 = true then ((cohousingref29_Same.f k t152 (([(⟨1, 30, (⟨30, 30⟩ : S38), true⟩ : S43), (⟨2, 70, (⟨60, 100⟩ : S38), false⟩ : S43)] : List (S43)))).bind fun t189 => (if t189 = true then ((cohousingref29_Same.f k bt166.1 (([(⟨4, 40, (⟨30, 50⟩ : S38), false⟩ : S43), (⟨7, 50, (⟨30, 70⟩ : S38), false⟩ : S43)] : List (S43)))).bind fun t193 => (some t193)) else (some false))) else (some false))) else (some false)) else (some false)) else (some false)) else (some false)) else (some false)) else (some false)) else (some false)))) = some true := by first | (rw [hy160]; with_reducible exact H) | (have H2_ := (Option.bind_some _ _).symm.trans H; rw [hy160]; with_reducible exact H2_) | (have H2_ := (Option.bind_some _ _).symm.trans H; with_reducible exact H2_) | with_reducible exact H | (rw [hy160]; exact H) | exact H
 have Ny160 := Aside0.mk hy160
 clear hy160
 obtain ⟨y163, hy163⟩ : ∃ y_ : List Int, y_ = (([4, 7] : List Int)) := ⟨_, rfl⟩
 replace H : ((charges_Network.f 100 y157 y160 y163).bind fun bt166 => ((charges_Network.f 100 y157 (([(⟨9, 10⟩ : S38), (⟨3, 5⟩ : S38), (⟨0, 100⟩ : S38)] : List (S38))) (([4, 7] : List Int))).bind fun bt177 => (if t143 = 0 then (if t154 = 0 then (if bt166.2.2 = 0 then (if bt177.2.2 = 3 then (if t142 = 40 then (if t153 = 0 then (if bt166.2.1 = 10 then ((cohousingref29_Same.f k t141 (([(⟨1, 30, (⟨30, 30⟩ : S38), true⟩ : S43), (⟨2, 30, (⟨20, 40⟩ : S38), false⟩ : S43)] : List (S43)))).bind fun t185 => (if t185 = true then ((cohousingref29_Same.f k t152 (([(⟨1, 30, (⟨30, 30⟩ : S38), true⟩ : S43), (⟨2, 70, (⟨60, 100⟩ : S38), false⟩ : S43)] : List (S43)))).bind fun t189 => (if t189 = true then ((cohousingref29_Same.f k bt166.1 (([(⟨4, 40, (⟨30, 50⟩ : S38), false⟩ : S43), (⟨7, 50, (⟨30, 70⟩ : S38), false⟩ : S43)] : List (S43)))).bind fun t193 => (some t193)) else (some false))) else (some false))) else (some false)) else (some false)) else (some false)) else (some false)) else (some false)) else (some false)) else (some false)))) = some true := by first | (rw [hy163]; with_reducible exact H) | (have H2_ := (Option.bind_some _ _).symm.trans H; rw [hy163]; with_reducible exact H2_) | (have H2_ := (Option.bind_some _ _).symm.trans H; with_reducible exact H2_) | with_reducible exact H | (rw [hy163]; exact H) | exact H
 have Ny163 := Aside0.mk hy163
 clear hy163
 replace H := Option.bind_eq_some_iff.mp H
 obtain ⟨⟨t166, t167, t168⟩, A30, H⟩ := H
 replace H : ((charges_Network.f 100 y157 (([(⟨9, 10⟩ : S38), (⟨3, 5⟩ : S38), (⟨0, 100⟩ : S38)] : List (S38))) (([4, 7] : List Int))).bind fun bt177 => (if t143 = 0 then (if t154 = 0 then (if t168 = 0 then (if bt177.2.2 = 3 then (if t142 = 40 then (if t153 = 0 then (if t167 = 10 then ((cohousingref29_Same.f k t141 (([(⟨1, 30, (⟨30, 30⟩ : S38), true⟩ : S43), (⟨2, 30, (⟨20, 40⟩ : S38), false⟩ : S43)] : List (S43)))).bind fun t185 => (if t185 = true then ((cohousingref29_Same.f k t152 (([(⟨1, 30, (⟨30, 30⟩ : S38), true⟩ : S43), (⟨2, 70, (⟨60, 100⟩ : S38), false⟩ : S43)] : List (S43)))).bind fun t189 => (if t189 = true then ((cohousingref29_Same.f k t166 (([(⟨4, 40, (⟨30, 50⟩ : S38), false⟩ : S43), (⟨7, 50, (⟨30, 70⟩ : S38), false⟩ : S43)] : List (S43)))).bind fun t193 => (some t193)) else (some false))) else (some false))) else (some false)) else (some false)) else (some false)) else (some false)) else (some false)) else (some false)) else (some false))) = some true := H
 have A3 := Aside0.mk A30
 clear A30
 obtain ⟨y171, hy171⟩ : ∃ y_ : List (S38), y_ = (([(⟨9, 10⟩ : S38), (⟨3, 5⟩ : S38), (⟨0, 100⟩ : S38)] : List (S38))) := ⟨_, rfl⟩
 replace H : ((charges_Network.f 100 y157 y171 (([4, 7] : List Int))).bind fun bt177 => (if t143 = 0 then (if t154 = 0 then (if t168 = 0 then (if bt177.2.2 = 3 then (if t142 = 40 then (if t153 = 0 then (if t167 = 10 then ((cohousingref29_Same.f k t141 (([(⟨1, 30, (⟨30, 30⟩ : S38), true⟩ : S43), (⟨2, 30, (⟨20, 40⟩ : S38), false⟩ : S43)] : List (S43)))).bind fun t185 => (if t185 = true then ((cohousingref29_Same.f k t152 (([(⟨1, 30, (⟨30, 30⟩ : S38), true⟩ : S43), (⟨2, 70, (⟨60, 100⟩ : S38), false⟩ : S43)] : List (S43)))).bind fun t189 => (if t189 = true then ((cohousingref29_Same.f k t166 (([(⟨4, 40, (⟨30, 50⟩ : S38), false⟩ : S43), (⟨7, 50, (⟨30, 70⟩ : S38), false⟩ : S43)] : List (S43)))).bind fun t193 => (some t193)) else (some false))) else (some false))) else (some false)) else (some false)) else (some false)) else (some false)) else (some false)) else (some false)) else (some false))) = some true := by first | (rw [hy171]; with_reducible exact H) | (have H2_ := (Option.bind_some _ _).symm.trans H; rw [hy171]; with_reducible exact H2_) | (have H2_ := (Option.bind_some _ _).symm.trans H; with_reducible exact H2_) | with_reducible exact H | (rw [hy171]; exact H) | exact H
 have Ny171 := Aside0.mk hy171
 clear hy171
 obtain ⟨y174, hy174⟩ : ∃ y_ : List Int, y_ = (([4, 7] : List Int)) := ⟨_, rfl⟩
 replace H : ((charges_Network.f 100 y157 y171 y174).bind fun bt177 => (if t143 = 0 then (if t154 = 0 then (if t168 = 0 then (if bt177.2.2 = 3 then (if t142 = 40 then (if t153 = 0 then (if t167 = 10 then ((cohousingref29_Same.f k t141 (([(⟨1, 30, (⟨30, 30⟩ : S38), true⟩ : S43), (⟨2, 30, (⟨20, 40⟩ : S38), false⟩ : S43)] : List (S43)))).bind fun t185 => (if t185 = true then ((cohousingref29_Same.f k t152 (([(⟨1, 30, (⟨30, 30⟩ : S38), true⟩ : S43), (⟨2, 70, (⟨60, 100⟩ : S38), false⟩ : S43)] : List (S43)))).bind fun t189 => (if t189 = true then ((cohousingref29_Same.f k t166 (([(⟨4, 40, (⟨30, 50⟩ : S38), false⟩ : S43), (⟨7, 50, (⟨30, 70⟩ : S38), false⟩ : S43)] : List (S43)))).bind fun t193 => (some t193)) else (some false))) else (some false))) else (some false)) else (some false)) else (some false)) else (some false)) else (some false)) else (some false)) else (some false))) = some true := by first | (rw [hy174]; with_reducible exact H) | (have H2_ := (Option.bind_some _ _).symm.trans H; rw [hy174]; with_reducible exact H2_) | (have H2_ := (Option.bind_some _ _).symm.trans H; with_reducible exact H2_) | with_reducible exact H | (rw [hy174]; exact H) | exact H
 have Ny174 := Aside0.mk hy174
 clear hy174
 replace H := Option.bind_eq_some_iff.mp H
 obtain ⟨⟨t177, t178, t179⟩, A40, H⟩ := H
 replace H : (if t143 = 0 then (if t154 = 0 then (if t168 = 0 then (if t179 = 3 then (if t142 = 40 then (if t153 = 0 then (if t167 = 10 then ((cohousingref29_Same.f k t141 (([(⟨1, 30, (⟨30, 30⟩ : S38), true⟩ : S43), (⟨2, 30, (⟨20, 40⟩ : S38), false⟩ : S43)] : List (S43)))).bind fun t185 => (if t185 = true then ((cohousingref29_Same.f k t152 (([(⟨1, 30, (⟨30, 30⟩ : S38), true⟩ : S43), (⟨2, 70, (⟨60, 100⟩ : S38), false⟩ : S43)] : List (S43)))).bind fun t189 => (if t189 = true then ((cohousingref29_Same.f k t166 (([(⟨4, 40, (⟨30, 50⟩ : S38), false⟩ : S43), (⟨7, 50, (⟨30, 70⟩ : S38), false⟩ : S43)] : List (S43)))).bind fun t193 => (some t193)) else (some false))) else (some false))) else (some false)) else (some false)) else (some false)) else (some false)) else (some false)) else (some false)) else (some false)) = some true := H
 have A4 := Aside0.mk A40
 clear A40
 by_cases c5 : t143 = 0
 ·rw [if_pos c5] at H
  have c5b0 : (t143 == 0) = true := beq_iff_eq.mpr c5
  have c5b1 : (t143 != 0) = false := bne_eq_false_iff_eq.mpr c5
  clear c5
  by_cases c6 : t154 = 0
  ·rw [if_pos c6] at H
   have c6b0 : (t154 == 0) = true := beq_iff_eq.mpr c6
   have c6b1 : (t154 != 0) = false := bne_eq_false_iff_eq.mpr c6
   clear c6
   by_cases c7 : t168 = 0
   ·rw [if_pos c7] at H
    have c7b0 : (t168 == 0) = true := beq_iff_eq.mpr c7
    have c7b1 : (t168 != 0) = false := bne_eq_false_iff_eq.mpr c7
    clear c7
    by_cases c8 : t179 = 3
    ·rw [if_pos c8] at H
     have c8b0 : (t179 == 3) = true := beq_iff_eq.mpr c8
     have c8b1 : (t179 != 3) = false := bne_eq_false_iff_eq.mpr c8
     clear c8
     by_cases c9 : t142 = 40
     ·rw [if_pos c9] at H
      have c9b0 : (t142 == 40) = true := beq_iff_eq.mpr c9
      have c9b1 : (t142 != 40) = false := bne_eq_false_iff_eq.mpr c9
      clear c9
      by_cases c10 : t153 = 0
      ·rw [if_pos c10] at H
       have c10b0 : (t153 == 0) = true := beq_iff_eq.mpr c10
       have c10b1 : (t153 != 0) = false := bne_eq_false_iff_eq.mpr c10
       clear c10
       by_cases c11 : t167 = 10
       ·rw [if_pos c11] at H
        have c11b0 : (t167 == 10) = true := beq_iff_eq.mpr c11
        have c11b1 : (t167 != 10) = false := bne_eq_false_iff_eq.mpr c11
        clear c11
        obtain ⟨y182, hy182⟩ : ∃ y_ : List (S43), y_ = (([(⟨1, 30, (⟨30, 30⟩ : S38), true⟩ : S43), (⟨2, 30, (⟨20, 40⟩ : S38), false⟩ : S43)] : List (S43))) := ⟨_, rfl⟩
        replace H : ((cohousingref29_Same.f k t141 y182).bind fun t185 => (if t185 = true then ((cohousingref29_Same.f k t152 (([(⟨1, 30, (⟨30, 30⟩ : S38), true⟩ : S43), (⟨2, 70, (⟨60, 100⟩ : S38), false⟩ : S43)] : List (S43)))).bind fun t189 => (if t189 = true then ((cohousingref29_Same.f k t166 (([(⟨4, 40, (⟨30, 50⟩ : S38), false⟩ : S43), (⟨7, 50, (⟨30, 70⟩ : S38), false⟩ : S43)] : List (S43)))).bind fun t193 => (some t193)) else (some false))) else (some false))) = some true := by first | (rw [hy182]; with_reducible exact H) | (have H2_ := (Option.bind_some _ _).symm.trans H; rw [hy182]; with_reducible exact H2_) | (have H2_ := (Option.bind_some _ _).symm.trans H; with_reducible exact H2_) | with_reducible exact H | (rw [hy182]; exact H) | exact H
        have Ny182 := Aside0.mk hy182
        clear hy182
        replace H := Option.bind_eq_some_iff.mp H
        obtain ⟨t185, A120, H⟩ := H
        replace H : (if t185 = true then ((cohousingref29_Same.f k t152 (([(⟨1, 30, (⟨30, 30⟩ : S38), true⟩ : S43), (⟨2, 70, (⟨60, 100⟩ : S38), false⟩ : S43)] : List (S43)))).bind fun t189 => (if t189 = true then ((cohousingref29_Same.f k t166 (([(⟨4, 40, (⟨30, 50⟩ : S38), false⟩ : S43), (⟨7, 50, (⟨30, 70⟩ : S38), false⟩ : S43)] : List (S43)))).bind fun t193 => (some t193)) else (some false))) else (some false)) = some true := H
        have A12 := Aside0.mk A120
        clear A120
        by_cases c13 : t185 = true
        ·subst c13
         have H1 : ((cohousingref29_Same.f k t152 (([(⟨1, 30, (⟨30, 30⟩ : S38), true⟩ : S43), (⟨2, 70, (⟨60, 100⟩ : S38), false⟩ : S43)] : List (S43)))).bind fun t189 => (if t189 = true then ((cohousingref29_Same.f k t166 (([(⟨4, 40, (⟨30, 50⟩ : S38), false⟩ : S43), (⟨7, 50, (⟨30, 70⟩ : S38), false⟩ : S43)] : List (S43)))).bind fun t193 => (some t193)) else (some false))) = some true := by rw [if_pos rfl] at H; exact H
         clear H
         have H := H1
         clear H1
         obtain ⟨y186, hy186⟩ : ∃ y_ : List (S43), y_ = (([(⟨1, 30, (⟨30, 30⟩ : S38), true⟩ : S43), (⟨2, 70, (⟨60, 100⟩ : S38), false⟩ : S43)] : List (S43))) := ⟨_, rfl⟩
         replace H : ((cohousingref29_Same.f k t152 y186).bind fun t189 => (if t189 = true then ((cohousingref29_Same.f k t166 (([(⟨4, 40, (⟨30, 50⟩ : S38), false⟩ : S43), (⟨7, 50, (⟨30, 70⟩ : S38), false⟩ : S43)] : List (S43)))).bind fun t193 => (some t193)) else (some false))) = some true := by first | (rw [hy186]; with_reducible exact H) | (have H2_ := (Option.bind_some _ _).symm.trans H; rw [hy186]; with_reducible exact H2_) | (have H2_ := (Option.bind_some _ _).symm.trans H; with_reducible exact H2_) | with_reducible exact H | (rw [hy186]; exact H) | exact H
         have Ny186 := Aside0.mk hy186
         clear hy186
         replace H := Option.bind_eq_some_iff.mp H
         obtain ⟨t189, A140, H⟩ := H
         replace H : (if t189 = true then ((cohousingref29_Same.f k t166 (([(⟨4, 40, (⟨30, 50⟩ : S38), false⟩ : S43), (⟨7, 50, (⟨30, 70⟩ : S38), false⟩ : S43)] : List (S43)))).bind fun t193 => (some t193)) else (some false)) = some true := H
         have A14 := Aside0.mk A140
         clear A140
         by_cases c15 : t189 = true
         ·subst c15
          have H1 : ((cohousingref29_Same.f k t166 (([(⟨4, 40, (⟨30, 50⟩ : S38), false⟩ : S43), (⟨7, 50, (⟨30, 70⟩ : S38), false⟩ : S43)] : List (S43)))).bind fun t193 => (some t193)) = some true := by rw [if_pos rfl] at H; exact H
          clear H
          have H := H1
          clear H1
          obtain ⟨y190, hy190⟩ : ∃ y_ : List (S43), y_ = (([(⟨4, 40, (⟨30, 50⟩ : S38), false⟩ : S43), (⟨7, 50, (⟨30, 70⟩ : S38), false⟩ : S43)] : List (S43))) := ⟨_, rfl⟩
          replace H : ((cohousingref29_Same.f k t166 y190).bind fun t193 => (some t193)) = some true := by first | (rw [hy190]; with_reducible exact H) | (have H2_ := (Option.bind_some _ _).symm.trans H; rw [hy190]; with_reducible exact H2_) | (have H2_ := (Option.bind_some _ _).symm.trans H; with_reducible exact H2_) | with_reducible exact H | (rw [hy190]; exact H) | exact H
          have Ny190 := Aside0.mk hy190
          clear hy190
          replace H := Option.bind_eq_some_iff.mp H
          obtain ⟨t193, A160, H⟩ := H
          replace H : (some t193) = some true := H
          have A16 := Aside0.mk A160
          clear A160
          have hfin_ := Option.some.inj H
          go_enter Try.func20, Try.ntmps20
          go_wp2_with (first | ((with_reducible refine gate_dst (N := 16) rfl ?_); (try (refine gate_guard (by rfl) ?_; dsimp only)); refine Kd.R_lit (Kd.int .i64) _ 3 ?hg (N := 16) ?hd (xs := ([1, 2] : List Int)) (inner := [.int .i64 1, .int .i64 2]) (ok := fun _ => True) (okp := fun _ => True) ?hr ?hp (fun _ hk => hk) trivial (Below.refl _ _) (Nat.le_refl _) (by simp) ?_; (case hd => rfl); (case hg => rfl); (case hr => first | (go_simp; done) | (go_simp; rfl)); (case hp => exact (Reps.one (show Kd.M (Kd.int .i64) _ _ _ 1 [.int .i64 1] from rfl) (Reps.one (show Kd.M (Kd.int .i64) _ _ _ 2 [.int .i64 2] from rfl) (Reps.none _ _)))); intro v136 w17 ho18 hb hg_ hnew_; clear hg_ hnew_; (first | rw [← Ny135.out] at ho18 | (simp only [Int.reduceToNat] at ho18; rw [← Ny135.out] at ho18)); have n0_ := Aside0.mk (Kd.R_lower ho18 (below_size (bb_ HB))); have n1_ := Aside0.mk (below_step (bb_ HB) hb); clear HB; have HO137 := n0_; have HB := n1_; clear n0_ n1_; clear hb ho18) | ((with_reducible refine gate_dst (N := 19) rfl ?_); (try (refine gate_guard (by rfl) ?_; dsimp only)); refine Kd.R_lit k38 _ 38 ?hg (N := 19) ?hd (xs := ([(⟨3, 3⟩ : S38), (⟨2, 4⟩ : S38)] : List (S38))) (inner := [.int .i64 3, .int .i64 3, .int .i64 2, .int .i64 4]) (ok := fun _ => True) (okp := fun _ => True) ?hr ?hp (fun _ hk => hk) trivial (Below.refl _ _) (Nat.le_refl _) (by simp) ?_; (case hd => rfl); (case hg => rfl); (case hr => first | (go_simp; done) | (go_simp; rfl)); (case hp => exact (Reps.c2 (show Kd.M k38 _ _ _ (⟨3, 3⟩ : S38) [.int .i64 3, .int .i64 3] from (k38_mkM _ _ _ (⟨3, 3⟩ : S38) )) (Reps.c2 (show Kd.M k38 _ _ _ (⟨2, 4⟩ : S38) [.int .i64 2, .int .i64 4] from (k38_mkM _ _ _ (⟨2, 4⟩ : S38) )) (Reps.none _ _)))); intro v139 w19 ho20 hb hg_ hnew_; clear hg_ hnew_; (first | rw [← Ny138.out] at ho20 | (simp only [Int.reduceToNat] at ho20; rw [← Ny138.out] at ho20)); have n0_ := Aside0.mk (Kd.R_below (rr_ HO137) hb); have n1_ := Aside0.mk (Kd.R_lower ho20 (below_size (bb_ HB))); have n2_ := Aside0.mk (below_step (bb_ HB) hb); clear HO137; clear HB; have HO137 := n0_; have HO140 := n1_; have HB := n2_; clear n0_ n1_ n2_; clear hb ho20; obtain ⟨Ao21, co21, eo21⟩ := Kd.R_slice HO137.out; subst eo21; obtain ⟨Ao22, co22, eo22⟩ := Kd.R_slice HO140.out; subst eo22) | ((with_reducible refine gate_callee (f := 25) rfl ?_); refine gl_ (some 20) Try.func25 #[.int .i64 100, .int .i64 10, .slice Ao21 y135.length co21, .slice Ao22 y138.length co22] ?_; (with_reducible refine (charges_Share.calls 100 10 _ _ y135 _ _ y138 t141 t142 t143 _ ?side1 ?side2 ?side3 ?side4 A1.out).mono ?_); (case side1 => exact cc_ ((Kd.R_reads' HO137.out).2.2)); (case side2 => exact (Kd.R_reads' HO137.out).2.1); (case side3 => exact cc_ ((Kd.R_reads' HO140.out).2.2)); (case side4 => exact (Kd.R_reads' HO140.out).2.1); rintro e w23 ⟨v144, rfl, ho0, hb⟩; refine ⟨_, rfl, ?_⟩; have n0_ := Aside0.mk (Kd.R_below (rr_ HO137) hb); have n1_ := Aside0.mk (Kd.R_below (rr_ HO140) hb); have n2_ := Aside0.mk (Kd.R_lower ho0 (below_size (bb_ HB))); have n3_ := Aside0.mk (below_step (bb_ HB) hb); clear HO137; clear HO140; clear HB; have HO137 := n0_; have HO140 := n1_; have HO145 := n2_; have HB := n3_; clear n0_ n1_ n2_ n3_; (try clear hb); (try clear hb2); (try clear hk); (try clear hi); (try clear ho0)) | ((with_reducible refine gate_dst (N := 25) rfl ?_); (try (refine gate_guard (by rfl) ?_; dsimp only)); refine Kd.R_lit (Kd.int .i64) _ 3 ?hg (N := 25) ?hd (xs := ([1, 2] : List Int)) (inner := [.int .i64 1, .int .i64 2]) (ok := fun _ => True) (okp := fun _ => True) ?hr ?hp (fun _ hk => hk) trivial (Below.refl _ _) (Nat.le_refl _) (by simp) ?_; (case hd => rfl); (case hg => rfl); (case hr => first | (go_simp; done) | (go_simp; rfl)); (case hp => exact (Reps.one (show Kd.M (Kd.int .i64) _ _ _ 1 [.int .i64 1] from rfl) (Reps.one (show Kd.M (Kd.int .i64) _ _ _ 2 [.int .i64 2] from rfl) (Reps.none _ _)))); intro v147 w24 ho25 hb hg_ hnew_; clear hg_ hnew_; (first | rw [← Ny146.out] at ho25 | (simp only [Int.reduceToNat] at ho25; rw [← Ny146.out] at ho25)); have n0_ := Aside0.mk (Kd.R_elder' (rr_ HO137) (Kd.R_base ho25) hb); have n1_ := Aside0.mk (Kd.R_below (rr_ HO140) hb); have n2_ := Aside0.mk (Kd.R_below (rr_ HO145) hb); have n3_ := Aside0.mk (Kd.R_lower (Kd.R_new' ho25 (Kd.R_lt (rr_ HO137))) (below_size (bb_ HB))); have n4_ := Aside0.mk (below_step (bb_ HB) hb); clear HO137; clear HO140; clear HO145; clear HB; have HO137 := n0_; have HO140 := n1_; have HO145 := n2_; have HO148 := n3_; have HB := n4_; clear n0_ n1_ n2_ n3_ n4_; clear hb ho25) | ((with_reducible refine gate_dst (N := 28) rfl ?_); (try (refine gate_guard (by rfl) ?_; dsimp only)); refine Kd.R_lit k38 _ 38 ?hg (N := 28) ?hd (xs := ([(⟨3, 3⟩ : S38), (⟨6, 10⟩ : S38)] : List (S38))) (inner := [.int .i64 3, .int .i64 3, .int .i64 6, .int .i64 10]) (ok := fun _ => True) (okp := fun _ => True) ?hr ?hp (fun _ hk => hk) trivial (Below.refl _ _) (Nat.le_refl _) (by simp) ?_; (case hd => rfl); (case hg => rfl); (case hr => first | (go_simp; done) | (go_simp; rfl)); (case hp => exact (Reps.c2 (show Kd.M k38 _ _ _ (⟨3, 3⟩ : S38) [.int .i64 3, .int .i64 3] from (k38_mkM _ _ _ (⟨3, 3⟩ : S38) )) (Reps.c2 (show Kd.M k38 _ _ _ (⟨6, 10⟩ : S38) [.int .i64 6, .int .i64 10] from (k38_mkM _ _ _ (⟨6, 10⟩ : S38) )) (Reps.none _ _)))); intro v150 w26 ho27 hb hg_ hnew_; clear hg_ hnew_; (first | rw [← Ny149.out] at ho27 | (simp only [Int.reduceToNat] at ho27; rw [← Ny149.out] at ho27)); have n0_ := Aside0.mk (Kd.R_below (rr_ HO137) hb); have n1_ := Aside0.mk (Kd.R_elder' (rr_ HO140) (Kd.R_base ho27) hb); have n2_ := Aside0.mk (Kd.R_below (rr_ HO145) hb); have n3_ := Aside0.mk (Kd.R_below (rr_ HO148) hb); have n4_ := Aside0.mk (Kd.R_lower (Kd.R_new' ho27 (Kd.R_lt (rr_ HO140))) (below_size (bb_ HB))); have n5_ := Aside0.mk (below_step (bb_ HB) hb); clear HO137; clear HO140; clear HO145; clear HO148; clear HB; have HO137 := n0_; have HO140 := n1_; have HO145 := n2_; have HO148 := n3_; have HO151 := n4_; have HB := n5_; clear n0_ n1_ n2_ n3_ n4_ n5_; clear hb ho27; obtain ⟨Ao28, co28, eo28⟩ := Kd.R_slice HO148.out; subst eo28; obtain ⟨Ao29, co29, eo29⟩ := Kd.R_slice HO151.out; subst eo29) | ((with_reducible refine gate_callee (f := 25) rfl ?_); refine gl_ (some 29) Try.func25 #[.int .i64 100, .int .i64 10, .slice Ao28 y146.length co28, .slice Ao29 y149.length co29] ?_; (with_reducible refine (charges_Share.calls 100 10 _ _ y146 _ _ y149 t152 t153 t154 _ ?side1 ?side2 ?side3 ?side4 A2.out).mono ?_); (case side1 => exact cc_ ((Kd.R_reads' HO148.out).2.2)); (case side2 => exact (Kd.R_reads' HO148.out).2.1); (case side3 => exact cc_ ((Kd.R_reads' HO151.out).2.2)); (case side4 => exact (Kd.R_reads' HO151.out).2.1); rintro e w30 ⟨v155, rfl, ho0, hb⟩; refine ⟨_, rfl, ?_⟩; have n0_ := Aside0.mk (Kd.R_below (rr_ HO137) hb); have n1_ := Aside0.mk (Kd.R_below (rr_ HO140) hb); have n2_ := Aside0.mk (Kd.R_elder' (rr_ HO145) (Kd.R_base ho0) hb); have n3_ := Aside0.mk (Kd.R_below (rr_ HO148) hb); have n4_ := Aside0.mk (Kd.R_below (rr_ HO151) hb); have n5_ := Aside0.mk (Kd.R_lower (Kd.R_new' ho0 (Kd.R_lt (rr_ HO145))) (below_size (bb_ HB))); have n6_ := Aside0.mk (below_step (bb_ HB) hb); clear HO137; clear HO140; clear HO145; clear HO148; clear HO151; clear HB; have HO137 := n0_; have HO140 := n1_; have HO145 := n2_; have HO148 := n3_; have HO151 := n4_; have HO156 := n5_; have HB := n6_; clear n0_ n1_ n2_ n3_ n4_ n5_ n6_; (try clear hb); (try clear hb2); (try clear hk); (try clear hi); (try clear ho0)) | ((with_reducible refine gate_dst (N := 36) rfl ?_); (try (refine gate_guard (by rfl) ?_; dsimp only)); refine Kd.R_lit k63 _ 63 ?hg (N := 36) ?hd (xs := ([(⟨1, 0, 2⟩ : S63), (⟨2, 1, 0⟩ : S63), (⟨3, 1, 0⟩ : S63)] : List (S63))) (inner := [.int .i64 1, .int .i64 0, .int .i64 2, .int .i64 2, .int .i64 1, .int .i64 0, .int .i64 3, .int .i64 1, .int .i64 0]) (ok := fun _ => True) (okp := fun _ => True) ?hr ?hp (fun _ hk => hk) trivial (Below.refl _ _) (Nat.le_refl _) (by simp) ?_; (case hd => rfl); (case hg => rfl); (case hr => first | (go_simp; done) | (go_simp; rfl)); (case hp => exact (Reps.c3 (show Kd.M k63 _ _ _ (⟨1, 0, 2⟩ : S63) [.int .i64 1, .int .i64 0, .int .i64 2] from (k63_mkM _ _ _ (⟨1, 0, 2⟩ : S63) )) (Reps.c3 (show Kd.M k63 _ _ _ (⟨2, 1, 0⟩ : S63) [.int .i64 2, .int .i64 1, .int .i64 0] from (k63_mkM _ _ _ (⟨2, 1, 0⟩ : S63) )) (Reps.c3 (show Kd.M k63 _ _ _ (⟨3, 1, 0⟩ : S63) [.int .i64 3, .int .i64 1, .int .i64 0] from (k63_mkM _ _ _ (⟨3, 1, 0⟩ : S63) )) (Reps.none _ _))))); intro v158 w31 ho32 hb hg_ hnew_; clear hg_ hnew_; (first | rw [← Ny157.out] at ho32 | (simp only [Int.reduceToNat] at ho32; rw [← Ny157.out] at ho32)); have n0_ := Aside0.mk (Kd.R_below (rr_ HO137) hb); have n1_ := Aside0.mk (Kd.R_below (rr_ HO140) hb); have n2_ := Aside0.mk (Kd.R_below (rr_ HO145) hb); have n3_ := Aside0.mk (Kd.R_below (rr_ HO148) hb); have n4_ := Aside0.mk (Kd.R_below (rr_ HO151) hb); have n5_ := Aside0.mk (Kd.R_below (rr_ HO156) hb); have n6_ := Aside0.mk (Kd.R_lower ho32 (below_size (bb_ HB))); have n7_ := Aside0.mk (below_step (bb_ HB) hb); clear HO137; clear HO140; clear HO145; clear HO148; clear HO151; clear HO156; clear HB; have HO137 := n0_; have HO140 := n1_; have HO145 := n2_; have HO148 := n3_; have HO151 := n4_; have HO156 := n5_; have HO159 := n6_; have HB := n7_; clear n0_ n1_ n2_ n3_ n4_ n5_ n6_ n7_; clear hb ho32) | ((with_reducible refine gate_dst (N := 42) rfl ?_); (try (refine gate_guard (by rfl) ?_; dsimp only)); refine Kd.R_lit k38 _ 38 ?hg (N := 42) ?hd (xs := ([(⟨10, 10⟩ : S38), (⟨3, 5⟩ : S38), (⟨0, 100⟩ : S38)] : List (S38))) (inner := [.int .i64 10, .int .i64 10, .int .i64 3, .int .i64 5, .int .i64 0, .int .i64 100]) (ok := fun _ => True) (okp := fun _ => True) ?hr ?hp (fun _ hk => hk) trivial (Below.refl _ _) (Nat.le_refl _) (by simp) ?_; (case hd => rfl); (case hg => rfl); (case hr => first | (go_simp; done) | (go_simp; rfl)); (case hp => exact (Reps.c2 (show Kd.M k38 _ _ _ (⟨10, 10⟩ : S38) [.int .i64 10, .int .i64 10] from (k38_mkM _ _ _ (⟨10, 10⟩ : S38) )) (Reps.c2 (show Kd.M k38 _ _ _ (⟨3, 5⟩ : S38) [.int .i64 3, .int .i64 5] from (k38_mkM _ _ _ (⟨3, 5⟩ : S38) )) (Reps.c2 (show Kd.M k38 _ _ _ (⟨0, 100⟩ : S38) [.int .i64 0, .int .i64 100] from (k38_mkM _ _ _ (⟨0, 100⟩ : S38) )) (Reps.none _ _))))); intro v161 w33 ho34 hb hg_ hnew_; clear hg_ hnew_; (first | rw [← Ny160.out] at ho34 | (simp only [Int.reduceToNat] at ho34; rw [← Ny160.out] at ho34)); have n0_ := Aside0.mk (Kd.R_below (rr_ HO137) hb); have n1_ := Aside0.mk (Kd.R_elder' (rr_ HO140) (Kd.R_base ho34) hb); have n2_ := Aside0.mk (Kd.R_below (rr_ HO145) hb); have n3_ := Aside0.mk (Kd.R_below (rr_ HO148) hb); have n4_ := Aside0.mk (Kd.R_elder' (rr_ HO151) (Kd.R_base ho34) hb); have n5_ := Aside0.mk (Kd.R_below (rr_ HO156) hb); have n6_ := Aside0.mk (Kd.R_below (rr_ HO159) hb); have n7_ := Aside0.mk (Kd.R_lower (Kd.R_new' (Kd.R_new' ho34 (Kd.R_lt (rr_ HO140))) (Kd.R_lt (rr_ HO151))) (below_size (bb_ HB))); have n8_ := Aside0.mk (below_step (bb_ HB) hb); clear HO137; clear HO140; clear HO145; clear HO148; clear HO151; clear HO156; clear HO159; clear HB; have HO137 := n0_; have HO140 := n1_; have HO145 := n2_; have HO148 := n3_; have HO151 := n4_; have HO156 := n5_; have HO159 := n6_; have HO162 := n7_; have HB := n8_; clear n0_ n1_ n2_ n3_ n4_ n5_ n6_ n7_ n8_; clear hb ho34) | ((with_reducible refine gate_dst (N := 43) rfl ?_); (try (refine gate_guard (by rfl) ?_; dsimp only)); refine Kd.R_lit (Kd.int .i64) _ 3 ?hg (N := 43) ?hd (xs := ([4, 7] : List Int)) (inner := [.int .i64 4, .int .i64 7]) (ok := fun _ => True) (okp := fun _ => True) ?hr ?hp (fun _ hk => hk) trivial (Below.refl _ _) (Nat.le_refl _) (by simp) ?_; (case hd => rfl); (case hg => rfl); (case hr => first | (go_simp; done) | (go_simp; rfl)); (case hp => exact (Reps.one (show Kd.M (Kd.int .i64) _ _ _ 4 [.int .i64 4] from rfl) (Reps.one (show Kd.M (Kd.int .i64) _ _ _ 7 [.int .i64 7] from rfl) (Reps.none _ _)))); intro v164 w35 ho36 hb hg_ hnew_; clear hg_ hnew_; (first | rw [← Ny163.out] at ho36 | (simp only [Int.reduceToNat] at ho36; rw [← Ny163.out] at ho36)); have n0_ := Aside0.mk (Kd.R_elder' (rr_ HO137) (Kd.R_base ho36) hb); have n1_ := Aside0.mk (Kd.R_below (rr_ HO140) hb); have n2_ := Aside0.mk (Kd.R_below (rr_ HO145) hb); have n3_ := Aside0.mk (Kd.R_elder' (rr_ HO148) (Kd.R_base ho36) hb); have n4_ := Aside0.mk (Kd.R_below (rr_ HO151) hb); have n5_ := Aside0.mk (Kd.R_below (rr_ HO156) hb); have n6_ := Aside0.mk (Kd.R_below (rr_ HO159) hb); have n7_ := Aside0.mk (Kd.R_below (rr_ HO162) hb); have n8_ := Aside0.mk (Kd.R_lower (Kd.R_new' (Kd.R_new' ho36 (Kd.R_lt (rr_ HO137))) (Kd.R_lt (rr_ HO148))) (below_size (bb_ HB))); have n9_ := Aside0.mk (below_step (bb_ HB) hb); clear HO137; clear HO140; clear HO145; clear HO148; clear HO151; clear HO156; clear HO159; clear HO162; clear HB; have HO137 := n0_; have HO140 := n1_; have HO145 := n2_; have HO148 := n3_; have HO151 := n4_; have HO156 := n5_; have HO159 := n6_; have HO162 := n7_; have HO165 := n8_; have HB := n9_; clear n0_ n1_ n2_ n3_ n4_ n5_ n6_ n7_ n8_ n9_; clear hb ho36; obtain ⟨Ao37, co37, eo37⟩ := Kd.R_slice HO159.out; subst eo37; obtain ⟨Ao38, co38, eo38⟩ := Kd.R_slice HO162.out; subst eo38; obtain ⟨Ao39, co39, eo39⟩ := Kd.R_slice HO165.out; subst eo39) | ((with_reducible refine gate_callee (f := 14) rfl ?_); refine gl_ (some 44) Try.func14 #[.int .i64 100, .slice Ao37 y157.length co37, .slice Ao38 y160.length co38, .slice Ao39 y163.length co39] ?_; (with_reducible refine (charges_Network.calls 100 _ _ y157 _ _ y160 _ _ y163 t166 t167 t168 _ ?side1 ?side2 ?side3 ?side4 ?side5 ?side6 A3.out).mono ?_); (case side1 => exact cc_ ((Kd.R_reads' HO159.out).2.2)); (case side2 => exact (Kd.R_reads' HO159.out).2.1); (case side3 => exact cc_ ((Kd.R_reads' HO162.out).2.2)); (case side4 => exact (Kd.R_reads' HO162.out).2.1); (case side5 => exact cc_ ((Kd.R_reads' HO165.out).2.2)); (case side6 => exact (Kd.R_reads' HO165.out).2.1); rintro e w40 ⟨v169, rfl, ho0, hb⟩; refine ⟨_, rfl, ?_⟩; have n0_ := Aside0.mk (Kd.R_below (rr_ HO137) hb); have n1_ := Aside0.mk (Kd.R_below (rr_ HO140) hb); have n2_ := Aside0.mk (Kd.R_elder' (rr_ HO145) (Kd.R_base ho0) hb); have n3_ := Aside0.mk (Kd.R_below (rr_ HO148) hb); have n4_ := Aside0.mk (Kd.R_below (rr_ HO151) hb); have n5_ := Aside0.mk (Kd.R_elder' (rr_ HO156) (Kd.R_base ho0) hb); have n6_ := Aside0.mk (Kd.R_below (rr_ HO159) hb); have n7_ := Aside0.mk (Kd.R_below (rr_ HO162) hb); have n8_ := Aside0.mk (Kd.R_below (rr_ HO165) hb); have n9_ := Aside0.mk (Kd.R_lower (Kd.R_new' (Kd.R_new' ho0 (Kd.R_lt (rr_ HO145))) (Kd.R_lt (rr_ HO156))) (below_size (bb_ HB))); have n10_ := Aside0.mk (below_step (bb_ HB) hb); clear HO137; clear HO140; clear HO145; clear HO148; clear HO151; clear HO156; clear HO159; clear HO162; clear HO165; clear HB; have HO137 := n0_; have HO140 := n1_; have HO145 := n2_; have HO148 := n3_; have HO151 := n4_; have HO156 := n5_; have HO159 := n6_; have HO162 := n7_; have HO165 := n8_; have HO170 := n9_; have HB := n10_; clear n0_ n1_ n2_ n3_ n4_ n5_ n6_ n7_ n8_ n9_ n10_; (try clear hb); (try clear hb2); (try clear hk); (try clear hi); (try clear ho0)) | ((with_reducible refine gate_dst (N := 53) rfl ?_); (try (refine gate_guard (by rfl) ?_; dsimp only)); refine Kd.R_lit k38 _ 38 ?hg (N := 53) ?hd (xs := ([(⟨9, 10⟩ : S38), (⟨3, 5⟩ : S38), (⟨0, 100⟩ : S38)] : List (S38))) (inner := [.int .i64 9, .int .i64 10, .int .i64 3, .int .i64 5, .int .i64 0, .int .i64 100]) (ok := fun _ => True) (okp := fun _ => True) ?hr ?hp (fun _ hk => hk) trivial (Below.refl _ _) (Nat.le_refl _) (by simp) ?_; (case hd => rfl); (case hg => rfl); (case hr => first | (go_simp; done) | (go_simp; rfl)); (case hp => exact (Reps.c2 (show Kd.M k38 _ _ _ (⟨9, 10⟩ : S38) [.int .i64 9, .int .i64 10] from (k38_mkM _ _ _ (⟨9, 10⟩ : S38) )) (Reps.c2 (show Kd.M k38 _ _ _ (⟨3, 5⟩ : S38) [.int .i64 3, .int .i64 5] from (k38_mkM _ _ _ (⟨3, 5⟩ : S38) )) (Reps.c2 (show Kd.M k38 _ _ _ (⟨0, 100⟩ : S38) [.int .i64 0, .int .i64 100] from (k38_mkM _ _ _ (⟨0, 100⟩ : S38) )) (Reps.none _ _))))); intro v172 w41 ho42 hb hg_ hnew_; clear hg_ hnew_; (first | rw [← Ny171.out] at ho42 | (simp only [Int.reduceToNat] at ho42; rw [← Ny171.out] at ho42)); have n0_ := Aside0.mk (Kd.R_below (rr_ HO137) hb); have n1_ := Aside0.mk (Kd.R_elder' (rr_ HO140) (Kd.R_base ho42) hb); have n2_ := Aside0.mk (Kd.R_below (rr_ HO145) hb); have n3_ := Aside0.mk (Kd.R_below (rr_ HO148) hb); have n4_ := Aside0.mk (Kd.R_elder' (rr_ HO151) (Kd.R_base ho42) hb); have n5_ := Aside0.mk (Kd.R_below (rr_ HO156) hb); have n6_ := Aside0.mk (Kd.R_below (rr_ HO159) hb); have n7_ := Aside0.mk (Kd.R_elder' (rr_ HO162) (Kd.R_base ho42) hb); have n8_ := Aside0.mk (Kd.R_below (rr_ HO165) hb); have n9_ := Aside0.mk (Kd.R_below (rr_ HO170) hb); have n10_ := Aside0.mk (Kd.R_lower (Kd.R_new' (Kd.R_new' (Kd.R_new' ho42 (Kd.R_lt (rr_ HO140))) (Kd.R_lt (rr_ HO151))) (Kd.R_lt (rr_ HO162))) (below_size (bb_ HB))); have n11_ := Aside0.mk (below_step (bb_ HB) hb); clear HO137; clear HO140; clear HO145; clear HO148; clear HO151; clear HO156; clear HO159; clear HO162; clear HO165; clear HO170; clear HB; have HO137 := n0_; have HO140 := n1_; have HO145 := n2_; have HO148 := n3_; have HO151 := n4_; have HO156 := n5_; have HO159 := n6_; have HO162 := n7_; have HO165 := n8_; have HO170 := n9_; have HO173 := n10_; have HB := n11_; clear n0_ n1_ n2_ n3_ n4_ n5_ n6_ n7_ n8_ n9_ n10_ n11_; clear hb ho42) | ((with_reducible refine gate_dst (N := 54) rfl ?_); (try (refine gate_guard (by rfl) ?_; dsimp only)); refine Kd.R_lit (Kd.int .i64) _ 3 ?hg (N := 54) ?hd (xs := ([4, 7] : List Int)) (inner := [.int .i64 4, .int .i64 7]) (ok := fun _ => True) (okp := fun _ => True) ?hr ?hp (fun _ hk => hk) trivial (Below.refl _ _) (Nat.le_refl _) (by simp) ?_; (case hd => rfl); (case hg => rfl); (case hr => first | (go_simp; done) | (go_simp; rfl)); (case hp => exact (Reps.one (show Kd.M (Kd.int .i64) _ _ _ 4 [.int .i64 4] from rfl) (Reps.one (show Kd.M (Kd.int .i64) _ _ _ 7 [.int .i64 7] from rfl) (Reps.none _ _)))); intro v175 w43 ho44 hb hg_ hnew_; clear hg_ hnew_; (first | rw [← Ny174.out] at ho44 | (simp only [Int.reduceToNat] at ho44; rw [← Ny174.out] at ho44)); have n0_ := Aside0.mk (Kd.R_elder' (rr_ HO137) (Kd.R_base ho44) hb); have n1_ := Aside0.mk (Kd.R_below (rr_ HO140) hb); have n2_ := Aside0.mk (Kd.R_below (rr_ HO145) hb); have n3_ := Aside0.mk (Kd.R_elder' (rr_ HO148) (Kd.R_base ho44) hb); have n4_ := Aside0.mk (Kd.R_below (rr_ HO151) hb); have n5_ := Aside0.mk (Kd.R_below (rr_ HO156) hb); have n6_ := Aside0.mk (Kd.R_below (rr_ HO159) hb); have n7_ := Aside0.mk (Kd.R_below (rr_ HO162) hb); have n8_ := Aside0.mk (Kd.R_elder' (rr_ HO165) (Kd.R_base ho44) hb); have n9_ := Aside0.mk (Kd.R_below (rr_ HO170) hb); have n10_ := Aside0.mk (Kd.R_below (rr_ HO173) hb); have n11_ := Aside0.mk (Kd.R_lower (Kd.R_new' (Kd.R_new' (Kd.R_new' ho44 (Kd.R_lt (rr_ HO137))) (Kd.R_lt (rr_ HO148))) (Kd.R_lt (rr_ HO165))) (below_size (bb_ HB))); have n12_ := Aside0.mk (below_step (bb_ HB) hb); clear HO137; clear HO140; clear HO145; clear HO148; clear HO151; clear HO156; clear HO159; clear HO162; clear HO165; clear HO170; clear HO173; clear HB; have HO137 := n0_; have HO140 := n1_; have HO145 := n2_; have HO148 := n3_; have HO151 := n4_; have HO156 := n5_; have HO159 := n6_; have HO162 := n7_; have HO165 := n8_; have HO170 := n9_; have HO173 := n10_; have HO176 := n11_; have HB := n12_; clear n0_ n1_ n2_ n3_ n4_ n5_ n6_ n7_ n8_ n9_ n10_ n11_ n12_; clear hb ho44; obtain ⟨Ao45, co45, eo45⟩ := Kd.R_slice HO173.out; subst eo45; obtain ⟨Ao46, co46, eo46⟩ := Kd.R_slice HO176.out; subst eo46) | ((with_reducible refine gate_callee (f := 14) rfl ?_); refine gl_ (some 55) Try.func14 #[.int .i64 100, .slice Ao37 y157.length co37, .slice Ao45 y171.length co45, .slice Ao46 y174.length co46] ?_; (with_reducible refine (charges_Network.calls 100 _ _ y157 _ _ y171 _ _ y174 t177 t178 t179 _ ?side1 ?side2 ?side3 ?side4 ?side5 ?side6 A4.out).mono ?_); (case side1 => exact cc_ ((Kd.R_reads' HO159.out).2.2)); (case side2 => exact (Kd.R_reads' HO159.out).2.1); (case side3 => exact cc_ ((Kd.R_reads' HO173.out).2.2)); (case side4 => exact (Kd.R_reads' HO173.out).2.1); (case side5 => exact cc_ ((Kd.R_reads' HO176.out).2.2)); (case side6 => exact (Kd.R_reads' HO176.out).2.1); rintro e w47 ⟨v180, rfl, ho0, hb⟩; refine ⟨_, rfl, ?_⟩; have n0_ := Aside0.mk (Kd.R_below (rr_ HO137) hb); have n1_ := Aside0.mk (Kd.R_below (rr_ HO140) hb); have n2_ := Aside0.mk (Kd.R_elder' (rr_ HO145) (Kd.R_base ho0) hb); have n3_ := Aside0.mk (Kd.R_below (rr_ HO148) hb); have n4_ := Aside0.mk (Kd.R_below (rr_ HO151) hb); have n5_ := Aside0.mk (Kd.R_elder' (rr_ HO156) (Kd.R_base ho0) hb); have n6_ := Aside0.mk (Kd.R_below (rr_ HO159) hb); have n7_ := Aside0.mk (Kd.R_below (rr_ HO162) hb); have n8_ := Aside0.mk (Kd.R_below (rr_ HO165) hb); have n9_ := Aside0.mk (Kd.R_elder' (rr_ HO170) (Kd.R_base ho0) hb); have n10_ := Aside0.mk (Kd.R_below (rr_ HO173) hb); have n11_ := Aside0.mk (Kd.R_below (rr_ HO176) hb); have n12_ := Aside0.mk (Kd.R_lower (Kd.R_new' (Kd.R_new' (Kd.R_new' ho0 (Kd.R_lt (rr_ HO145))) (Kd.R_lt (rr_ HO156))) (Kd.R_lt (rr_ HO170))) (below_size (bb_ HB))); have n13_ := Aside0.mk (below_step (bb_ HB) hb); clear HO137; clear HO140; clear HO145; clear HO148; clear HO151; clear HO156; clear HO159; clear HO162; clear HO165; clear HO170; clear HO173; clear HO176; clear HB; have HO137 := n0_; have HO140 := n1_; have HO145 := n2_; have HO148 := n3_; have HO151 := n4_; have HO156 := n5_; have HO159 := n6_; have HO162 := n7_; have HO165 := n8_; have HO170 := n9_; have HO173 := n10_; have HO176 := n11_; have HO181 := n12_; have HB := n13_; clear n0_ n1_ n2_ n3_ n4_ n5_ n6_ n7_ n8_ n9_ n10_ n11_ n12_ n13_; (try clear hb); (try clear hb2); (try clear hk); (try clear hi); (try clear ho0)) | ((with_reducible refine gate_dst (N := 92) rfl ?_); (try (refine gate_guard (by rfl) ?_; dsimp only)); refine Kd.R_lit k43 _ 43 ?hg (N := 92) ?hd (xs := ([(⟨1, 30, (⟨30, 30⟩ : S38), true⟩ : S43), (⟨2, 30, (⟨20, 40⟩ : S38), false⟩ : S43)] : List (S43))) (inner := [.int .i64 1, .int .i64 30, .int .i64 30, .int .i64 30, .bool true, .int .i64 2, .int .i64 30, .int .i64 20, .int .i64 40, .bool false]) (ok := fun _ => True) (okp := fun _ => True) ?hr ?hp (fun _ hk => hk) trivial (Below.refl _ _) (Nat.le_refl _) (by simp) ?_; (case hd => rfl); (case hg => rfl); (case hr => first | (go_simp; done) | (go_simp; rfl)); (case hp => exact (Reps.c5 (show Kd.M k43 _ _ _ (⟨1, 30, (⟨30, 30⟩ : S38), true⟩ : S43) [.int .i64 1, .int .i64 30, .int .i64 30, .int .i64 30, .bool true] from (k43_mkM _ _ _ (⟨1, 30, (⟨30, 30⟩ : S38), true⟩ : S43) )) (Reps.c5 (show Kd.M k43 _ _ _ (⟨2, 30, (⟨20, 40⟩ : S38), false⟩ : S43) [.int .i64 2, .int .i64 30, .int .i64 20, .int .i64 40, .bool false] from (k43_mkM _ _ _ (⟨2, 30, (⟨20, 40⟩ : S38), false⟩ : S43) )) (Reps.none _ _)))); intro v183 w48 ho49 hb hg_ hnew_; clear hg_ hnew_; (first | rw [← Ny182.out] at ho49 | (simp only [Int.reduceToNat] at ho49; rw [← Ny182.out] at ho49)); have n0_ := Aside0.mk (Kd.R_below (rr_ HO137) hb); have n1_ := Aside0.mk (Kd.R_below (rr_ HO140) hb); have n2_ := Aside0.mk (Kd.R_elder' (rr_ HO145) (Kd.R_base ho49) hb); have n3_ := Aside0.mk (Kd.R_below (rr_ HO148) hb); have n4_ := Aside0.mk (Kd.R_below (rr_ HO151) hb); have n5_ := Aside0.mk (Kd.R_elder' (rr_ HO156) (Kd.R_base ho49) hb); have n6_ := Aside0.mk (Kd.R_below (rr_ HO159) hb); have n7_ := Aside0.mk (Kd.R_below (rr_ HO162) hb); have n8_ := Aside0.mk (Kd.R_below (rr_ HO165) hb); have n9_ := Aside0.mk (Kd.R_elder' (rr_ HO170) (Kd.R_base ho49) hb); have n10_ := Aside0.mk (Kd.R_below (rr_ HO173) hb); have n11_ := Aside0.mk (Kd.R_below (rr_ HO176) hb); have n12_ := Aside0.mk (Kd.R_elder' (rr_ HO181) (Kd.R_base ho49) hb); have n13_ := Aside0.mk (Kd.R_lower (Kd.R_new' (Kd.R_new' (Kd.R_new' (Kd.R_new' ho49 (Kd.R_lt (rr_ HO145))) (Kd.R_lt (rr_ HO156))) (Kd.R_lt (rr_ HO170))) (Kd.R_lt (rr_ HO181))) (below_size (bb_ HB))); have n14_ := Aside0.mk (below_step (bb_ HB) hb); clear HO137; clear HO140; clear HO145; clear HO148; clear HO151; clear HO156; clear HO159; clear HO162; clear HO165; clear HO170; clear HO173; clear HO176; clear HO181; clear HB; have HO137 := n0_; have HO140 := n1_; have HO145 := n2_; have HO148 := n3_; have HO151 := n4_; have HO156 := n5_; have HO159 := n6_; have HO162 := n7_; have HO165 := n8_; have HO170 := n9_; have HO173 := n10_; have HO176 := n11_; have HO181 := n12_; have HO184 := n13_; have HB := n14_; clear n0_ n1_ n2_ n3_ n4_ n5_ n6_ n7_ n8_ n9_ n10_ n11_ n12_ n13_ n14_; clear hb ho49; obtain ⟨Ao50, co50, eo50⟩ := Kd.R_slice HO145.out; subst eo50; obtain ⟨Ao51, co51, eo51⟩ := Kd.R_slice HO184.out; subst eo51) | (go_at_call 27; (with_reducible refine (cohousingref29_Same.calls k _ _ t141 _ _ y182 true _ ?side1 ?side2 ?side3 ?side4 A12.out).mono ?_); (case side1 => exact cc_ ((Kd.R_reads' HO145.out).2.2)); (case side2 => exact (Kd.R_reads' HO145.out).2.1); (case side3 => exact cc_ ((Kd.R_reads' HO184.out).2.2)); (case side4 => exact (Kd.R_reads' HO184.out).2.1); rintro e w' ⟨rfl, ⟨nd, rfl⟩⟩) | ((with_reducible refine gate_dst (N := 102) rfl ?_); (try (refine gate_guard (by rfl) ?_; dsimp only)); refine Kd.R_lit k43 _ 43 ?hg (N := 102) ?hd (xs := ([(⟨1, 30, (⟨30, 30⟩ : S38), true⟩ : S43), (⟨2, 70, (⟨60, 100⟩ : S38), false⟩ : S43)] : List (S43))) (inner := [.int .i64 1, .int .i64 30, .int .i64 30, .int .i64 30, .bool true, .int .i64 2, .int .i64 70, .int .i64 60, .int .i64 100, .bool false]) (ok := fun _ => True) (okp := fun _ => True) ?hr ?hp (fun _ hk => hk) trivial (Below.refl _ _) (Nat.le_refl _) (by simp) ?_; (case hd => rfl); (case hg => rfl); (case hr => first | (go_simp; done) | (go_simp; rfl)); (case hp => exact (Reps.c5 (show Kd.M k43 _ _ _ (⟨1, 30, (⟨30, 30⟩ : S38), true⟩ : S43) [.int .i64 1, .int .i64 30, .int .i64 30, .int .i64 30, .bool true] from (k43_mkM _ _ _ (⟨1, 30, (⟨30, 30⟩ : S38), true⟩ : S43) )) (Reps.c5 (show Kd.M k43 _ _ _ (⟨2, 70, (⟨60, 100⟩ : S38), false⟩ : S43) [.int .i64 2, .int .i64 70, .int .i64 60, .int .i64 100, .bool false] from (k43_mkM _ _ _ (⟨2, 70, (⟨60, 100⟩ : S38), false⟩ : S43) )) (Reps.none _ _)))); intro v187 w52 ho53 hb hg_ hnew_; clear hg_ hnew_; (first | rw [← Ny186.out] at ho53 | (simp only [Int.reduceToNat] at ho53; rw [← Ny186.out] at ho53)); have n0_ := Aside0.mk (Kd.R_below (rr_ HO137) hb); have n1_ := Aside0.mk (Kd.R_below (rr_ HO140) hb); have n2_ := Aside0.mk (Kd.R_elder' (rr_ HO145) (Kd.R_base ho53) hb); have n3_ := Aside0.mk (Kd.R_below (rr_ HO148) hb); have n4_ := Aside0.mk (Kd.R_below (rr_ HO151) hb); have n5_ := Aside0.mk (Kd.R_elder' (rr_ HO156) (Kd.R_base ho53) hb); have n6_ := Aside0.mk (Kd.R_below (rr_ HO159) hb); have n7_ := Aside0.mk (Kd.R_below (rr_ HO162) hb); have n8_ := Aside0.mk (Kd.R_below (rr_ HO165) hb); have n9_ := Aside0.mk (Kd.R_elder' (rr_ HO170) (Kd.R_base ho53) hb); have n10_ := Aside0.mk (Kd.R_below (rr_ HO173) hb); have n11_ := Aside0.mk (Kd.R_below (rr_ HO176) hb); have n12_ := Aside0.mk (Kd.R_elder' (rr_ HO181) (Kd.R_base ho53) hb); have n13_ := Aside0.mk (Kd.R_elder' (rr_ HO184) (Kd.R_base ho53) hb); have n14_ := Aside0.mk (Kd.R_lower (Kd.R_new' (Kd.R_new' (Kd.R_new' (Kd.R_new' (Kd.R_new' ho53 (Kd.R_lt (rr_ HO145))) (Kd.R_lt (rr_ HO156))) (Kd.R_lt (rr_ HO170))) (Kd.R_lt (rr_ HO181))) (Kd.R_lt (rr_ HO184))) (below_size (bb_ HB))); have n15_ := Aside0.mk (below_step (bb_ HB) hb); clear HO137; clear HO140; clear HO145; clear HO148; clear HO151; clear HO156; clear HO159; clear HO162; clear HO165; clear HO170; clear HO173; clear HO176; clear HO181; clear HO184; clear HB; have HO137 := n0_; have HO140 := n1_; have HO145 := n2_; have HO148 := n3_; have HO151 := n4_; have HO156 := n5_; have HO159 := n6_; have HO162 := n7_; have HO165 := n8_; have HO170 := n9_; have HO173 := n10_; have HO176 := n11_; have HO181 := n12_; have HO184 := n13_; have HO188 := n14_; have HB := n15_; clear n0_ n1_ n2_ n3_ n4_ n5_ n6_ n7_ n8_ n9_ n10_ n11_ n12_ n13_ n14_ n15_; clear hb ho53; obtain ⟨Ao54, co54, eo54⟩ := Kd.R_slice HO156.out; subst eo54; obtain ⟨Ao55, co55, eo55⟩ := Kd.R_slice HO188.out; subst eo55) | (go_at_call 27; (with_reducible refine (cohousingref29_Same.calls k _ _ t152 _ _ y186 true _ ?side1 ?side2 ?side3 ?side4 A14.out).mono ?_); (case side1 => exact cc_ ((Kd.R_reads' HO156.out).2.2)); (case side2 => exact (Kd.R_reads' HO156.out).2.1); (case side3 => exact cc_ ((Kd.R_reads' HO188.out).2.2)); (case side4 => exact (Kd.R_reads' HO188.out).2.1); rintro e w' ⟨rfl, ⟨nd, rfl⟩⟩) | ((with_reducible refine gate_dst (N := 112) rfl ?_); (try (refine gate_guard (by rfl) ?_; dsimp only)); refine Kd.R_lit k43 _ 43 ?hg (N := 112) ?hd (xs := ([(⟨4, 40, (⟨30, 50⟩ : S38), false⟩ : S43), (⟨7, 50, (⟨30, 70⟩ : S38), false⟩ : S43)] : List (S43))) (inner := [.int .i64 4, .int .i64 40, .int .i64 30, .int .i64 50, .bool false, .int .i64 7, .int .i64 50, .int .i64 30, .int .i64 70, .bool false]) (ok := fun _ => True) (okp := fun _ => True) ?hr ?hp (fun _ hk => hk) trivial (Below.refl _ _) (Nat.le_refl _) (by simp) ?_; (case hd => rfl); (case hg => rfl); (case hr => first | (go_simp; done) | (go_simp; rfl)); (case hp => exact (Reps.c5 (show Kd.M k43 _ _ _ (⟨4, 40, (⟨30, 50⟩ : S38), false⟩ : S43) [.int .i64 4, .int .i64 40, .int .i64 30, .int .i64 50, .bool false] from (k43_mkM _ _ _ (⟨4, 40, (⟨30, 50⟩ : S38), false⟩ : S43) )) (Reps.c5 (show Kd.M k43 _ _ _ (⟨7, 50, (⟨30, 70⟩ : S38), false⟩ : S43) [.int .i64 7, .int .i64 50, .int .i64 30, .int .i64 70, .bool false] from (k43_mkM _ _ _ (⟨7, 50, (⟨30, 70⟩ : S38), false⟩ : S43) )) (Reps.none _ _)))); intro v191 w56 ho57 hb hg_ hnew_; clear hg_ hnew_; (first | rw [← Ny190.out] at ho57 | (simp only [Int.reduceToNat] at ho57; rw [← Ny190.out] at ho57)); have n0_ := Aside0.mk (Kd.R_below (rr_ HO137) hb); have n1_ := Aside0.mk (Kd.R_below (rr_ HO140) hb); have n2_ := Aside0.mk (Kd.R_elder' (rr_ HO145) (Kd.R_base ho57) hb); have n3_ := Aside0.mk (Kd.R_below (rr_ HO148) hb); have n4_ := Aside0.mk (Kd.R_below (rr_ HO151) hb); have n5_ := Aside0.mk (Kd.R_elder' (rr_ HO156) (Kd.R_base ho57) hb); have n6_ := Aside0.mk (Kd.R_below (rr_ HO159) hb); have n7_ := Aside0.mk (Kd.R_below (rr_ HO162) hb); have n8_ := Aside0.mk (Kd.R_below (rr_ HO165) hb); have n9_ := Aside0.mk (Kd.R_elder' (rr_ HO170) (Kd.R_base ho57) hb); have n10_ := Aside0.mk (Kd.R_below (rr_ HO173) hb); have n11_ := Aside0.mk (Kd.R_below (rr_ HO176) hb); have n12_ := Aside0.mk (Kd.R_elder' (rr_ HO181) (Kd.R_base ho57) hb); have n13_ := Aside0.mk (Kd.R_elder' (rr_ HO184) (Kd.R_base ho57) hb); have n14_ := Aside0.mk (Kd.R_elder' (rr_ HO188) (Kd.R_base ho57) hb); have n15_ := Aside0.mk (Kd.R_lower (Kd.R_new' (Kd.R_new' (Kd.R_new' (Kd.R_new' (Kd.R_new' (Kd.R_new' ho57 (Kd.R_lt (rr_ HO145))) (Kd.R_lt (rr_ HO156))) (Kd.R_lt (rr_ HO170))) (Kd.R_lt (rr_ HO181))) (Kd.R_lt (rr_ HO184))) (Kd.R_lt (rr_ HO188))) (below_size (bb_ HB))); have n16_ := Aside0.mk (below_step (bb_ HB) hb); clear HO137; clear HO140; clear HO145; clear HO148; clear HO151; clear HO156; clear HO159; clear HO162; clear HO165; clear HO170; clear HO173; clear HO176; clear HO181; clear HO184; clear HO188; clear HB; have HO137 := n0_; have HO140 := n1_; have HO145 := n2_; have HO148 := n3_; have HO151 := n4_; have HO156 := n5_; have HO159 := n6_; have HO162 := n7_; have HO165 := n8_; have HO170 := n9_; have HO173 := n10_; have HO176 := n11_; have HO181 := n12_; have HO184 := n13_; have HO188 := n14_; have HO192 := n15_; have HB := n16_; clear n0_ n1_ n2_ n3_ n4_ n5_ n6_ n7_ n8_ n9_ n10_ n11_ n12_ n13_ n14_ n15_ n16_; clear hb ho57; obtain ⟨Ao58, co58, eo58⟩ := Kd.R_slice HO170.out; subst eo58; obtain ⟨Ao59, co59, eo59⟩ := Kd.R_slice HO192.out; subst eo59) | (go_at_call 27; (with_reducible refine (cohousingref29_Same.calls k _ _ t166 _ _ y190 t193 _ ?side1 ?side2 ?side3 ?side4 A16.out).mono ?_); (case side1 => exact cc_ ((Kd.R_reads' HO170.out).2.2)); (case side2 => exact (Kd.R_reads' HO170.out).2.1); (case side3 => exact cc_ ((Kd.R_reads' HO192.out).2.2)); (case side4 => exact (Kd.R_reads' HO192.out).2.1); rintro e w' ⟨rfl, ⟨nd, rfl⟩⟩))
          go_ret
          exact ⟨ew_, by repeat (first | (with_reducible first | exact HB.out | apply below_alloc | apply pw_below_drewN | apply below_drew1) | exact HB.out)⟩
         ·replace c15 := Bool.eq_false_iff.mpr c15
          subst c15
          have H1 : (some false) = some true := by rw [if_neg (show ¬ (false = true) by decide)] at H; exact H
          clear H
          have H := H1
          clear H1
          exact absurd (Option.some.inj H) (by decide)
        ·replace c13 := Bool.eq_false_iff.mpr c13
         subst c13
         have H1 : (some false) = some true := by rw [if_neg (show ¬ (false = true) by decide)] at H; exact H
         clear H
         have H := H1
         clear H1
         exact absurd (Option.some.inj H) (by decide)
       ·rw [if_neg c11] at H
        have c11b0 : (t167 == 10) = false := beq_eq_false_iff_ne.mpr c11
        have c11b1 : (t167 != 10) = true := bne_iff_ne.mpr c11
        exact absurd (Option.some.inj H) (by decide)
      ·rw [if_neg c10] at H
       have c10b0 : (t153 == 0) = false := beq_eq_false_iff_ne.mpr c10
       have c10b1 : (t153 != 0) = true := bne_iff_ne.mpr c10
       exact absurd (Option.some.inj H) (by decide)
     ·rw [if_neg c9] at H
      have c9b0 : (t142 == 40) = false := beq_eq_false_iff_ne.mpr c9
      have c9b1 : (t142 != 40) = true := bne_iff_ne.mpr c9
      exact absurd (Option.some.inj H) (by decide)
    ·rw [if_neg c8] at H
     have c8b0 : (t179 == 3) = false := beq_eq_false_iff_ne.mpr c8
     have c8b1 : (t179 != 3) = true := bne_iff_ne.mpr c8
     exact absurd (Option.some.inj H) (by decide)
   ·rw [if_neg c7] at H
    have c7b0 : (t168 == 0) = false := beq_eq_false_iff_ne.mpr c7
    have c7b1 : (t168 != 0) = true := bne_iff_ne.mpr c7
    exact absurd (Option.some.inj H) (by decide)
  ·rw [if_neg c6] at H
   have c6b0 : (t154 == 0) = false := beq_eq_false_iff_ne.mpr c6
   have c6b1 : (t154 != 0) = true := bne_iff_ne.mpr c6
   exact absurd (Option.some.inj H) (by decide)
 ·rw [if_neg c5] at H
  have c5b0 : (t143 == 0) = false := beq_eq_false_iff_ne.mpr c5
  have c5b1 : (t143 != 0) = true := bne_iff_ne.mpr c5
  exact absurd (Option.some.inj H) (by decide)
end
end Go.Proofs.Ytbgchacafglcpaa.P
end
section
namespace Go.Proofs.FlowTree
def sm (f : Nat → Int) (ks : List Nat) : Int := (ks.map f).foldl (· + ·) 0
theorem foldl_add (l : List Int) : ∀ a : Int, l.foldl (· + ·) a = a + l.foldl (· + ·) 0 := by
 induction l with
 | nil => intro a; simp
 | cons x l ih => intro a; rw [List.foldl_cons, List.foldl_cons, ih (a + x), ih (0 + x)]; omega
theorem sm_nil (f : Nat → Int) : sm f [] = 0 := rfl
theorem sm_cons (f : Nat → Int) (k : Nat) (ks : List Nat) : sm f (k :: ks) = f k + sm f ks := by
 unfold sm
 rw [List.map_cons, List.foldl_cons, foldl_add]; omega
theorem sm_congr {f g : Nat → Int} {ks : List Nat} (h : ∀ k ∈ ks, f k = g k) : sm f ks = sm g ks := by
 induction ks with
 | nil => rfl
 | cons k ks ih => rw [sm_cons, sm_cons, h k (by simp), ih (fun j hj => h j (by simp [hj]))]
theorem sm_le {f g : Nat → Int} {ks : List Nat} (h : ∀ k ∈ ks, f k ≤ g k) : sm f ks ≤ sm g ks := by
 induction ks with
 | nil => exact Int.le_refl _
 | cons k ks ih => rw [sm_cons, sm_cons]; have := h k (by simp); have := ih (fun j hj => h j (by simp [hj])); omega
theorem sm_append (f : Nat → Int) (a b : List Nat) : sm f (a ++ b) = sm f a + sm f b := by
 induction a with
 | nil => simp [sm_nil]
 | cons x a ih => rw [List.cons_append, sm_cons, sm_cons, ih]; omega
theorem sm_split (f : Nat → Int) {ks : List Nat} {k : Nat} (hk : k ∈ ks) : ∃ a b, ks = a ++ k :: b ∧ sm f ks = f k + sm f (a ++ b) := by
 obtain ⟨a, b, rfl⟩ := List.append_of_mem hk
 exact ⟨a, b, rfl, by rw [sm_append, sm_append, sm_cons]; omega⟩
theorem fill (lo hi : Nat → Int) (ks : List Nat) (hn : ks.Nodup) (h : ∀ k ∈ ks, lo k ≤ hi k) : ∀ s, sm lo ks ≤ s → s ≤ sm hi ks → ∃ c : Nat → Int, (∀ k ∈ ks, lo k ≤ c k ∧ c k ≤ hi k) ∧ sm c ks = s := by
 induction ks with
 | nil => intro s h1 h2; exact ⟨fun _ => 0, (fun k hk => by cases hk), (by rw [sm_nil] at *; omega)⟩
 | cons k ks ih =>
  intro s h1 h2
  rw [sm_cons] at h1 h2
  have hk := h k (by simp)
  have hle := sm_le (fun j hj => h j (List.mem_cons_of_mem _ hj))
  rw [List.nodup_cons] at hn
  have key : ∃ v, lo k ≤ v ∧ v ≤ hi k ∧ sm lo ks ≤ s - v ∧ s - v ≤ sm hi ks := by
   by_cases hc : s - lo k ≤ sm hi ks
   ·exact ⟨lo k, by omega, by omega, by omega, by omega⟩
   ·exact ⟨s - sm hi ks, by omega, by omega, by omega, by omega⟩
  obtain ⟨v, hv1, hv2, hv3, hv4⟩ := key
  obtain ⟨c, hc, hs⟩ := ih hn.2 (fun j hj => h j (List.mem_cons_of_mem _ hj)) (s - v) hv3 hv4
  refine ⟨fun j => if j = k then v else c j, ?_, ?_⟩
  ·intro j hj
   rcases List.mem_cons.1 hj with rfl | hj
   ·simp only [if_true]; exact ⟨hv1, hv2⟩
   ·have : j ≠ k := fun e => hn.1 (e ▸ hj)
    simp only [this, if_false]; exact hc j hj
  ·rw [sm_cons]
   simp only [if_true]
   rw [sm_congr (g := c) (fun j hj => by have : j ≠ k := fun e => hn.1 (e ▸ hj); simp [this]), hs]; omega
structure Net where
 n : Nat
 kid : Nat → List Nat
 loss : Nat → Int
structure Net.Ok (T : Net) : Prop where
 lt : ∀ i k, k ∈ T.kid i → i < k ∧ k < T.n
 nodup : ∀ i, (T.kid i).Nodup
 one : ∀ i j k, k ∈ T.kid i → k ∈ T.kid j → i = j
 loss0 : ∀ i, i < T.n → 0 ≤ T.loss i
def Net.eq (T : Net) (x : Nat → Int) (i : Nat) : Prop := T.kid i ≠ [] → 0 ≤ x i - sm x (T.kid i) ∧ x i - sm x (T.kid i) ≤ T.loss i
def Sol (T : Net) (lo hi : Nat → Int) (x : Nat → Int) : Prop := (∀ i, i < T.n → lo i ≤ x i ∧ x i ≤ hi i) ∧ ∀ i, i < T.n → T.eq x i
theorem eq_congr {T : Net} {x y : Nat → Int} {i : Nat} (h0 : x i = y i) (h : ∀ k ∈ T.kid i, x k = y k) (hx : T.eq x i) : T.eq y i := by
 intro hk
 have := hx hk
 rw [sm_congr h, h0] at this
 exact this
theorem extend (T : Net) (hT : T.Ok) (lo hi : Nat → Int) (hne : ∀ i, i < T.n → lo i ≤ hi i) (hup : ∀ i, i < T.n → T.kid i ≠ [] → sm lo (T.kid i) ≤ lo i ∧ hi i ≤ sm hi (T.kid i) + T.loss i) :
  ∀ (d m : Nat), m + d = T.n → ∀ x : Nat → Int, (∀ i, i < T.n → lo i ≤ x i ∧ x i ≤ hi i) → (∀ i, i < m → T.eq x i) →
   ∃ y, Sol T lo hi y ∧ ∀ j, (∀ i, m ≤ i → j ∉ T.kid i) → y j = x j := by
 intro d
 induction d with
 | zero =>
  intro m hm x hx he
  exact ⟨x, ⟨hx, fun i hi => he i (by omega)⟩, fun _ _ => rfl⟩
 | succ d ih =>
  intro m hm x hx he
  have hmn : m < T.n := by omega
  have key : ∃ x', (∀ i, i < T.n → lo i ≤ x' i ∧ x' i ≤ hi i) ∧ (∀ i, i < m + 1 → T.eq x' i) ∧ ∀ j, j ∉ T.kid m → x' j = x j := by
   by_cases hk : T.kid m = []
   ·refine ⟨x, hx, fun i hi => ?_, fun _ _ => rfl⟩
    by_cases h : i < m
    ·exact he i h
    ·rw [show i = m by omega]; intro h'; exact absurd hk h'
   ·have h1 := hup m hmn hk
    have h2 := hx m hmn
    have hle : sm lo (T.kid m) ≤ sm hi (T.kid m) := sm_le (fun k hk' => hne k (hT.lt m k hk').2)
    have hl0 := hT.loss0 m hmn
    have hs : ∃ s, sm lo (T.kid m) ≤ s ∧ s ≤ sm hi (T.kid m) ∧ 0 ≤ x m - s ∧ x m - s ≤ T.loss m := by
     by_cases hc : x m ≤ sm hi (T.kid m)
     ·exact ⟨x m, by omega, by omega, by omega, by omega⟩
     ·exact ⟨sm hi (T.kid m), by omega, by omega, by omega, by omega⟩
    obtain ⟨s, hs1, hs2, hs3, hs4⟩ := hs
    obtain ⟨c, hc, hcs⟩ := fill lo hi (T.kid m) (hT.nodup m) (fun k hk' => hne k (hT.lt m k hk').2) s hs1 hs2
    refine ⟨fun j => if j ∈ T.kid m then c j else x j, ?_, ?_, ?_⟩
    ·intro i hi'
     by_cases h : i ∈ T.kid m
     ·simp only [h, if_true]; exact hc i h
     ·simp only [h, if_false]; exact hx i hi'
    ·intro i hi'
     by_cases h : i < m
     ·refine eq_congr (x := x) ?_ ?_ (he i h)
      ·have : i ∉ T.kid m := fun hm' => by have := (hT.lt m i hm').1; omega
       simp [this]
      ·intro k hk'
       have : k ∉ T.kid m := fun hm' => by have := hT.one i m k hk' hm'; omega
       simp [this]
     ·have e : i = m := by omega
      subst e
      intro _
      have h3 : i ∉ T.kid i := fun hm' => by have := (hT.lt i i hm').1; omega
      rw [sm_congr (g := c) (fun k hk' => by simp [hk'])]
      simp only [h3, if_false]
      rw [hcs]
      exact ⟨hs3, hs4⟩
    ·intro j hj
     simp [hj]
  obtain ⟨x', hx', he', hk'⟩ := key
  obtain ⟨y, hy, hyx⟩ := ih (m + 1) (by omega) x' hx' he'
  refine ⟨y, hy, fun j hj => ?_⟩
  rw [hyx j (fun i hi' => hj i (by omega)), hk' j (hj m (Nat.le_refl _))]
theorem exact (T : Net) (hT : T.Ok) (lo hi dl dh : Nat → Int) (hne : ∀ i, i < T.n → lo i ≤ hi i)
  (hup : ∀ i, i < T.n → T.kid i ≠ [] → sm lo (T.kid i) ≤ lo i ∧ hi i ≤ sm hi (T.kid i) + T.loss i)
  (hsub : ∀ i, i < T.n → lo i ≤ dl i ∧ dl i ≤ dh i ∧ dh i ≤ hi i)
  (hdn : ∀ i, i < T.n → ∀ k ∈ T.kid i, dl i - T.loss i - (sm hi (T.kid i) - hi k) ≤ dl k ∧ dh k ≤ dh i - (sm lo (T.kid i) - lo k)) :
  ∀ (k : Nat), k < T.n → ∀ v, dl k ≤ v → v ≤ dh k → ∃ x, Sol T lo hi x ∧ x k = v := by
 intro k
 induction k using Nat.strongRecOn with
 | ind k ih =>
  intro hk v hv1 hv2
  by_cases hp : ∃ i, i < T.n ∧ k ∈ T.kid i
  ·obtain ⟨i, hi', hki⟩ := hp
   have hik := (hT.lt i k hki).1
   have hne' : T.kid i ≠ [] := fun h => by rw [h] at hki; cases hki
   have h1 := hdn i hi' k hki
   have h2 := hsub i hi'
   have h3 := hup i hi' hne'
   have h4 := hsub k hk
   have hl0 := hT.loss0 i hi'
   obtain ⟨a, b, hab, hlo⟩ := sm_split lo hki
   have hhi : sm hi (T.kid i) = hi k + sm hi (a ++ b) := by rw [hab, sm_append, sm_append, sm_cons]; omega
   have hnd : (a ++ b).Nodup ∧ k ∉ a ++ b := by
    have := hT.nodup i
    rw [hab] at this
    rw [List.nodup_append] at this
    obtain ⟨ha, hb, hd⟩ := this
    rw [List.nodup_cons] at hb
    refine ⟨List.nodup_append.2 ⟨ha, hb.2, fun x hx y hy => hd x hx y (List.mem_cons_of_mem _ hy)⟩, fun h => ?_⟩
    rcases List.mem_append.1 h with h | h
    ·exact hd k h k (by simp) rfl
    ·exact hb.1 h
   have hmem : ∀ j ∈ a ++ b, j ∈ T.kid i := by
    intro j hj
    rw [hab]
    rcases List.mem_append.1 hj with h | h
    ·exact List.mem_append.2 (.inl h)
    ·exact List.mem_append.2 (.inr (List.mem_cons_of_mem _ h))
   have hle : sm lo (a ++ b) ≤ sm hi (a ++ b) := sm_le (fun j hj => hne j (hT.lt i j (hmem j hj)).2)
   have hw : ∃ w s, dl i ≤ w ∧ w ≤ dh i ∧ sm lo (a ++ b) ≤ s ∧ s ≤ sm hi (a ++ b) ∧ 0 ≤ w - (v + s) ∧ w - (v + s) ≤ T.loss i := by
    by_cases hc : dl i ≤ sm lo (a ++ b) + v
    ·exact ⟨sm lo (a ++ b) + v, sm lo (a ++ b), by omega, by omega, by omega, by omega, by omega, by omega⟩
    ·by_cases hc2 : dl i - v ≤ sm hi (a ++ b)
     ·exact ⟨dl i, dl i - v, by omega, by omega, by omega, by omega, by omega, by omega⟩
     ·exact ⟨dl i, sm hi (a ++ b), by omega, by omega, by omega, by omega, by omega, by omega⟩
   obtain ⟨w, s, hw1, hw2, hs1, hs2, hs3, hs4⟩ := hw
   obtain ⟨y, hy, hyi⟩ := ih i hik hi' w hw1 hw2
   obtain ⟨c, hc, hcs⟩ := fill lo hi (a ++ b) hnd.1 (fun j hj => hne j (hT.lt i j (hmem j hj)).2) s hs1 hs2
   let c' : Nat → Int := fun j => if j = k then v else c j
   have hc' : ∀ j ∈ T.kid i, lo j ≤ c' j ∧ c' j ≤ hi j := by
    intro j hj
    by_cases h : j = k
    ·subst h; simp only [c', if_true]; omega
    ·simp only [c', h, if_false]
     refine hc j ?_
     rw [hab] at hj
     rcases List.mem_append.1 hj with h' | h'
     ·exact List.mem_append.2 (.inl h')
     ·rcases List.mem_cons.1 h' with h' | h'
      ·exact absurd h' h
      ·exact List.mem_append.2 (.inr h')
   have hcs' : sm c' (T.kid i) = v + s := by
    have : sm c' (T.kid i) = c' k + sm c' (a ++ b) := by rw [hab, sm_append, sm_append, sm_cons]; omega
    rw [this, sm_congr (f := c') (g := c) (fun j hj => by have : j ≠ k := fun e => hnd.2 (e ▸ hj); simp [c', this]), hcs]
    simp [c']
   obtain ⟨z, hz, hzx⟩ := extend T hT lo hi hne hup (T.n - (i + 1)) (i + 1) (by omega) (fun j => if j ∈ T.kid i then c' j else y j)
    (fun j hj => by
     by_cases h : j ∈ T.kid i
     ·simp only [h, if_true]; exact hc' j h
     ·simp only [h, if_false]; exact hy.1 j hj)
    (fun j hj => by
     by_cases h : j < i
     ·refine eq_congr (x := y) ?_ ?_ (hy.2 j (by omega))
      ·have : j ∉ T.kid i := fun hm' => by have := (hT.lt i j hm').1; omega
       simp [this]
      ·intro q hq
       have : q ∉ T.kid i := fun hm' => by have := hT.one j i q hq hm'; omega
       simp [this]
     ·have e : j = i := by omega
      subst e
      intro _
      have h3 : j ∉ T.kid j := fun hm' => by have := (hT.lt j j hm').1; omega
      rw [sm_congr (g := c') (fun q hq => by simp [hq])]
      simp only [h3, if_false]
      rw [hcs', hyi]
      exact ⟨hs3, hs4⟩)
   refine ⟨z, hz, ?_⟩
   rw [hzx k (fun j hj hk' => by have := hT.one i j k hki hk'; omega)]
   simp [hki, c']
  ·have h4 := hsub k hk
   obtain ⟨z, hz, hzx⟩ := extend T hT lo hi hne hup T.n 0 (by omega) (fun j => if j = k then v else lo j)
    (fun j hj => by
     by_cases h : j = k
     ·subst h; simp only [if_true]; omega
     ·simp only [h, if_false]; exact ⟨Int.le_refl _, hne j hj⟩)
    (fun j hj => absurd hj (Nat.not_lt_zero _))
   refine ⟨z, hz, ?_⟩
   rw [hzx k (fun j _ hk' => hp ⟨j, by have := hT.lt j k hk'; omega, hk'⟩)]
   simp
end Go.Proofs.FlowTree
end
section
namespace Go.Proofs.Ytbgchacafglcpaa.P
open Go.RowKit Go.Proofs.YtbgchacafglcpaaW.PrintWords Go.Proofs.YtbgchacafglcpaaW.PrintLast Go.Proofs.YtbgchacafglcpaaW.PrintMore Go.Proofs.YtbgchacafglcpaaH Go.Proofs.FlowTree
abbrev CH := S43
abbrev RGE := S38
theorem right_mono {c t v v' : Int} (hc : 0 ≤ c) (ht : 1 ≤ t) (h : v ≤ v') : rightV c t v ≤ rightV c t v' := by
 unfold rightV
 have := Int.mul_le_mul_of_nonneg_left h hc
 exact Int.ediv_le_ediv (by omega) (by omega)
abbrev cc (bs : List CH) (j : Nat) : CH := rd_T43 bs (j : Int)
abbrev qq (l : List RGE) (j : Nat) : RGE := rd_T38 l (j : Int)
theorem qq_map (f : RGE → RGE) (l : List RGE) (j : Nat) (h : j < l.length) : qq (l.map f) j = f (qq l j) := by
 simp [qq, rd_T38, List.getD_eq_getElem?_getD, h]
theorem qq_mem (l : List RGE) (j : Nat) (h : j < l.length) : qq l j ∈ l := by
 simp [qq, rd_T38, List.getD_eq_getElem?_getD, h]
def PartsOk (c t : Int) (l : List RGE) : Prop := 0 ≤ c ∧ c ≤ 1000000000 ∧ 1 ≤ t ∧ t ≤ 1000000000 ∧ l.length ≤ 200 ∧ ∀ j, j < l.length → 0 ≤ (qq l j).f0 ∧ (qq l j).f0 ≤ (qq l j).f1 ∧ (qq l j).f1 ≤ t
theorem outR_iff (t : Int) (r : RGE) : outR t r = false ↔ 0 ≤ r.f0 ∧ r.f0 ≤ r.f1 ∧ r.f1 ≤ t := by
 simp only [outR, Bool.or_eq_false_iff, decide_eq_false_iff_not]
 omega
theorem parts_iff (c t : Int) (l : List RGE) : (c < 0 ∨ 1000000000 < c ∨ t < 1 ∨ 1000000000 < t ∨ 200 < l.length ∨ l.any (outR t) = true) ↔ ¬ PartsOk c t l := by
 have hany : l.any (outR t) = false ↔ ∀ j, j < l.length → 0 ≤ (qq l j).f0 ∧ (qq l j).f0 ≤ (qq l j).f1 ∧ (qq l j).f1 ≤ t := by
  rw [List.any_eq_false]
  constructor
  ·intro h j hj
   exact (outR_iff t _).1 (by have := h _ (qq_mem l j hj); simpa using this)
  ·intro h x hx
   obtain ⟨j, hj, rfl⟩ := List.mem_iff_getElem.1 hx
   have e : qq l j = l[j] := by simp [qq, rd_T38, List.getD_eq_getElem?_getD, hj]
   have := (outR_iff t (qq l j)).2 (h j hj)
   rw [e] at this
   simp [this]
 constructor
 ·rintro h ⟨h1, h2, h3, h4, h5, h6⟩
  rcases h with h | h | h | h | h | h
  ·omega
  ·omega
  ·omega
  ·omega
  ·omega
  ·rw [hany.2 h6] at h; cases h
 ·intro h
  by_cases a1 : c < 0
  ·exact .inl a1
  by_cases a2 : 1000000000 < c
  ·exact .inr (.inl a2)
  by_cases a3 : t < 1
  ·exact .inr (.inr (.inl a3))
  by_cases a4 : 1000000000 < t
  ·exact .inr (.inr (.inr (.inl a4)))
  by_cases a5 : 200 < l.length
  ·exact .inr (.inr (.inr (.inr (.inl a5))))
  refine .inr (.inr (.inr (.inr (.inr ?_))))
  cases hx : l.any (outR t) with
  | true => rfl
  | false => exact absurd ⟨by omega, by omega, by omega, by omega, by omega, hany.1 hx⟩ h
theorem boundsC_ok {c t : Int} {l : List RGE} (h : PartsOk c t l) : boundsC c t l = (l.map (chgR c t), 0) := by
 unfold boundsC
 rw [if_neg (fun hh => (parts_iff c t l).1 hh h)]
theorem boundsC_no {c t : Int} {l : List RGE} (h : ¬ PartsOk c t l) : boundsC c t l = ([], 1) := by
 unfold boundsC
 rw [if_pos ((parts_iff c t l).2 h)]
section
variable {c t : Int} {l : List RGE}
theorem wrap_id' {n : Int} (h1 : -9223372036854775808 ≤ n) (h2 : n ≤ 9223372036854775807) : wrap64 n = n := by unfold wrap64; omega
theorem mx_max' (a b : Int) : mx a b = max a b := by unfold mx; split <;> omega
theorem mn_min' (a b : Int) : mn a b = min a b := by unfold mn; split <;> omega
end
end Go.Proofs.Ytbgchacafglcpaa.P
end
section
namespace Go.Proofs.Ytbgchacafglcpaa.P
open Go.RowKit Go.Proofs.YtbgchacafglcpaaW.PrintWords Go.Proofs.YtbgchacafglcpaaW.PrintLast Go.Proofs.YtbgchacafglcpaaW.PrintMore Go.Proofs.YtbgchacafglcpaaH Go.Proofs.FlowTree
abbrev idP (l : List S63) (i : Nat) : Int := (rd_T63 l i).f0
abbrev abP (l : List S63) (i : Nat) : Int := (rd_T63 l i).f1
abbrev loP (l : List S63) (i : Nat) : Int := (rd_T63 l i).f2
def kidsAt (l : List S63) (m i : Nat) : List Nat := (List.range m).filter (fun k => decide (i < k) && decide (abP l k = idP l i))
def netT (l : List S63) : Net := { n := l.length, kid := kidsAt l l.length, loss := loP l }
end Go.Proofs.Ytbgchacafglcpaa.P
end
section
namespace Go.Proofs.Ytbgchacafglcpaa.P
open Go.RowKit Go.Proofs.YtbgchacafglcpaaW.PrintWords Go.Proofs.YtbgchacafglcpaaW.PrintLast Go.Proofs.YtbgchacafglcpaaW.PrintMore Go.Proofs.YtbgchacafglcpaaH Go.Proofs.FlowTree
abbrev PI := S63
section
variable {l : List PI} {kids : List (List Int)}
end
end Go.Proofs.Ytbgchacafglcpaa.P
end
section
namespace Go.Proofs.Ytbgchacafglcpaa.P
open Go.RowKit Go.Proofs.YtbgchacafglcpaaW.PrintWords Go.Proofs.YtbgchacafglcpaaW.PrintLast Go.Proofs.YtbgchacafglcpaaW.PrintMore Go.Proofs.YtbgchacafglcpaaH Go.Proofs.FlowTree
open Classical
def Ev {α : Type} (f : Nat → Option α) (r : α) : Prop := ∃ k0, ∀ k, k0 ≤ k → f k = some r
theorem Ev.step {α : Type} {f : Nat → Option α} {r : α} (h : Ev (fun k => f (k + 1)) r) : Ev f r := by
 obtain ⟨k0, h⟩ := h
 refine ⟨k0 + 1, fun k hk => ?_⟩
 obtain ⟨k, rfl⟩ : ∃ m, k = m + 1 := ⟨k - 1, by omega⟩
 exact h k (by omega)
theorem Ev.pure {α : Type} (r : α) : Ev (fun _ => some r) r := ⟨0, fun _ _ => rfl⟩
theorem Ev.bnd {α β : Type} {f : Nat → Option β} {g : β → Nat → Option α} {b : β} {r : α} (hf : Ev f b) (hg : Ev (g b) r) : Ev (fun k => (f k).bind fun t => g t k) r := by
 obtain ⟨k0, h⟩ := hf
 obtain ⟨k1, h1⟩ := hg
 refine ⟨max k0 k1, fun k hk => ?_⟩
 show (f k).bind _ = _
 rw [h k (by omega)]
 exact h1 k (by omega)
theorem Ev.congr {α : Type} {f g : Nat → Option α} {r : α} (h : ∀ k, f k = g k) (hg : Ev g r) : Ev f r := by
 obtain ⟨k0, h0⟩ := hg
 exact ⟨k0, fun k hk => (h k).trans (h0 k hk)⟩
theorem wrap_nat {n : Nat} (h : n ≤ 140737488355328) : wrap64 ((n : Int) + 1) = ((n + 1 : Nat) : Int) := by unfold wrap64; omega
abbrev RG := S38
abbrev rr (r : List RG) (i : Nat) : RG := rd_T38 r i
end Go.Proofs.Ytbgchacafglcpaa.P
end
section
namespace Go.Proofs.Ytbgchacafglcpaa.P
open Go.RowKit Go.Proofs.YtbgchacafglcpaaW.PrintWords Go.Proofs.YtbgchacafglcpaaW.PrintLast Go.Proofs.YtbgchacafglcpaaW.PrintMore Go.Proofs.YtbgchacafglcpaaH Go.Proofs.FlowTree
open Classical
def lo9 (r : List RG) (j : Nat) : Int := (rr r j).f0
def hi9 (r : List RG) (j : Nat) : Int := (rr r j).f1
section
variable (l : List PI) (r : List RG) (i : Nat)
end
section
variable {l : List PI} {r : List RG} {i : Nat}
end
end Go.Proofs.Ytbgchacafglcpaa.P
end
section
namespace Go.Proofs.Ytbgchacafglcpaa.P
open Go.RowKit Go.Proofs.YtbgchacafglcpaaW.PrintWords Go.Proofs.YtbgchacafglcpaaW.PrintLast Go.Proofs.YtbgchacafglcpaaW.PrintMore Go.Proofs.YtbgchacafglcpaaH Go.Proofs.FlowTree
open Classical
section
variable {l : List PI}
structure Narrow (l : List PI) (r e : List RG) : Prop where
 len : e.length = l.length
 rng : ∀ j, j < l.length → lo9 r j ≤ lo9 e j ∧ hi9 e j ≤ hi9 r j
 sol : ∀ x, Sol (netT l) (lo9 r) (hi9 r) x → Sol (netT l) (lo9 e) (hi9 e) x
theorem Narrow.refl {r : List RG} (h : r.length = l.length) : Narrow l r r := ⟨h, fun _ _ => ⟨Int.le_refl _, Int.le_refl _⟩, fun _ hx => hx⟩
theorem Narrow.trans {r e f : List RG} (h : Narrow l r e) (h' : Narrow l e f) : Narrow l r f :=
 ⟨h'.len, fun j hj => by have := h.rng j hj; have := h'.rng j hj; omega, fun x hx => h'.sol x (h.sol x hx)⟩
def wide (n : Nat) (e : List RG) : Nat := (List.range n).foldl (fun s j => s + (hi9 e j - lo9 e j).toNat) 0
end
end Go.Proofs.Ytbgchacafglcpaa.P
end
section
namespace Go.Proofs.YtbgchacafglcpaaH
open Go.RowKit Go.ChangeShapes Go.WideShapes Go.Proofs.YtbgchacafglcpaaW.PrintWords
def Opens {α : Type} (P : Program) (d : Kd α) (t : TypeId) : Prop :=
 ∀ {H : Type} {enc : TypeId × Value → H} {w : World} {base : Nat} {spare : Nat → Bool} {held : Bool} {fuel : Nat} {cs : List Value} {x : DataW H × List MemPlace}, DataW.trod enc P w base spare held fuel t cs = some x → ∃ a : α, d.K w a cs
theorem Opens.int {P : Program} {t : TypeId} {k : IntKind} (h : P.underlying t = some (.int k)) : Opens P (Kd.int k) t := by
 intro H enc w base spare held fuel cs x hx
 obtain ⟨n, rfl, _, _⟩ := DataW.trod_int h hx
 exact ⟨n, rfl⟩
theorem Opens.iso {α β : Type} {P : Program} {d : Kd α} {t : TypeId} (f : β → α) (g : α → β) (hfg : ∀ a, f (g a) = a) (h : Opens P d t) : Opens P (Kd.iso d f) t := by
 intro H enc w base spare held fuel cs x hx
 obtain ⟨a, ha⟩ := h hx
 refine ⟨g a, ?_⟩
 show d.K w (f (g a)) cs
 rw [hfg]
 exact ha
def Segs {β : Type} (P : Program) (d : Kd β) (fs : List Field) (o z : Nat) : Prop :=
 ∀ {H : Type} {enc : TypeId × Value → H} {w : World} {base : Nat} {spare : Nat → Bool} {held : Bool} {fuel : Nat} {cs : List Value}, cs.length = z →
  (∀ f ∈ fs, ∃ x : DataW H × List MemPlace, DataW.trod enc P w base spare held fuel f.type ((cs.drop f.offset).take (P.cellsOf f.type)) = some x) → ∃ b : β, d.K w b (cs.drop o)
theorem Segs.one {α : Type} {P : Program} {d : Kd α} {f : Field} {o z : Nat} (h : Opens P d f.type) (ho : f.offset = o) (hz : z = o + P.cellsOf f.type) : Segs P d [f] o z := by
 intro H enc w base spare held fuel cs hl hf
 obtain ⟨x, hx⟩ := hf f (by simp)
 obtain ⟨a, ha⟩ := h hx
 refine ⟨a, ?_⟩
 rw [ho, List.take_of_length_le (by rw [List.length_drop]; omega)] at ha
 exact ha
theorem Segs.cons {α β : Type} {P : Program} {d : Kd α} {d' : Kd β} {f : Field} {fs : List Field} {o o' z : Nat} (h : Opens P d f.type) (ho : f.offset = o) (ho' : o' = o + P.cellsOf f.type) (hr : Segs P d' fs o' z) : Segs P (Kd.pair d d') (f :: fs) o z := by
 intro H enc w base spare held fuel cs hl hf
 obtain ⟨x, hx⟩ := hf f (by simp)
 obtain ⟨a, ha⟩ := h hx
 obtain ⟨b, hb⟩ := hr hl (fun f' h' => hf f' (List.mem_cons_of_mem _ h'))
 refine ⟨(a, b), _, _, ?_, ha, hb⟩
 rw [ho, ho', ← List.drop_drop, List.take_append_drop]
theorem Opens.struct {β : Type} {P : Program} {d : Kd β} {t : TypeId} {fs : Array Field} (h : P.underlying t = some (.struct fs)) (hr : Segs P d fs.toList 0 (P.cellsOf t)) : Opens P d t := by
 intro H enc w base spare held fuel cs x hx
 obtain ⟨xs, n, _, _, hl, hxl, hf⟩ := DataW.trod_struct h hx
 have := hr (enc := enc) (w := w) (base := base) (spare := spare) (held := held) (fuel := n) (cs := cs) hl (fun f hm => by
  obtain ⟨i, hi, rfl⟩ := List.mem_iff_getElem.1 hm
  have hi' : i < fs.size := by simpa using hi
  have h1 := hf i fs[i] (by simp [hi'])
  refine ⟨xs[i]'(by omega), ?_⟩
  rw [Array.getElem_toList]
  rw [h1]
  simp [hxl, hi'])
 rw [List.drop_zero] at this
 exact this
theorem Opens.row {α : Type} {P : Program} {d : Kd α} {t e : TypeId} (ht : P.underlying t = some (.slice e)) (hsz : P.cellsOf e = d.sz) (he : Opens P d e) {H : Type} {enc : TypeId × Value → H} {w : World} {base : Nat} {spare : Nat → Bool} {held : Bool} {fuel : Nat} {cs : List Value} {x : DataW H × List MemPlace}
  (hx : DataW.trod enc P w base spare held fuel t cs = some x) : ∃ A len cap, cs = [.slice A len cap] ∧ ∃ xs : List α, xs.length = len ∧ len ≤ cap ∧ d.C w A len xs := by
 rcases Deep.open_slice ht hx with ⟨rfl, _⟩ | ⟨a, len, cap, m, n, D, Pl, rfl, _, hl, hm, hmm, _, hel⟩
 ·exact ⟨none, 0, 0, rfl, [], rfl, Nat.le_refl _, rfl, by omega, fun h => absurd h (Nat.lt_irrefl _)⟩
 ·have hlm : len ≤ m := by rw [hmm]; split <;> omega
  have each : ∀ i, i < len → ∃ a' : α, ∃ cs', cs'.length = d.sz ∧ d.K w a' cs' ∧ ∀ j u, cs'[j]? = some u → w.cell? (a.add (i * d.sz + j)) = some u := by
   intro i hi
   obtain ⟨cs', h1, h2⟩ := hel i (by omega)
   obtain ⟨a', ha'⟩ := he h2
   obtain ⟨_, hlen, hcell⟩ := World.cells?_some h1
   refine ⟨a', cs', by omega, ha', fun j u hj => ?_⟩
   have hjl : j < cs'.length := (List.getElem?_eq_some_iff.1 hj).1
   have := hcell j (by omega)
   rw [Deep.add_add, hsz] at this
   rw [this, hj]
  obtain ⟨xs, hxs⟩ : ∃ xs : List α, xs.length = len ∧ ∀ i (h : i < xs.length), ∃ cs', cs'.length = d.sz ∧ d.K w xs[i] cs' ∧ ∀ j u, cs'[j]? = some u → w.cell? (a.add (i * d.sz + j)) = some u := by
   have key : ∀ k, k ≤ len → ∃ xs : List α, xs.length = k ∧ ∀ i (h : i < xs.length), ∃ cs', cs'.length = d.sz ∧ d.K w xs[i] cs' ∧ ∀ j u, cs'[j]? = some u → w.cell? (a.add (i * d.sz + j)) = some u := by
    intro k
    induction k with
    | zero => intro _; exact ⟨[], rfl, fun i h => absurd h (Nat.not_lt_zero _)⟩
    | succ k ih =>
     intro hk
     obtain ⟨xs, hl, hxs⟩ := ih (by omega)
     obtain ⟨a', ha'⟩ := each k (by omega)
     refine ⟨xs ++ [a'], by simp [hl], fun i h => ?_⟩
     by_cases hi : i < xs.length
     ·rw [List.getElem_append_left hi]
      exact hxs i hi
     ·have e : i = xs.length := by simp at h; omega
      subst e
      rw [List.getElem_append_right (Nat.le_refl _)]
      simp only [Nat.sub_self, List.getElem_cons_zero]
      rw [hl]
      exact ha'
   exact key len (Nat.le_refl _)
  refine ⟨some a, len, cap, rfl, xs, hxs.1, hl, hxs.1, ?_, fun _ => ⟨a, rfl, fun j p hj => ?_⟩⟩
  ·have : maxLen = 2 ^ 63 - 1 := rfl
   omega
  ·obtain ⟨hjl, rfl⟩ := List.getElem?_eq_some_iff.1 hj
   exact hxs.2 j hjl
theorem Opens.slice {α : Type} {P : Program} {d : Kd α} {t e : TypeId} (ht : P.underlying t = some (.slice e)) (hsz : P.cellsOf e = d.sz) (he : Opens P d e) : Opens P (Kd.slice e d) t := by
 intro H enc w base spare held fuel cs x hx
 obtain ⟨A, len, cap, rfl, xs, rfl, hl, hC⟩ := Opens.row ht hsz he hx
 exact ⟨xs, A, cap, rfl, hl, hC⟩
theorem open_arg {α : Type} {P : Program} {d : Kd α} {t e : TypeId} (ht : P.underlying t = some (.slice e)) (hsz : P.cellsOf e = d.sz) (he : Opens P d e) {H : Type} {enc : TypeId × Value → H} {w : World} {base : Nat} {spare : Nat → Bool} {held : Bool} {A : Option Addr} {len cap : Nat} {x : DataW H} {ps : List MemPlace}
  (hx : DataW.Trod enc P w base spare held t (.slice A len cap) x ps) : ∃ xs : List α, xs.length = len ∧ len ≤ cap ∧ d.C w A len xs := by
 obtain ⟨fuel, hf⟩ := hx
 obtain ⟨A', len', cap', e1, r⟩ := Opens.row ht hsz he hf
 simp [Value.cells] at e1
 obtain ⟨rfl, rfl, rfl⟩ := e1
 exact r
theorem sized_arg {H : Type} {enc : TypeId × Value → H} {P : Program} {W : World} {base : Nat} {spare : Nat → Bool} {held : Bool} {t e : TypeId} {a : Option Addr} {len cap : Nat} {d : DataW H} {ps : List MemPlace} {ts : List TypeId} {ds : List (DataW H)} {j : Nat}
  (hsz : (DataW.weightsEach P ts ds).all (· ≤ reachBytes) = true) (ht : ts[j]? = some t) (hd : ds[j]? = some d) (hu : P.underlying t = some (.slice e)) {B : Nat} (hB : P.bytesOf e = B)
  (h : DataW.Trod enc P W base spare held t (.slice a len cap) d ps) : len * B ≤ 140737488351232 := by
 obtain ⟨fuel, hf⟩ := h
 rcases Deep.open_slice hu hf with ⟨hcs, _⟩ | ⟨x, l, c, m, n, D, Pl, hcs, _, hl, _, hm, hx, _⟩
 ·simp [Value.cells] at hcs
  obtain ⟨rfl, rfl, rfl⟩ := hcs
  simp
 ·simp [Value.cells] at hcs
  obtain ⟨rfl, rfl, rfl⟩ := hcs
  obtain ⟨hx, _⟩ := Prod.mk.inj hx
  subst hx
  have z := sized_slice hsz ht hd hu
  rw [hB] at z
  simp only [List.length_map, List.length_range] at z
  exact Nat.le_trans (Nat.mul_le_mul_right _ (Nat.le_add_right _ _)) z
end Go.Proofs.YtbgchacafglcpaaH
end
