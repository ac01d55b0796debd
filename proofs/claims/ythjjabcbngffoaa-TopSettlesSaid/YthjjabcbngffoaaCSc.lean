/- Part 3 of the base that the seat's proofs share: words, walks and plain laws. -/
import Derived.ArgAppend
import Derived.Below
import Derived.BigQuiet
import Derived.ChangeOld
import Derived.ChangeSlices
import Derived.Deep.AppendLies
import Derived.Deep.CutBlock
import Derived.Deep.DeepCutAuto
import Derived.Deep.Draws
import Derived.Deep.LoopGhost
import Derived.Deep.OwnRows
import Derived.Deep.QuietTactic
import Derived.Deep.RegionHeld3
import Derived.Deep.Slices
import Derived.KernelRfl
import Derived.Laws.BitsLemmas
import Derived.Laws.BytesArg
import Derived.Laws.IdiomCopy
import Derived.Laws.MakeOwn
import Derived.Laws.OwnMore
import Derived.Laws.Rows
import Derived.Laws.Slices
import Derived.Laws.StructEq
import Derived.Lib.AppendStr
import Derived.Lib.ConvBytes
import Derived.LoopIn
import Derived.LoopNIn
import Derived.Maps.AppendAt
import Derived.Maps.Own
import Derived.OpenShut
import Derived.OrdersHeld
import Derived.OwnWalk
import Derived.OwnWalkIn
import Derived.ProofKit
import Derived.RangeFuncBound
import Derived.RangeFuncCalls
import Derived.RangeFuncLeaves
import Derived.RangeFuncNested
import Derived.RowKit
import Derived.RowKit3
import Derived.ShutString
import Derived.SizedLaws
import Derived.Sort.CutIn
import Derived.Stop.RegionWithIn
import Derived.Tactics
import Derived.TacticsInMore
import Derived.Test.YthjjabcbngffoaaProg
import Derived.WalkKit
import Derived.WideLaws
import Derived.Test.YthjjabcbngffoaaCSb
set_option linter.unusedVariables false
set_option linter.unusedSimpArgs false
section
namespace Go.Proofs.Ythjjabcbngffoaa.P
open Go.RowKit Go.Proofs.YthjjabcbngffoaaW.PrintWords Go.Proofs.YthjjabcbngffoaaW.PrintLast Go.Proofs.YthjjabcbngffoaaW.PrintMore
attribute [local go_sem] max2_int min2_int max_two min_two max_three min_three max_four min_four
set_option linter.unusedVariables false
set_option linter.unusedSimpArgs false
set_option maxHeartbeats 8000000
set_option maxRecDepth 100000
section
open Go.Proofs.YthjjabcbngffoaaH
def mapVB (m : Int → Bool) : Int → Option Value := fun k => if m k then some (.bool true) else none
theorem mapVB_set (m : Int → Bool) (k : Int) : ∀ x, setM (mapVB m) k (.bool true) x = mapVB (fun k' => if k' = k then true else m k') x := by
 intro x
 unfold setM mapVB
 by_cases h : x = k <;> simp [h]
theorem mapVB_get (m : Int → Bool) (k : Int) : (mapVB m k).getD (.bool false) = .bool (m k) := by
 unfold mapVB
 cases m k <;> rfl
def abvB (l : List S63) (n : Nat) (k : Int) : Bool := (List.range n).any (fun j => decide (k = (rd_T63 l j).f1))
theorem abvB_succ (l : List S63) (n : Nat) : (fun k' => if k' = (rd_T63 l n).f1 then true else abvB l n k') = abvB l (n + 1) := by
 funext k
 unfold abvB
 rw [List.range_succ, List.any_append]
 by_cases h : k = (rd_T63 l n).f1 <;> simp [h]
def rootsN (l : List S63) (n : Nat) : Int := (List.range n).foldl (fun s (j : Nat) => if (rd_T63 l j).f1 = 0 then wrap64 (s + 1) else s) 0
def totN (l : List S63) (bs : List S38) (n : Nat) : S38 := (List.range n).foldl (fun t (j : Nat) => if (rd_T63 l j).f1 = 0 then ⟨(rd_T38 bs j).f0, (rd_T38 bs j).f1⟩ else t) ⟨0, 0⟩
def partsN (l : List S63) (bs : List S38) (n : Nat) : List S38 := (List.range n).foldl (fun ps (j : Nat) => if abvB l l.length (rd_T63 l j).f0 = true then ps else ps ++ [⟨(rd_T38 bs j).f0, (rd_T38 bs j).f1⟩]) []
theorem partsN_len (l : List S63) (bs : List S38) (n : Nat) : (partsN l bs n).length ≤ n := by
 unfold partsN
 induction n with
 | zero => simp
 | succ n ih =>
  rw [foldl_range_succ]
  split
  ·omega
  ·rw [List.length_append]; simp; omega
def networkC (c : Int) (l : List S63) (known : List S38) (homes : List Int) : List S40 × Int × Int :=
 if (boundsR l known).2 = 0 then
  if c < 0 ∨ 1000000000 < c ∨ rootsN l l.length ≠ 1 ∨ homes.length ≠ (partsN l (boundsR l known).1 l.length).length ∨ homesB 0 homes = false then ([], 0, 1)
  else if (totN l (boundsR l known).1 l.length).f0 ≠ (totN l (boundsR l known).1 l.length).f1 ∨ (totN l (boundsR l known).1 l.length).f0 = 0 then ([], 0, 3)
  else shareC c (totN l (boundsR l known).1 l.length).f0 homes (partsN l (boundsR l known).1 l.length)
 else ([], 0, (boundsR l known).2)
def charges_Network.f (a0 : Int) (l1 : List S63) (l2 : List S38) (l3 : List Int) : Option (List S40 × Int × Int) := if l1.length ≤ 5864062014805 ∧ l2.length ≤ 140737488355328 then some (networkC a0 l1 l2 l3) else none
theorem boundsR_two (l : List S63) (r : List S38) : (boundsR l r).2 ≠ 0 ∧ (boundsR l r).1 = [] ∨ (boundsR l r).2 = 0 ∧ l.length ≤ 200 ∧ (boundsR l r).1.length = l.length := by
 unfold boundsR
 cases hk : netOk l with
 | none => exact .inl ⟨by simp, rfl⟩
 | some kids =>
  have hl : l.length ≤ 200 := by
   unfold netOk at hk
   split at hk
   ·assumption
   ·cases hk
  simp only []
  split
  ·rename_i hb
   split
   ·refine .inr ⟨rfl, hl, ?_⟩
    rw [List.length_map, boundsF_len, List.length_map]
    simp [belongsB] at hb
    exact hb.1
   ·exact .inl ⟨by simp, rfl⟩
  ·exact .inl ⟨by simp, rfl⟩
theorem R_farT {e base g : Nat} {w : World} {A : Option Addr} {n c : Nat} {xs : List S38} (h : Kd.R k38 e w base (fun _ => True) (.slice A n c) xs) (hne : some g ≠ (Value.slice A n c).ownBlock) (j : Nat) (u : Value) : Kd.R k38 e (w.setCell ⟨g, j, none⟩ u) base (fun _ => True) (.slice A n c) xs :=
 Kd.R_mono (Kd.R_far (p := ⟨g, j, none⟩) (Kd.R_far1 h rfl hne) (fun _ hk => hk.2) u) (fun _ _ => trivial)
set_option maxHeartbeats 16000000 in
theorem charges_Network.calls (a0 : Int) (A1 : Option Addr) (c1 : Nat) (l1 : List (S63)) (A2 : Option Addr) (c2 : Nat) (l2 : List (S38)) (A3 : Option Addr) (c3 : Nat) (l3 : List Int) (r1 : List (S40)) (r2 r3 : Int) (w : World) (hr1 : Kd.C k63 w A1 l1.length l1) (hc1 : l1.length ≤ c1) (hr2 : Kd.C k38 w A2 l2.length l2) (hc2 : l2.length ≤ c2) (hr3 : Kd.C (Kd.int .i64) w A3 l3.length l3) (hc3 : l3.length ≤ c3) (h : charges_Network.f a0 l1 l2 l3 = some (r1, r2, r3)) :
  Calls Try.prog 19 #[.int .i64 a0, .slice A1 l1.length c1, .slice A2 l2.length c2, .slice A3 l3.length c3] w fun e w' => ∃ v0_ : Value, e = .returned (.tuple #[v0_, .int .i64 r2, .int .i64 r3]) ∧ Kd.R k40 40 w' w.heap.size (fun _ => True) v0_ r1 ∧ Below w.heap.size w w' := by
 have hu38 := Try.underlying38
 have hu63 := Try.underlying63
 unfold charges_Network.f at h
 by_cases hsz : l1.length ≤ 5864062014805 ∧ l2.length ≤ 140737488355328
 case neg =>
  rw [if_neg hsz] at h
  cases h
 rw [if_pos hsz] at h
 injection h with h
 have HR1 := Aside0.mk hr1
 have HC1 := Aside0.mk hc1
 have HR2 := Aside0.mk hr2
 have HC2 := Aside0.mk hc2
 have HR3 := Aside0.mk hr3
 have HC3 := Aside0.mk hc3
 have HB := Aside0.mk (Below.refl w.heap.size w)
 obtain ⟨bs, hbs⟩ : ∃ bs, bs = (boundsR l1 l2).1 := ⟨_, rfl⟩
 obtain ⟨be, hbe⟩ : ∃ be, be = (boundsR l1 l2).2 := ⟨_, rfl⟩
 have HE := Aside0.mk (show flow_Bounds.f l1 l2 = some (bs, be) by unfold flow_Bounds.f; rw [if_pos hsz, hbs, hbe])
 have hmm := @run_makeMap Try.prog
 clear hr1 hc1 hr2 hc2 hr3 hc3 hsz
 rcases boundsR_two l1 l2 with ⟨hne, hnil⟩ | ⟨h0, h200, hlen⟩
 ·have e : networkC a0 l1 l2 l3 = ([], 0, be) := by unfold networkC; rw [if_neg hne, hbe]
  rw [e] at h
  injection h with e1 e2
  injection e2 with e2 e3
  subst e1
  subst e2
  subst e3
  rw [← hbe] at hne
  have n1 : (be == 0) = false := beq_eq_false_iff_ne.2 hne
  have n2 : (be != 0) = true := bne_iff_ne.2 hne
  clear e hne hnil hbs hbe
  go_enter Try.func19, Try.ntmps19
  go_wp2_with (first | (go_at_call 25; (with_reducible refine (flow_Bounds.calls A1 c1 l1 A2 c2 l2 _ _ _ (Kd.C_below HR1.out HB.out) HC1.out (Kd.C_below HR2.out HB.out) HC2.out HE.out).mono ?_); rintro e w2 ⟨v2, rfl, hR_, hb_⟩; have n0_ := Aside0.mk (below_step HB.out hb_); obtain ⟨Ab, cb, rfl⟩ := Kd.R_slice hR_; have HRB := Aside0.mk (Kd.R_lower hR_ (below_size HB.out)); clear HB hb_ hR_; have HB := n0_; clear n0_))
  go_ret3
  exact ⟨_, rfl, Kd.R_nil _ _ _ _ _, HB.out⟩
 ·rw [← hbe] at h0
  rw [← hbs] at hlen
  subst h0
  have HNET := Aside0.mk (show networkC a0 l1 l2 l3 = (if a0 < 0 ∨ 1000000000 < a0 ∨ rootsN l1 l1.length ≠ 1 ∨ l3.length ≠ (partsN l1 bs l1.length).length ∨ homesB 0 l3 = false then ([], 0, 1) else if (totN l1 bs l1.length).f0 ≠ (totN l1 bs l1.length).f1 ∨ (totN l1 bs l1.length).f0 = 0 then ([], 0, 3) else shareC a0 (totN l1 bs l1.length).f0 l3 (partsN l1 bs l1.length)) by unfold networkC; rw [if_pos hbe.symm, ← hbs])
  rw [HNET.out] at h
  have HH := Aside0.mk h
  have HBL := Aside0.mk hlen
  have H200 := Aside0.mk h200
  clear h hlen h200 HNET hbs hbe
  go_enter Try.func19, Try.ntmps19
  go_wp2_with (first | (go_at_call 25; (with_reducible refine (flow_Bounds.calls A1 c1 l1 A2 c2 l2 _ _ _ (Kd.C_below HR1.out HB.out) HC1.out (Kd.C_below HR2.out HB.out) HC2.out HE.out).mono ?_); rintro e w2 ⟨v2, rfl, hR_, hb_⟩; have n0_ := Aside0.mk (below_step HB.out hb_); obtain ⟨Ab, cb, rfl⟩ := Kd.R_slice hR_; rw [HBL.out] at hR_; rw [HBL.out]; have HRB := Aside0.mk (Kd.R_lower hR_ (below_size HB.out)); clear HB hb_ hR_; have HB := n0_; clear n0_))
  obtain ⟨gm, hgm⟩ : ∃ gm, gm = w2.heap.size := ⟨_, rfl⟩
  obtain ⟨gt, hgt⟩ : ∃ gt, gt = w2.heap.size + 1 := ⟨_, rfl⟩
  obtain ⟨w4, hw4⟩ : ∃ w4, w4 = (w2.alloc (Obj.map #[] 0)).alloc (Obj.cells #[Value.int .i64 0, Value.int .i64 0] 38) := ⟨_, rfl⟩
  rw [← hw4, ← hgt, ← hgm]
  have hb4 : Below w2.heap.size w2 w4 := by rw [hw4]; exact below_alloc (below_alloc (Below.refl _ _) _) _
  have BT4 := Aside0.mk (show w4.heap[gt]? = some (.cells #[.int .i64 0, .int .i64 0] 38 (0, 0)) by rw [hw4, hgt]; have := blk_new (w2.alloc (Obj.map #[] 0)) (.cells #[Value.int .i64 0, Value.int .i64 0] 38); rwa [World.size_alloc] at this)
  have HM4 := Aside0.mk (show MapI w4 gm (mapVB (abvB l1 0)) by rw [hw4, hgm]; exact ((MapI.made w2).alloc _).eq (fun k => rfl))
  have HRB4 := Aside0.mk (Kd.R_below HRB.out hb4)
  have HB4 := Aside0.mk (below_step HB.out hb4)
  have GT := Aside0.mk (show w.heap.size ≤ gt by have := below_size HB.out; omega)
  have GM := Aside0.mk (show w.heap.size ≤ gm by have := below_size HB.out; omega)
  have NTB := Aside0.mk (show some gt ≠ (Value.slice Ab l1.length cb).ownBlock from fun e => by have := Kd.R_lt HRB.out _ e.symm; omega)
  clear hw4 hb4 hgm hgt HRB HB
  go_loopg [14, 33] l1.length (fun kq v14 v33 wr => ∃ (n : Nat) (q : Int) (t : S38), v14 = .int .i64 q ∧ v33 = .int .i64 n ∧ Aside0 (kq + n = l1.length) ∧ Aside0 (q = rootsN l1 n) ∧ Aside0 (t = totN l1 bs n) ∧ Aside0 (MapI wr gm (mapVB (abvB l1 n))) ∧ Aside0 (wr.heap[gt]? = some (.cells #[.int .i64 t.f0, .int .i64 t.f1] 38 (0, 0)))
   ∧ Aside0 (Kd.R k38 38 wr w.heap.size (fun _ => True) (.slice Ab l1.length cb) bs) ∧ Aside0 (Below w.heap.size w wr))
  case atStart => exact ⟨0, _, ⟨0, 0⟩, rfl, rfl, ⟨by omega⟩, ⟨rfl⟩, ⟨rfl⟩, HM4, BT4, HRB4, HB4⟩
  case round =>
   clear HM4 BT4 HRB4 HB4
   obtain ⟨n, q, t, rfl, rfl, HK, HQ, HT, HM, BT, HRB, HB⟩ := hrel
   by_cases hlt : n < l1.length
   ·obtain ⟨i, hi⟩ : ∃ i : Int, i = (n : Int) := ⟨_, rfl⟩
    rw [← hi]
    have HI2 := Aside0.mk (show 0 ≤ i ∧ i < l1.length ∧ i = (n : Int) from ⟨by omega, by omega, hi⟩)
    have d7 : decide (i < (l1.length : Int)) = true := decide_eq_true HI2.out.2.1
    have ci2 : (0 ≤ i) = True := eq_true HI2.out.1
    have ci3 : (i < l1.length) = True := eq_true HI2.out.2.1
    obtain ⟨adp, ep, hx0, hx1, hx2⟩ := at_T63 (Kd.C_below HR1.out HB.out) i HI2.out.1 HI2.out.2.1
    subst ep
    obtain ⟨p, hp⟩ : ∃ p, p = rd_T63 l1 i := ⟨_, rfl⟩
    rw [← hp] at hx0 hx1 hx2
    have HP := Aside0.mk hp
    have hz1 : i + 1 ≤ 9223372036854775807 := by have := HI2.out; have := H200.out; omega
    have hz2 : -9223372036854775808 ≤ i + 1 := by have := HI2.out; omega
    clear hi hlt hp
    have HB0 := Aside0.mk (Below.refl wr.heap.size wr)
    go_upto_region 10 with (first | ((with_reducible refine gate_dst (N := 17) rfl ?_); refine box_event ?hg (N := 17) ?hd (cs := #[.int .i64 0, .int .i64 0, .int .i64 0]) (t := 63) ?hr ?_; (case hd => rfl); (case hg => rfl); (case hr => first | (go_simp; done) | (go_simp; rfl)); intro gp hg_P w9 hbox_ hb_; have n0_ := Aside0.mk (below_step HB0.out hb_); have BP := Aside0.mk hbox_; have GP := Aside0.mk (show wr.heap.size ≤ gp by rw [hg_P]; exact below_size HB0.out); have EP := Aside0.mk hg_P; have hcp0 : w9.cell? ⟨gp, 0, none⟩ = some (.int .i64 0) := (blk_cell hbox_ 0).trans rfl; have hfp0 := blk_frozen hbox_ 0; have hcp1 : w9.cell? ⟨gp, 1, none⟩ = some (.int .i64 0) := (blk_cell hbox_ 1).trans rfl; have hfp1 := blk_frozen hbox_ 1; have hcp2 : w9.cell? ⟨gp, 2, none⟩ = some (.int .i64 0) := (blk_cell hbox_ 2).trans rfl; have hfp2 := blk_frozen hbox_ 2; clear HB0 hg_P hbox_ hb_; have HB0 := n0_; clear n0_))
    obtain ⟨w10, hw10⟩ : ∃ w10, w10 = ((w9.setCell ⟨gp, 0, none⟩ (.int .i64 p.f0)).setCell ⟨gp, 1, none⟩ (.int .i64 p.f1)).setCell ⟨gp, 2, none⟩ (.int .i64 p.f2) := ⟨_, rfl⟩
    rw [← hw10]
    have BP10 := Aside0.mk (show w10.heap[gp]? = some (.cells #[.int .i64 p.f0, .int .i64 p.f1, .int .i64 p.f2] 63 (0, 0)) by rw [hw10]; exact blk_put3 BP.out _ _ _)
    have HB10 := Aside0.mk (show Below wr.heap.size wr w10 by rw [hw10]; exact below_put3 HB0.out GP.out _ _ _)
    clear hw10 BP HB0 hcp0 hcp1 hcp2 hfp0 hfp1 hfp2 hx0 hx1 hx2
    have hcp1 : w10.cell? ⟨gp, 1, none⟩ = some (.int .i64 p.f1) := (blk_cell BP10.out 1).trans rfl
    have HM10 := Aside0.mk (HM.out.below HB10.out)
    go_upto_region 11 with (first | ((with_reducible refine gate_ (op := .mapUpdate 77 (.tmp 38) (.tmp 40) (.const (.bool true))) rfl ?_); refine wpList_storeI _ rfl (.tmp 38) (.tmp 40) (.const (.bool true)) 77 rfl 3 4 Try.underlying77 Try.underlying3 gm (mapVB (abvB l1 n)) rfl HM10.out p.f1 rfl (.bool true) rfl ?_; intro w11 hm9 hg9; have HM11 := Aside0.mk (hm9.eq (mapVB_set _ _)); have HG11 := Aside0.mk hg9; clear hm9 hg9))
    have hnt : some gt ≠ some gm := HM10.out.ne_blk (blk_below BT.out HB10.out)
    have BT11 := Aside0.mk (blk_grown (blk_below BT.out HB10.out) HG11.out hnt)
    have BP11 := Aside0.mk (blk_grown BP10.out HG11.out (HM10.out.ne_blk BP10.out))
    have HRB11 := Aside0.mk (R_map (Kd.R_below HRB.out HB10.out) HM10.out HG11.out)
    have HB11 := Aside0.mk (grown_below (below_step HB.out HB10.out) HG11.out (fun k e => by cases e; exact GM.out))
    have ei : i.toNat = n := by have := HI2.out; omega
    have ec : ((n : Nat) : Int) = i := by have := HI2.out; omega
    have HN1 := Aside0.mk (show (fun k' => if k' = p.f1 then true else abvB l1 n k') = abvB l1 (n + 1) by rw [HP.out, ← ec]; exact abvB_succ l1 n)
    have HPF := Aside0.mk (show (rd_T63 l1 n).f1 = p.f1 by rw [HP.out, ec])
    have HE2 := Aside0.mk (And.intro ei ec)
    clear hnt ei ec hcp1
    have hcp1 : w11.cell? ⟨gp, 1, none⟩ = some (.int .i64 p.f1) := (blk_cell BP11.out 1).trans rfl
    by_cases hz : p.f1 = 0
    ·have z1 : (p.f1 == 0) = true := beq_iff_eq.2 hz
     have HZ := Aside0.mk hz
     obtain ⟨adb, eb, hy0, hy1⟩ := at_T38 (Kd.R_reads' HRB11.out).2.2 i HI2.out.1 (by have := HI2.out; have := HBL.out; omega)
     subst eb
     obtain ⟨y0, hy0'⟩ : ∃ y0, y0 = (rd_T38 bs i).f0 := ⟨_, rfl⟩
     obtain ⟨y1, hy1'⟩ : ∃ y1, y1 = (rd_T38 bs i).f1 := ⟨_, rfl⟩
     rw [← hy0'] at hy0
     rw [← hy1'] at hy1
     have HY := Aside0.mk (And.intro hy0' hy1')
     have hct0 : w11.cell? ⟨gt, 0, none⟩ = some (.int .i64 t.f0) := (blk_cell BT11.out 0).trans rfl
     have hct1 : w11.cell? ⟨gt, 1, none⟩ = some (.int .i64 t.f1) := (blk_cell BT11.out 1).trans rfl
     have hft0 := blk_frozen BT11.out 0
     have hft1 := blk_frozen BT11.out 1
     clear hz hy0' hy1'
     go_wp2
     go_roundg (gk - 1)
     case measure => have := HK.out; have := HI2.out; omega
     case rel =>
      refine ⟨n + 1, _, ⟨y0, y1⟩, rfl, ?_, ⟨by have := HK.out; have := HI2.out; omega⟩, ⟨?_⟩, ⟨?_⟩, ⟨?_⟩, ⟨blk_put2 BT11.out _ _⟩, ⟨R_farT (R_farT HRB11.out NTB.out 0 _) NTB.out 1 _⟩, ⟨below_put2 HB11.out GT.out _ _⟩⟩
      ·have := HI2.out
       first | (rw [show ((n + 1 : Nat) : Int) = i + 1 from by omega]; done) | (simp; omega)
      ·unfold rootsN
       rw [foldl_range_succ, HPF.out, if_pos HZ.out]
       show _ = wrap64 (rootsN l1 n + 1)
       rw [← HQ.out]
      ·unfold totN
       rw [foldl_range_succ, HPF.out, if_pos HZ.out, HE2.out.2, HY.out.1, HY.out.2]
      ·rw [← HN1.out]
       exact (HM11.out.move (Below.heap_setCell _ _ _ _ (fun e => HM11.out.ne_blk BT11.out (by rw [e])))).move (Below.heap_setCell _ _ _ _ (fun e => HM11.out.ne_blk BT11.out (by rw [e])))
    ·have z1 : (p.f1 == 0) = false := beq_eq_false_iff_ne.2 hz
     have HZ := Aside0.mk hz
     clear hz
     go_wp2
     go_roundg (gk - 1)
     case measure => have := HK.out; have := HI2.out; omega
     case rel =>
      refine ⟨n + 1, _, t, rfl, ?_, ⟨by have := HK.out; have := HI2.out; omega⟩, ⟨?_⟩, ⟨?_⟩, ⟨?_⟩, BT11, HRB11, HB11⟩
      ·have := HI2.out
       first | (rw [show ((n + 1 : Nat) : Int) = i + 1 from by omega]; done) | (simp; omega)
      ·unfold rootsN
       rw [foldl_range_succ, HPF.out, if_neg HZ.out]
       exact HQ.out
      ·unfold totN
       rw [foldl_range_succ, HPF.out, if_neg HZ.out]
       exact HT.out
      ·rw [← HN1.out]
       exact HM11.out
   ·have d7 : decide ((n : Int) < (l1.length : Int)) = false := decide_eq_false (by omega)
    have d7' : decide (n < l1.length) = false := decide_eq_false hlt
    have hnl : n = l1.length := by have := HK.out; omega
    rw [hnl] at HQ HT HM
    clear hlt hnl
    go_wp2
    have HPT0 := Aside0.mk (show Kd.R k38 38 wr w.heap.size (fun k_ => some k_ ≠ (Value.slice Ab l1.length cb).ownBlock ∧ k_ ≠ gt) (.slice none 0 0) ([] : List S38) from Kd.R_nil _ _ _ _ _)
    go_loopg [18, 53] l1.length (fun kq v18 v53 wr => ∃ (n : Nat) (ps : List S38), v53 = .int .i64 n ∧ Aside0 (kq + n = l1.length) ∧ Aside0 (ps = partsN l1 bs n) ∧ Aside0 (Kd.R k38 38 wr w.heap.size (fun k_ => some k_ ≠ (Value.slice Ab l1.length cb).ownBlock ∧ k_ ≠ gt) v18 ps) ∧ Aside0 (MapI wr gm (mapVB (abvB l1 l1.length))) ∧ Aside0 (wr.heap[gt]? = some (.cells #[.int .i64 t.f0, .int .i64 t.f1] 38 (0, 0)))
     ∧ Aside0 (Kd.R k38 38 wr w.heap.size (fun _ => True) (.slice Ab l1.length cb) bs) ∧ Aside0 (Below w.heap.size w wr))
    case atStart => exact ⟨0, _, rfl, ⟨by omega⟩, ⟨rfl⟩, HPT0, HM, BT, HRB, HB⟩
    case round =>
     clear HPT0 HM BT HRB HB
     obtain ⟨n, ps, rfl, HK, HPS, HRP, HM, BT, HRB, HB⟩ := hrel
     by_cases hlt : n < l1.length
     ·obtain ⟨i, hi⟩ : ∃ i : Int, i = (n : Int) := ⟨_, rfl⟩
      rw [← hi]
      have HI2 := Aside0.mk (show 0 ≤ i ∧ i < l1.length ∧ i = (n : Int) from ⟨by omega, by omega, hi⟩)
      have d7 : decide (i < (l1.length : Int)) = true := decide_eq_true HI2.out.2.1
      have ci2 : (0 ≤ i) = True := eq_true HI2.out.1
      have ci3 : (i < l1.length) = True := eq_true HI2.out.2.1
      obtain ⟨adp, ep, hx0, hx1, hx2⟩ := at_T63 (Kd.C_below HR1.out HB.out) i HI2.out.1 HI2.out.2.1
      subst ep
      obtain ⟨p, hp⟩ : ∃ p, p = rd_T63 l1 i := ⟨_, rfl⟩
      rw [← hp] at hx0 hx1 hx2
      have HP := Aside0.mk hp
      have hz1 : i + 1 ≤ 9223372036854775807 := by have := HI2.out; have := H200.out; omega
      have hz2 : -9223372036854775808 ≤ i + 1 := by have := HI2.out; omega
      clear hi hlt hp
      have HB0 := Aside0.mk (Below.refl wr.heap.size wr)
      go_upto_region 19 with (first | ((with_reducible refine gate_dst (N := 20) rfl ?_); refine box_event ?hg (N := 20) ?hd (cs := #[.int .i64 0, .int .i64 0, .int .i64 0]) (t := 63) ?hr ?_; (case hd => rfl); (case hg => rfl); (case hr => first | (go_simp; done) | (go_simp; rfl)); intro gp hg_P w9 hbox_ hb_; have n0_ := Aside0.mk (below_step HB0.out hb_); have BP := Aside0.mk hbox_; have GP := Aside0.mk (show wr.heap.size ≤ gp by rw [hg_P]; exact below_size HB0.out); have EP := Aside0.mk hg_P; have hcp0 : w9.cell? ⟨gp, 0, none⟩ = some (.int .i64 0) := (blk_cell hbox_ 0).trans rfl; have hfp0 := blk_frozen hbox_ 0; have hcp1 : w9.cell? ⟨gp, 1, none⟩ = some (.int .i64 0) := (blk_cell hbox_ 1).trans rfl; have hfp1 := blk_frozen hbox_ 1; have hcp2 : w9.cell? ⟨gp, 2, none⟩ = some (.int .i64 0) := (blk_cell hbox_ 2).trans rfl; have hfp2 := blk_frozen hbox_ 2; clear HB0 hg_P hbox_ hb_; have HB0 := n0_; clear n0_))
      obtain ⟨w10, hw10⟩ : ∃ w10, w10 = ((w9.setCell ⟨gp, 0, none⟩ (.int .i64 p.f0)).setCell ⟨gp, 1, none⟩ (.int .i64 p.f1)).setCell ⟨gp, 2, none⟩ (.int .i64 p.f2) := ⟨_, rfl⟩
      rw [← hw10]
      have BP10 := Aside0.mk (show w10.heap[gp]? = some (.cells #[.int .i64 p.f0, .int .i64 p.f1, .int .i64 p.f2] 63 (0, 0)) by rw [hw10]; exact blk_put3 BP.out _ _ _)
      have HB10 := Aside0.mk (show Below wr.heap.size wr w10 by rw [hw10]; exact below_put3 HB0.out GP.out _ _ _)
      clear hw10 BP HB0 hcp0 hcp1 hcp2 hfp0 hfp1 hfp2 hx0 hx1 hx2
      have hcp0 : w10.cell? ⟨gp, 0, none⟩ = some (.int .i64 p.f0) := (blk_cell BP10.out 0).trans rfl
      have HM10 := Aside0.mk (HM.out.below HB10.out)
      have BT10 := Aside0.mk (blk_below BT.out HB10.out)
      have HRB10 := Aside0.mk (Kd.R_below HRB.out HB10.out)
      have HRP10 := Aside0.mk (Kd.R_below HRP.out HB10.out)
      have HBB10 := Aside0.mk (below_step HB.out HB10.out)
      have ei : i.toNat = n := by have := HI2.out; omega
      have ec : ((n : Nat) : Int) = i := by have := HI2.out; omega
      have HPF := Aside0.mk (show (rd_T63 l1 n).f0 = p.f0 by rw [HP.out, ec])
      have HE2 := Aside0.mk (And.intro ei ec)
      clear ei ec
      cases hab : abvB l1 l1.length p.f0 with
      | true =>
       have HAB := Aside0.mk hab
       clear hab
       go_wp2_with (first | ((with_reducible refine gate_ (op := .lookup 77 (.tmp 58) (.tmp 60) false) rfl ?_); refine wpList_lookI _ rfl (.tmp 58) (.tmp 60) 77 false rfl 3 4 Try.underlying77 Try.underlying3 (Try.zeroValue4 _) gm (mapVB (abvB l1 l1.length)) rfl HM10.out p.f0 rfl ?_; rw [if_neg (by decide), mapVB_get, HAB.out]))
       go_roundg (gk - 1)
       case measure => have := HK.out; have := HI2.out; omega
       case rel =>
        refine ⟨n + 1, ps, ?_, ⟨by have := HK.out; have := HI2.out; omega⟩, ⟨?_⟩, HRP10, HM10, BT10, HRB10, HBB10⟩
        ·have := HI2.out
         first | (rw [show ((n + 1 : Nat) : Int) = i + 1 from by omega]; done) | (simp; omega)
        ·unfold partsN
         rw [foldl_range_succ, HPF.out, if_pos HAB.out]
         exact HPS.out
      | false =>
       have HAB := Aside0.mk hab
       clear hab
       obtain ⟨adb, eb, hy0, hy1⟩ := at_T38 (Kd.R_reads' HRB10.out).2.2 i HI2.out.1 (by have := HI2.out; have := HBL.out; omega)
       subst eb
       obtain ⟨y0, hy0'⟩ : ∃ y0, y0 = (rd_T38 bs i).f0 := ⟨_, rfl⟩
       obtain ⟨y1, hy1'⟩ : ∃ y1, y1 = (rd_T38 bs i).f1 := ⟨_, rfl⟩
       rw [← hy0'] at hy0
       rw [← hy1'] at hy1
       have HY := Aside0.mk (And.intro hy0' hy1')
       have HPL := Aside0.mk (show ps.length ≤ 200 by have h1 := partsN_len l1 bs n; rw [HPS.out]; have := HI2.out; have := H200.out; omega)
       clear hy0' hy1'
       go_wp2_with (first | ((with_reducible refine gate_ (op := .lookup 77 (.tmp 58) (.tmp 60) false) rfl ?_); refine wpList_lookI _ rfl (.tmp 58) (.tmp 60) 77 false rfl 3 4 Try.underlying77 Try.underlying3 (Try.zeroValue4 _) gm (mapVB (abvB l1 l1.length)) rfl HM10.out p.f0 rfl ?_; rw [if_neg (by decide), mapVB_get, HAB.out]) | ((with_reducible refine gate_builtin (b := .append) (xs := #[.tmp 63, .tmp 68]) rfl ?_); at_builtin; refine Kd.R_append k38 (w0 := w) w.heap.size rfl (.tmp 63) (.tmp 68) 23 38 (.agg #[(.int .i64 0), (.int .i64 0)]) 16 rfl Try.underlying23 info38 rfl (by decide) (by omega) _ ps (⟨y0, y1⟩ : S38) [.int .i64 y0, .int .i64 y1] (fun k_ => some k_ ≠ (Value.slice (some adb) l1.length cb).ownBlock ∧ k_ ≠ gt) (fun _ => False) rfl rfl (k38_mkM _ _ _ (⟨y0, y1⟩ : S38)) (fun _ hk => hk.elim) (fun k_ hk_ => ⟨fun e_ => by have := Kd.R_lt HRB10.out k_ e_.symm; omega, fun e_ => by have := blk_lt BT10.out; omega⟩) HRP10.out HBB10.out (below_size HBB10.out) (by have := HPL.out; omega) ?_; intro v9 w12 ho_ hb_ hg_ hat_; have HRP12 := Aside0.mk ho_; have HRB12 := Aside0.mk (Kd.R_grown2 HRB10.out rfl hg_ (fun k_ hk_ => (HRP10.out.1 k_ hk_).1)); have BT12 := Aside0.mk (blk_grown BT10.out hg_ (fun e_ => (HRP10.out.1 gt e_.symm).2 rfl)); have HM12 := Aside0.mk (HM10.out.kept hg_ (HM10.out.ne_row HRP10.out)); have HBB12 := Aside0.mk hb_; clear ho_ hb_ hg_ hat_))
       go_roundg (gk - 1)
       case measure => have := HK.out; have := HI2.out; omega
       case rel =>
        refine ⟨n + 1, _, ?_, ⟨by have := HK.out; have := HI2.out; omega⟩, ⟨?_⟩, HRP12, HM12, BT12, HRB12, HBB12⟩
        ·have := HI2.out
         first | (rw [show ((n + 1 : Nat) : Int) = i + 1 from by omega]; done) | (simp; omega)
        ·unfold partsN
         rw [foldl_range_succ, HPF.out, if_neg (by rw [HAB.out]; decide), HE2.out.2, HY.out.1, HY.out.2]
         show _ = partsN l1 bs n ++ _
         rw [← HPS.out]
     ·have d7 : decide ((n : Int) < (l1.length : Int)) = false := decide_eq_false (by omega)
      have d7' : decide (n < l1.length) = false := decide_eq_false hlt
      have hnl : n = l1.length := by have := HK.out; omega
      rw [hnl] at HPS
      clear hlt hnl
      obtain ⟨Ap, cp, ep⟩ := Kd.R_slice HRP.out
      subst ep
      have hct0 : wr.cell? ⟨gt, 0, none⟩ = some (.int .i64 t.f0) := (blk_cell BT.out 0).trans rfl
      have hct1 : wr.cell? ⟨gt, 1, none⟩ = some (.int .i64 t.f1) := (blk_cell BT.out 1).trans rfl
      have HH2 := HH.out
      rw [← HQ.out, ← HT.out, ← HPS.out] at HH2
      by_cases b1 : a0 < 0
      ·rw [if_pos (.inl b1)] at HH2
       cases HH2
       have e1 : decide (a0 < 0) = true := decide_eq_true b1
       clear b1
       go_wp2
       go_ret3
       exact ⟨_, rfl, Kd.R_nil _ _ _ _ _, HB.out⟩
      have e1 : decide (a0 < 0) = false := decide_eq_false b1
      by_cases b2 : 1000000000 < a0
      ·rw [if_pos (.inr (.inl b2))] at HH2
       cases HH2
       have e2 : decide (1000000000 < a0) = true := decide_eq_true b2
       clear b1 b2
       go_wp2
       go_ret3
       exact ⟨_, rfl, Kd.R_nil _ _ _ _ _, HB.out⟩
      have e2 : decide (1000000000 < a0) = false := decide_eq_false b2
      by_cases b3 : q = 1
      case neg =>
       rw [if_pos (.inr (.inr (.inl b3)))] at HH2
       cases HH2
       have e3 : (q == 1) = false := beq_eq_false_iff_ne.2 b3
       have e3' : (q != 1) = true := bne_iff_ne.2 b3
       clear b1 b2 b3
       go_wp2
       go_ret3
       exact ⟨_, rfl, Kd.R_nil _ _ _ _ _, HB.out⟩
      have e3 : (q == 1) = true := beq_iff_eq.2 b3
      have e3' : (q != 1) = false := by rw [bne_eq_false_iff_eq]; exact b3
      by_cases b4 : l3.length = ps.length
      case neg =>
       rw [if_pos (.inr (.inr (.inr (.inl b4))))] at HH2
       cases HH2
       have e4 : ((l3.length : Int) == (ps.length : Int)) = false := beq_eq_false_iff_ne.2 (by omega)
       have e4' : ((l3.length : Int) != (ps.length : Int)) = true := by rw [bne_iff_ne]; omega
       clear b1 b2 b3 b4
       go_wp2
       go_ret3
       exact ⟨_, rfl, Kd.R_nil _ _ _ _ _, HB.out⟩
      have e4 : ((l3.length : Int) == (ps.length : Int)) = true := beq_iff_eq.2 (by omega)
      have e4' : ((l3.length : Int) != (ps.length : Int)) = false := by rw [bne_eq_false_iff_eq]; omega
      have HN3 := Aside0.mk (show l3.length ≤ 140737488355328 by have h1 := partsN_len l1 bs l1.length; rw [← HPS.out] at h1; have := H200.out; omega)
      cases hh : homesB 0 l3 with
      | false =>
       rw [if_pos (.inr (.inr (.inr (.inr hh))))] at HH2
       cases HH2
       have HHO := Aside0.mk hh
       clear b1 b2 b3 b4 hh
       go_wp2_with (first | (go_at_call 35; (with_reducible refine (homes_any A3 c3 l3 _ _ (Kd.C_below HR3.out HB.out) HC3.out HN3.out HHO.out).mono ?_); rintro e w13 ⟨rfl, hdr⟩; have hb_ := hdr.below; have n0_ := Aside0.mk (below_step HB.out hb_); have HRP := Aside0.mk (Kd.R_below HRP.out hb_); replace hct0 := (hb_.cell (World.block_lt_of_cell? _ _ hct0)).trans hct0; replace hct1 := (hb_.cell (World.block_lt_of_cell? _ _ hct1)).trans hct1; clear HB hb_ hdr; have HB := n0_; clear n0_))
       go_ret3
       exact ⟨_, rfl, Kd.R_nil _ _ _ _ _, HB.out⟩
      | true =>
      rw [if_neg (by rw [hh]; rintro (h_ | h_ | h_ | h_ | h_) <;> first | exact absurd h_ (by assumption) | exact h_ b3 | exact h_ b4 | cases h_)] at HH2
      have HHO := Aside0.mk hh
      clear b1 b2 b3 b4 hh
      by_cases b5 : t.f0 = t.f1
      case neg =>
       rw [if_pos (.inl b5)] at HH2
       cases HH2
       have e5 : (t.f0 == t.f1) = false := beq_eq_false_iff_ne.2 b5
       have e5' : (t.f0 != t.f1) = true := bne_iff_ne.2 b5
       clear b5
       go_wp2_with (first | (go_at_call 35; (with_reducible refine (homes_any A3 c3 l3 _ _ (Kd.C_below HR3.out HB.out) HC3.out HN3.out HHO.out).mono ?_); rintro e w13 ⟨rfl, hdr⟩; have hb_ := hdr.below; have n0_ := Aside0.mk (below_step HB.out hb_); have HRP := Aside0.mk (Kd.R_below HRP.out hb_); replace hct0 := (hb_.cell (World.block_lt_of_cell? _ _ hct0)).trans hct0; replace hct1 := (hb_.cell (World.block_lt_of_cell? _ _ hct1)).trans hct1; clear HB hb_ hdr; have HB := n0_; clear n0_))
       go_ret3
       exact ⟨_, rfl, Kd.R_nil _ _ _ _ _, HB.out⟩
      have e5 : (t.f0 == t.f1) = true := beq_iff_eq.2 b5
      have e5' : (t.f0 != t.f1) = false := by rw [bne_eq_false_iff_eq]; exact b5
      by_cases b6 : t.f0 = 0
      ·rw [if_pos (.inr b6)] at HH2
       cases HH2
       have e6 : (t.f0 == 0) = true := beq_iff_eq.2 b6
       clear b5 b6
       go_wp2_with (first | (go_at_call 35; (with_reducible refine (homes_any A3 c3 l3 _ _ (Kd.C_below HR3.out HB.out) HC3.out HN3.out HHO.out).mono ?_); rintro e w13 ⟨rfl, hdr⟩; have hb_ := hdr.below; have n0_ := Aside0.mk (below_step HB.out hb_); have HRP := Aside0.mk (Kd.R_below HRP.out hb_); replace hct0 := (hb_.cell (World.block_lt_of_cell? _ _ hct0)).trans hct0; replace hct1 := (hb_.cell (World.block_lt_of_cell? _ _ hct1)).trans hct1; clear HB hb_ hdr; have HB := n0_; clear n0_))
       go_ret3
       exact ⟨_, rfl, Kd.R_nil _ _ _ _ _, HB.out⟩
      have e6 : (t.f0 == 0) = false := beq_eq_false_iff_ne.2 b6
      rw [if_neg (fun h_ => h_.elim (fun x_ => x_ b5) b6)] at HH2
      have HSH := Aside0.mk (show charges_Share.f a0 t.f0 l3 ps = some (r1, r2, r3) from congrArg some HH2)
      clear b5 b6 HH2
      go_wp2_with (first | (go_at_call 35; (with_reducible refine (homes_any A3 c3 l3 _ _ (Kd.C_below HR3.out HB.out) HC3.out HN3.out HHO.out).mono ?_); rintro e w13 ⟨rfl, hdr⟩; have hb_ := hdr.below; have n0_ := Aside0.mk (below_step HB.out hb_); have HRP := Aside0.mk (Kd.R_below HRP.out hb_); replace hct0 := (hb_.cell (World.block_lt_of_cell? _ _ hct0)).trans hct0; replace hct1 := (hb_.cell (World.block_lt_of_cell? _ _ hct1)).trans hct1; clear HB hb_ hdr; have HB := n0_; clear n0_) | (go_at_call 16; (with_reducible refine (charges_Share.calls a0 t.f0 A3 c3 l3 Ap cp ps _ _ _ _ (Kd.C_below HR3.out HB.out) HC3.out (Kd.R_reads' HRP.out).2.2 (Kd.R_reads' HRP.out).2.1 HSH.out).mono ?_); rintro e w14 ⟨v14, rfl, hR_, hb_⟩; have n0_ := Aside0.mk (below_step HB.out hb_); have HRS := Aside0.mk (Kd.R_lower hR_ (below_size HB.out)); clear HB hb_ hR_; have HB := n0_; clear n0_))
      go_ret3
      exact ⟨_, rfl, HRS.out, HB.out⟩
end
section
theorem eqA38 (d : Nat) (w : World) (x0 y0 : Int) (x1 y1 : Int) :
  (Op.equalIn (d + 2) 38 (.agg #[.int .i64 x0, .int .i64 x1]) (.agg #[.int .i64 y0, .int .i64 y1])).run Try.prog w = .ok (x0 == y0 && (x1 == y1)) w := by
 refine eqA_of Try.underlying38 (by kernel_rfl) ?_
 refine eqf_cons (by rfl) (by go_simp; rfl) (by go_simp; rfl) (by go_simp) ?_
 exact eqf_last (by rfl) (by go_simp; rfl) (by go_simp; rfl) (by go_simp)
end
section
theorem eqA40 (d : Nat) (w : World) (x0 y0 : Int) (x1 y1 : Int) (x2 y2 : Int) (x3 y3 : Int) (x4 y4 : Bool) :
  (Op.equalIn (d + 3) 40 (.agg #[.int .i64 x0, .int .i64 x1, .int .i64 x2, .int .i64 x3, .bool x4]) (.agg #[.int .i64 y0, .int .i64 y1, .int .i64 y2, .int .i64 y3, .bool y4])).run Try.prog w = .ok (x0 == y0 && (x1 == y1 && ((x2 == y2 && (x3 == y3)) && (x4 == y4)))) w := by
 refine eqA_of Try.underlying40 (by kernel_rfl) ?_
 refine eqf_cons (by rfl) (by go_simp; rfl) (by go_simp; rfl) (by go_simp) ?_
 refine eqf_cons (by rfl) (by go_simp; rfl) (by go_simp; rfl) (by go_simp) ?_
 refine eqf_cons (by rfl) (by go_simp) (by go_simp) (eqA38 (d + 0) w _ _ _ _) ?_
 exact eqf_last (by rfl) (by go_simp; rfl) (by go_simp; rfl) (by go_simp)
end
section
open Go.Proofs.YthjjabcbngffoaaH
def amtB (l : List Int) : Bool := l.all (fun n => decide (-1000000000 ≤ n) && decide (n ≤ 1000000000))
theorem amtB_at {l : List Int} (h : amtB l = true) (i : Int) (h0 : 0 ≤ i) (h1 : i < l.length) : -1000000000 ≤ rd l i ∧ rd l i ≤ 1000000000 := by
 unfold amtB at h
 rw [List.all_eq_true] at h
 have hm : rd l i ∈ l := by
  have h' : i.toNat < l.length := by omega
  simp [rd, List.getD_eq_getElem?_getD, h']
 have := h _ hm
 simp only [Bool.and_eq_true, decide_eq_true_eq] at this
 exact this
theorem amt1_calls (n : Int) (w : World) (h0 : -1000000000 ≤ n) (h1 : n ≤ 1000000000) :
  Calls Try.prog 88 #[.int .i64 n] w fun e w' => e = .returned (.bool false) ∧ Below w.heap.size w w' := by
 have d1 : decide (n < -1000000000) = false := decide_eq_false (by omega)
 have d2 : decide (1000000000 < n) = false := decide_eq_false (by omega)
 clear h0 h1
 go_enter Try.func88, Try.ntmps88
 go_wp2
 go_ret
 exact ⟨rfl, Below.refl _ _⟩
theorem amt_index (A0 : Option Addr) (c0 : Nat) (l0 : List Int) (w : World) (hr0 : Kd.C (Kd.int .i64) w A0 l0.length l0) (hn : l0.length ≤ 140737488355328) (ha : amtB l0 = true) :
 Calls Try.prog 95 #[.slice A0 l0.length c0, .func (.func 88) #[] #[]] w fun e w' => e = .returned (.int .i64 (-1)) ∧ Below w.heap.size w w' := by
 have HR0 := Aside0.mk hr0
 have HN := Aside0.mk hn
 have HA := Aside0.mk ha
 clear hr0 hn ha
 have HB := Aside0.mk (Below.refl w.heap.size w)
 go_enter Try.func95, Try.ntmps95
 go_wp2
 go_loopg [8] l0.length (fun kq v8 w' => ∃ (i : Int), v8 = .int .i64 i ∧ Aside0 (0 ≤ i ∧ kq + i.toNat = l0.length) ∧ Aside0 (Below w.heap.size w w'))
 case atStart => exact ⟨0, rfl, ⟨by simp⟩, HB⟩
 case round =>
  obtain ⟨i, rfl, HK, HB⟩ := hrel
  by_cases hlt : i < l0.length
  ·have c1 : decide ((i:Int) < (l0.length : Int)) = true := decide_eq_true hlt
   have c2 : (0 ≤ i) = True := eq_true HK.out.1
   have c3 : (i < l0.length) = True := eq_true hlt
   have HP := Aside0.mk (amtB_at HA.out i HK.out.1 hlt)
   obtain ⟨ad, e, hx0⟩ := Kd.at_int (Kd.C_below HR0.out HB.out) i HK.out.1 hlt
   cases e
   have HL := Aside0.mk hlt
   clear hlt
   have hw1 : i + 1 ≤ 9223372036854775807 := by have := HN.out; have := HL.out; omega
   have hw2 : 0 ≤ i + 1 := by have := HK.out; omega
   go_wp2_with (first | ((with_reducible refine (amt1_calls (rd l0 i) _ HP.out.1 HP.out.2).mono ?_); rintro e w1 ⟨rfl, hb⟩; have HB1 := Aside0.mk hb; clear hb))
   go_roundg (gk - 1)
   case measure => have := HK.out; have := HL.out; omega
   case rel =>
    refine ⟨i + 1, ?_, ⟨by have := HK.out; have := HL.out; omega⟩, ⟨HB.out.trans (HB1.out.mono HB.out.size)⟩⟩
    first | rfl | (simp; done)
  ·have c1 : decide ((i:Int) < (l0.length : Int)) = false := decide_eq_false hlt
   clear hlt
   go_wp2
   go_ret
   exact ⟨rfl, HB.out⟩
theorem amt_calls (A0 : Option Addr) (c0 : Nat) (l0 : List Int) (w : World) (hr0 : Kd.C (Kd.int .i64) w A0 l0.length l0) (hn : l0.length ≤ 140737488355328) (ha : amtB l0 = true) :
 Calls Try.prog 87 #[.slice A0 l0.length c0, .func (.func 88) #[] #[]] w fun e w' => e = .returned (.bool false) ∧ Below w.heap.size w w' := by
 have HR0 := Aside0.mk hr0
 clear hr0
 go_enter Try.func87, Try.ntmps87
 go_wp2_with (first | ((with_reducible refine (amt_index _ _ l0 _ HR0.out hn ha).mono ?_); rintro e w1 ⟨rfl, hb⟩; have HB1 := Aside0.mk hb; clear hb))
 go_ret
 exact ⟨rfl, HB1.out⟩
theorem isAmount_calls (A0 : Option Addr) (c0 : Nat) (l0 : List Int) (w : World) (hr0 : Kd.C (Kd.int .i64) w A0 l0.length l0) (hn : l0.length ≤ 140737488355328) (ha : amtB l0 = true) :
  Calls Try.prog 70 #[.slice A0 l0.length c0] w fun e w' => e = .returned (.bool true) ∧ Below w.heap.size w w' := by
 have HR0 := Aside0.mk hr0
 clear hr0
 go_enter Try.func70, Try.ntmps70
 go_wp2_with (first | ((with_reducible refine (amt_calls _ _ l0 _ HR0.out hn ha).mono ?_); rintro e w1 ⟨rfl, hb⟩; have HB1 := Aside0.mk hb; clear hb))
 go_ret
 exact ⟨rfl, HB1.out⟩
end
section
open Go.Proofs.YthjjabcbngffoaaH
def seenB (l : List S40) (n : Nat) (k : Int) : Bool := (List.range n).any (fun j => decide (k = (rd_T40 l j).f0))
theorem seenB_succ (l : List S40) (n : Nat) : (fun k' => if k' = (rd_T40 l n).f0 then true else seenB l n k') = seenB l (n + 1) := by
 funext k
 unfold seenB
 rw [List.range_succ, List.any_append]
 by_cases h : k = (rd_T40 l n).f0 <;> simp [h]
def oneB (x : S40) : Bool := decide (1 ≤ x.f0) && decide (x.f0 ≤ 64) && (amtB [x.f2.f0, x.f2.f1] && (decide (x.f2.f0 ≤ x.f1) && decide (x.f1 ≤ x.f2.f1) && (x.f3 == (x.f2.f1 == x.f2.f0))))
def chgsB (l : List S40) : Bool := decide (l.length ≤ 64) && (List.range l.length).all (fun j => oneB (rd_T40 l j) && !seenB l j (rd_T40 l j).f0)
theorem chgsB_at {l : List S40} (h : chgsB l = true) : l.length ≤ 64 ∧ ∀ j : Nat, j < l.length → oneB (rd_T40 l j) = true ∧ seenB l j (rd_T40 l j).f0 = false := by
 unfold chgsB at h
 rw [Bool.and_eq_true, decide_eq_true_eq, List.all_eq_true] at h
 refine ⟨h.1, fun j hj => ?_⟩
 have := h.2 j (List.mem_range.2 hj)
 rw [Bool.and_eq_true, Bool.not_eq_true'] at this
 exact this
theorem oneB_at {x : S40} (h : oneB x = true) : 1 ≤ x.f0 ∧ x.f0 ≤ 64 ∧ amtB [x.f2.f0, x.f2.f1] = true ∧ x.f2.f0 ≤ x.f1 ∧ x.f1 ≤ x.f2.f1 ∧ x.f3 = (x.f2.f1 == x.f2.f0) := by
 unfold oneB at h
 simp only [Bool.and_eq_true, decide_eq_true_eq, beq_iff_eq] at h
 exact ⟨h.1.1, h.1.2, h.2.1, h.2.2.1.1, h.2.2.1.2, h.2.2.2⟩
theorem eqR38 (d : Nat) (w : World) (x0 y0 : Int) (x1 y1 : Int) :
  (Op.equalIn (d + 2) 38 (.agg #[.int .i64 x0, .int .i64 x1]) (.agg #[.int .i64 y0, .int .i64 y1])).run Try.prog w = .ok (x0 == y0 && (x1 == y1)) w := by
 refine eqA_of Try.underlying38 (by kernel_rfl) ?_
 refine eqf_cons (by rfl) (by go_simp; rfl) (by go_simp; rfl) (by go_simp) ?_
 exact eqf_last (by rfl) (by go_simp; rfl) (by go_simp; rfl) (by go_simp)
attribute [local go_sem high] eqR38
theorem look_no {w : World} {gm : Nat} {m : Int → Bool} {k : Int} (h : MapI w gm (mapVB m)) (hk : m k = false) : (Instr.lookup 77 (.map (some gm)) (.int .i64 k) false).run Try.prog w = .ok (.bool false) w := by
 have := run_lookI h Try.underlying77 Try.underlying3 (Try.zeroValue4 w) k false
 rw [if_neg (by decide), mapVB_get, hk] at this
 exact this
set_option maxHeartbeats 16000000 in
theorem chgs_calls (A0 : Option Addr) (c0 : Nat) (l0 : List (S40)) (w : World) (hr0 : Kd.C k40 w A0 l0.length l0) (hok : chgsB l0 = true) :
  Calls Try.prog 84 #[.slice A0 l0.length c0] w fun e w' => e = .returned (.bool true) ∧ Below w.heap.size w w' := by
 have hu38 := Try.underlying38
 have hu40 := Try.underlying40
 have HR0 := Aside0.mk hr0
 have HOK := Aside0.mk (chgsB_at hok)
 clear hr0 hok
 have HBW := Aside0.mk (Below.refl w.heap.size w)
 have hmm := @run_makeMap Try.prog
 have d70 : decide ((l0.length : Int) ≤ 64) = true := decide_eq_true (by have := HOK.out.1; omega)
 have d71 : decide (l0.length ≤ 64) = true := decide_eq_true HOK.out.1
 go_enter Try.func84, Try.ntmps84
 go_wp2
 obtain ⟨gm, hgm⟩ : ∃ gm, gm = w.heap.size := ⟨_, rfl⟩
 obtain ⟨w4, hw4⟩ : ∃ w4, w4 = w.alloc (Obj.map #[] 0) := ⟨_, rfl⟩
 rw [← hw4, ← hgm]
 have HM4 := Aside0.mk (show MapI w4 gm (mapVB (seenB l0 0)) by rw [hw4, hgm]; exact (MapI.made w).eq (fun k => rfl))
 have HB4 := Aside0.mk (show Below w.heap.size w w4 by rw [hw4]; exact below_alloc (Below.refl _ _) _)
 have GM := Aside0.mk (show w.heap.size ≤ gm by omega)
 clear hw4 hgm HBW
 go_loopg [10] l0.length (fun kq v10 wr => ∃ n : Nat, v10 = .int .i64 n ∧ Aside0 (kq + n = l0.length) ∧ Aside0 (MapI wr gm (mapVB (seenB l0 n))) ∧ Aside0 (Below w.heap.size w wr))
 case atStart => exact ⟨0, rfl, ⟨by omega⟩, HM4, HB4⟩
 case round =>
  clear HM4 HB4
  obtain ⟨n, rfl, HK, HM, HB⟩ := hrel
  by_cases hlt : n < l0.length
  case neg =>
   have d7 : decide ((n : Int) < (l0.length : Int)) = false := decide_eq_false (by omega)
   have d7' : decide (n < l0.length) = false := decide_eq_false hlt
   clear hlt
   go_wp2
   go_ret
   exact ⟨rfl, HB.out⟩
  obtain ⟨i, hi⟩ : ∃ i : Int, i = (n : Int) := ⟨_, rfl⟩
  rw [← hi]
  have HI2 := Aside0.mk (show 0 ≤ i ∧ i < l0.length ∧ i = (n : Int) from ⟨by omega, by omega, hi⟩)
  have d7 : decide (i < (l0.length : Int)) = true := decide_eq_true HI2.out.2.1
  have ci2 : (0 ≤ i) = True := eq_true HI2.out.1
  have ci3 : (i < l0.length) = True := eq_true HI2.out.2.1
  obtain ⟨adp, ep, hx0, hx1, hx2, hx3, hx4⟩ := at_T40 (Kd.C_below HR0.out HB.out) i HI2.out.1 HI2.out.2.1
  subst ep
  have ho1 := (HOK.out.2 n hlt).1
  have ho2 := (HOK.out.2 n hlt).2
  rw [← hi] at ho1 ho2
  have hs1 := seenB_succ l0 n
  rw [← hi] at hs1
  obtain ⟨⟨h, c, ⟨lo, hi_⟩, s⟩, hp⟩ : ∃ p, p = rd_T40 l0 i := ⟨_, rfl⟩
  rw [← hp] at hx0 hx1 hx2 hx3 hx4 ho1 ho2 hs1
  obtain ⟨o1, o2, HAM, o4, o5, o6⟩ := oneB_at ho1
  dsimp only at hx0 hx1 hx2 hx3 hx4 o1 o2 HAM o4 o5 o6 ho2 hs1
  subst o6
  have HAMT := Aside0.mk HAM
  have HNO := Aside0.mk ho2
  have HS1 := Aside0.mk hs1
  have t1 : decide (h < 1) = false := decide_eq_false (by omega)
  have t2 : decide (64 < h) = false := decide_eq_false (by omega)
  have t3 : decide (c < lo) = false := decide_eq_false (by omega)
  have t4 : decide (hi_ < c) = false := decide_eq_false (by omega)
  have hz1 : i + 1 ≤ 9223372036854775807 := by have := HI2.out; have := HOK.out.1; omega
  have hz2 : -9223372036854775808 ≤ i + 1 := by have := HI2.out; omega
  clear hi hlt hp ho1 ho2 hs1 HAM o1 o2 o4 o5
  have HB0 := Aside0.mk (Below.refl wr.heap.size wr)
  go_upto_region 5 with (first | ((with_reducible refine gate_dst (N := 5) rfl ?_); refine box_event ?hg (N := 5) ?hd (cs := #[.int .i64 0, .int .i64 0, .int .i64 0, .int .i64 0, .bool false]) (t := 40) ?hr ?_; (case hd => rfl); (case hg => rfl); (case hr => first | (go_simp; done) | (go_simp; rfl)); intro gx hg_X w9 hbox_ hb_; have n0_ := Aside0.mk (below_step HB0.out hb_); have BX := Aside0.mk hbox_; have GX := Aside0.mk (show wr.heap.size ≤ gx by rw [hg_X]; exact below_size HB0.out); have EX := Aside0.mk hg_X; have hcX0 : w9.cell? ⟨gx, 0, none⟩ = some (.int .i64 0) := (blk_cell hbox_ 0).trans rfl; have hfX0 := blk_frozen hbox_ 0; have hcX1 : w9.cell? ⟨gx, 1, none⟩ = some (.int .i64 0) := (blk_cell hbox_ 1).trans rfl; have hfX1 := blk_frozen hbox_ 1; have hcX2 : w9.cell? ⟨gx, 2, none⟩ = some (.int .i64 0) := (blk_cell hbox_ 2).trans rfl; have hfX2 := blk_frozen hbox_ 2; have hcX3 : w9.cell? ⟨gx, 3, none⟩ = some (.int .i64 0) := (blk_cell hbox_ 3).trans rfl; have hfX3 := blk_frozen hbox_ 3; have hcX4 : w9.cell? ⟨gx, 4, none⟩ = some (.bool false) := (blk_cell hbox_ 4).trans rfl; have hfX4 := blk_frozen hbox_ 4; clear HB0 hg_X hbox_ hb_; have HB0 := n0_; clear n0_))
  obtain ⟨w10, hw10⟩ : ∃ w10, w10 = ((((w9.setCell ⟨gx, 0, none⟩ (.int .i64 h)).setCell ⟨gx, 1, none⟩ (.int .i64 c)).setCell ⟨gx, 2, none⟩ (.int .i64 lo)).setCell ⟨gx, 3, none⟩ (.int .i64 hi_)).setCell ⟨gx, 4, none⟩ (.bool (hi_ == lo)) := ⟨_, rfl⟩
  rw [← hw10]
  have BX10 := Aside0.mk (show w10.heap[gx]? = some (.cells #[.int .i64 h, .int .i64 c, .int .i64 lo, .int .i64 hi_, .bool (hi_ == lo)] 40 (0, 0)) by rw [hw10]; exact blk_put (blk_put (blk_put (blk_put (blk_put BX.out 0 _ rfl) 1 _ rfl) 2 _ rfl) 3 _ rfl) 4 _ rfl)
  have HB10 := Aside0.mk (show Below wr.heap.size wr w10 by rw [hw10]; exact below_set (below_set (below_put3 HB0.out GX.out _ _ _) GX.out) GX.out)
  clear hw10 BX HB0 hcX0 hcX1 hcX2 hcX3 hcX4 hfX0 hfX1 hfX2 hfX3 hfX4 hx0 hx1 hx2 hx3 hx4
  have hcx2 : w10.cell? ⟨gx, 2, none⟩ = some (.int .i64 lo) := (blk_cell BX10.out 2).trans rfl
  have hcx3 : w10.cell? ⟨gx, 3, none⟩ = some (.int .i64 hi_) := (blk_cell BX10.out 3).trans rfl
  have HB00 := Aside0.mk (Below.refl w10.heap.size w10)
  go_upto_region 6 with (first | ((with_reducible refine gate_dst (N := 6) rfl ?_); refine box_event ?hg (N := 6) ?hd (cs := #[.int .i64 0, .int .i64 0]) (t := 38) ?hr ?_; (case hd => rfl); (case hg => rfl); (case hr => first | (go_simp; done) | (go_simp; rfl)); intro gb hg_B w11 hbox_ hb_; have n0_ := Aside0.mk (below_step HB00.out hb_); have BB := Aside0.mk hbox_; have GB := Aside0.mk (show w10.heap.size ≤ gb by rw [hg_B]; exact below_size HB00.out); have EB := Aside0.mk hg_B; have hcB0 : w11.cell? ⟨gb, 0, none⟩ = some (.int .i64 0) := (blk_cell hbox_ 0).trans rfl; have hfB0 := blk_frozen hbox_ 0; have hcB1 : w11.cell? ⟨gb, 1, none⟩ = some (.int .i64 0) := (blk_cell hbox_ 1).trans rfl; have hfB1 := blk_frozen hbox_ 1; clear HB00 hg_B hbox_ hb_; have HB00 := n0_; clear n0_))
  obtain ⟨w12, hw12⟩ : ∃ w12, w12 = (w11.setCell ⟨gb, 0, none⟩ (.int .i64 lo)).setCell ⟨gb, 1, none⟩ (.int .i64 hi_) := ⟨_, rfl⟩
  rw [← hw12]
  have BB12 := Aside0.mk (show w12.heap[gb]? = some (.cells #[.int .i64 lo, .int .i64 hi_] 38 (0, 0)) by rw [hw12]; exact blk_put2 BB.out _ _)
  have HB12 := Aside0.mk (show Below w10.heap.size w10 w12 by rw [hw12]; exact below_put2 HB00.out GB.out _ _)
  clear hw12 BB HB00 hcB0 hcB1 hfB0 hfB1 hcx2 hcx3
  have BX12 := Aside0.mk (blk_below BX10.out HB12.out)
  have HM12 := Aside0.mk ((HM.out.below HB10.out).below HB12.out)
  have HBA := Aside0.mk (below_step (below_step HB.out HB10.out) HB12.out)
  have HB12d := Aside0.mk (below_drew (Below.refl w12.heap.size w12))
  clear HB10 HB12 BX10 HM HB
  refine start_ (n := 49) (S := fun w' => w'.cell? ⟨gx, 0, none⟩ = some (.int .i64 h) ∧ w'.cell? ⟨gx, 1, none⟩ = some (.int .i64 c) ∧ w'.cell? ⟨gx, 4, none⟩ = some (.bool (hi_ == lo)) ∧ w'.cell? ⟨gb, 0, none⟩ = some (.int .i64 lo) ∧ w'.cell? ⟨gb, 1, none⟩ = some (.int .i64 hi_) ∧ (Instr.lookup 77 (.map (some gm)) (.int .i64 h) false).run Try.prog w' = .ok (.bool false) w') (ds := []) #[n_, n_, n_, n_, n_, n_, n_, n_, n_, n_, n_, n_, n_, n_, n_, n_, n_, n_, n_, n_, n_, n_, n_, n_, n_, n_, n_, n_, n_, n_, n_, n_, n_, n_, n_, n_, n_, n_, n_, n_, n_, n_, n_, n_, n_, n_, n_, n_, n_] (by kernel_rfl) rfl rfl ⟨(blk_cell (show w12.drew.heap[gx]? = _ from BX12.out) 0).trans rfl, (blk_cell (show w12.drew.heap[gx]? = _ from BX12.out) 1).trans rfl, (blk_cell (show w12.drew.heap[gx]? = _ from BX12.out) 4).trans rfl, (blk_cell (show w12.drew.heap[gb]? = _ from BB12.out) 0).trans rfl, (blk_cell (show w12.drew.heap[gb]? = _ from BB12.out) 1).trans rfl, look_no HM12.out.drew HNO.out⟩ (fun hHeld => ?_)
  refine pv_ 0 16 (w_ 49 1) rfl ?_
  refine tb_ 1 17 (w_ 49 3) rfl hHeld (by rintro w' ⟨s0, s1, s2, s3, s4, s5⟩; go_simp; with_reducible rfl) ?_
  refine pv_ 2 18 (w_ 49 7) rfl ?_
  refine pv_ 3 19 (w_ 49 15) rfl ?_
  refine pv_ 4 20 (w_ 49 31) rfl ?_
  refine tb_ 5 21 (w_ 49 63) rfl hHeld (by rintro w' ⟨s0, s1, s2, s3, s4, s5⟩; go_simp; with_reducible rfl) ?_
  refine pv_ 6 22 (w_ 49 127) rfl ?_
  refine pv_ 7 23 (w_ 49 255) rfl ?_
  refine pv_ 8 24 (w_ 49 511) rfl ?_
  refine pv_ 9 25 (w_ 49 1023) rfl ?_
  refine pv_ 10 26 (w_ 49 2047) rfl ?_
  refine tb_ 11 27 (w_ 49 4095) rfl hHeld (by rintro w' ⟨s0, s1, s2, s3, s4, s5⟩; go_simp; with_reducible rfl) ?_
  refine tb_ 12 28 (w_ 49 8191) rfl hHeld (by rintro w' ⟨s0, s1, s2, s3, s4, s5⟩; go_simp; with_reducible rfl) ?_
  refine pv_ 13 29 (w_ 49 16383) rfl ?_
  refine pv_ 14 30 (w_ 49 32767) rfl ?_
  refine pv_ 15 31 (w_ 49 65535) rfl ?_
  refine pv_ 17 33 (w_ 49 196607) rfl ?_
  refine tb_ 16 32 (w_ 49 262143) rfl hHeld (by rintro w' ⟨s0, s1, s2, s3, s4, s5⟩; go_simp; with_reducible rfl) ?_
  refine tb_ 18 34 (w_ 49 524287) rfl hHeld (by rintro w' ⟨s0, s1, s2, s3, s4, s5⟩; go_simp; with_reducible rfl) ?_
  refine one_ (i := 19) (N := some 35) (w_ 49 1048575) rfl rfl (by kernel_rfl) (by decide) (fun K hK => ?_)
  refine Kd.R_lit_step (Kd.int .i64) (w0 := w12.drew) _ 3 ?hw (N := 35) ?hd (xs := [lo, hi_]) (inner := [.int .i64 lo, .int .i64 hi_]) (ok := fun _ => True) (okp := fun _ => True) ?hr ?hp (fun _ hk => hk) trivial (Below.refl _ _) (Nat.le_refl _) (by simp) ?_
  (case hw => rfl)
  (case hd => rfl)
  (case hr => first | (go_simp; done) | (go_simp; rfl))
  (case hp => exact (Reps.one (show Kd.M (Kd.int .i64) _ _ _ lo [.int .i64 lo] from rfl) (Reps.one (show Kd.M (Kd.int .i64) _ _ _ hi_ [.int .i64 hi_] from rfl) (Reps.none _ _))))
  intro v35 w13 ho_ hb_ hg_ hnew_
  obtain ⟨A35, c35, rfl⟩ := Kd.R_slice ho_
  have HO13 := Aside0.mk ho_
  have BX13 := Aside0.mk (blk_below (show w12.drew.heap[gx]? = _ from BX12.out) hb_)
  have BB13 := Aside0.mk (blk_below (show w12.drew.heap[gb]? = _ from BB12.out) hb_)
  have HM13 := Aside0.mk (HM12.out.drew.below hb_)
  have HB13 := Aside0.mk (below_step HB12d.out hb_)
  clear ho_ hb_ hg_ hnew_
  refine hK.out _ _ ⟨(blk_cell BX13.out 0).trans rfl, (blk_cell BX13.out 1).trans rfl, (blk_cell BX13.out 4).trans rfl, (blk_cell BB13.out 0).trans rfl, (blk_cell BB13.out 1).trans rfl, look_no HM13.out HNO.out⟩ (fun hHeld => ?_)
  clear hK K
  refine norm_ (a' := ?_) ?_ ?_
  rotate_left
  ·show Act.put _ (some 35) _ = _
   simp only [Act.put, sI_, s0_, sS_, i64_w, i32_w]
   rfl
  refine one_ (i := 20) (N := some 36) (w_ 49 2097151) rfl rfl (by kernel_rfl) (by decide) (fun K hK => ?_)
  refine goes_ Try.func70 (by kernel_rfl) rfl #[.slice A35 [lo, hi_].length c35] (by rfl) rfl rfl (by simp only [List.map_toArray, List.map_cons, List.map_nil]; rfl) ?_
  with_reducible refine (isAmount_calls A35 c35 [lo, hi_] _ (Kd.R_reads' HO13.out).2.2 (by simp) HAMT.out).mono ?_
  rintro e w14 ⟨rfl, hb_⟩
  refine ⟨_, rfl, ?_⟩
  have BX14 := Aside0.mk (blk_below BX13.out hb_)
  have BB14 := Aside0.mk (blk_below BB13.out hb_)
  have HM14 := Aside0.mk (HM13.out.below hb_)
  have HB14 := Aside0.mk (below_step HB13.out hb_)
  have hcx0 : w14.cell? ⟨gx, 0, none⟩ = some (.int .i64 h) := (blk_cell BX14.out 0).trans rfl
  clear hb_
  refine hK.out _ _ ⟨(blk_cell BX14.out 0).trans rfl, (blk_cell BX14.out 1).trans rfl, (blk_cell BX14.out 4).trans rfl, (blk_cell BB14.out 0).trans rfl, (blk_cell BB14.out 1).trans rfl, look_no HM14.out HNO.out⟩ (fun hHeld => ?_)
  clear hK K
  refine norm_ (a' := ?_) ?_ ?_
  rotate_left
  ·show Act.put _ (some 36) _ = _
   simp only [Act.put, sI_, s0_, sS_, i64_w, i32_w]
   rfl
  refine pv_ 21 37 (w_ 49 4194303) rfl ?_
  refine pv_ 22 38 (w_ 49 8388607) rfl ?_
  refine pv_ 23 39 (w_ 49 16777215) rfl ?_
  refine pv_ 24 40 (w_ 49 33554431) rfl ?_
  refine pv_ 26 42 (w_ 49 100663295) rfl ?_
  refine tb_ 25 41 (w_ 49 134217727) rfl hHeld (by rintro w' ⟨s0, s1, s2, s3, s4, s5⟩; go_simp; with_reducible rfl) ?_
  refine tb_ 27 43 (w_ 49 268435455) rfl hHeld (by rintro w' ⟨s0, s1, s2, s3, s4, s5⟩; go_simp; with_reducible rfl) ?_
  refine pv_ 28 44 (w_ 49 536870911) rfl ?_
  refine pv_ 29 45 (w_ 49 1073741823) rfl ?_
  refine pv_ 30 46 (w_ 49 2147483647) rfl ?_
  refine pv_ 31 47 (w_ 49 4294967295) rfl ?_
  refine pv_ 33 49 (w_ 49 12884901887) rfl ?_
  refine tb_ 32 48 (w_ 49 17179869183) rfl hHeld (by rintro w' ⟨s0, s1, s2, s3, s4, s5⟩; go_simp; with_reducible rfl) ?_
  refine tb_ 34 50 (w_ 49 34359738367) rfl hHeld (by rintro w' ⟨s0, s1, s2, s3, s4, s5⟩; go_simp; with_reducible rfl) ?_
  refine pv_ 35 51 (w_ 49 68719476735) rfl ?_
  refine pv_ 36 52 (w_ 49 137438953471) rfl ?_
  refine pv_ 37 53 (w_ 49 274877906943) rfl ?_
  refine pv_ 38 54 (w_ 49 549755813887) rfl ?_
  refine pv_ 41 57 (w_ 49 2748779069439) rfl ?_
  refine pv_ 43 59 (w_ 49 11544872091647) rfl ?_
  refine tb_ 39 55 (w_ 49 12094627905535) rfl hHeld (by rintro w' ⟨s0, s1, s2, s3, s4, s5⟩; go_simp; with_reducible rfl) ?_
  refine tb_ 40 56 (w_ 49 13194139533311) rfl hHeld (by rintro w' ⟨s0, s1, s2, s3, s4, s5⟩; go_simp; with_reducible rfl) ?_
  refine tb_ 42 58 (w_ 49 17592186044415) rfl hHeld (by rintro w' ⟨s0, s1, s2, s3, s4, s5⟩; go_simp; with_reducible rfl) ?_
  refine tb_ 44 60 (w_ 49 35184372088831) rfl hHeld (by rintro w' ⟨s0, s1, s2, s3, s4, s5⟩; go_simp; with_reducible rfl) ?_
  refine pv_ 45 61 (w_ 49 70368744177663) rfl ?_
  refine pv_ 46 62 (w_ 49 140737488355327) rfl ?_
  refine pv_ 47 63 (w_ 49 281474976710655) rfl ?_
  refine pv_ 48 64 (w_ 49 562949953421311) rfl ?_
  refine done_ (by kernel_rfl) ?_
  go_wp2_with (first | ((with_reducible refine gate_ (op := .mapUpdate 77 (.tmp 65) (.tmp 67) (.const (.bool true))) rfl ?_); refine wpList_storeI _ rfl (.tmp 65) (.tmp 67) (.const (.bool true)) 77 rfl 3 4 Try.underlying77 Try.underlying3 gm (mapVB (seenB l0 n)) rfl HM14.out h rfl (.bool true) rfl ?_; intro w15 hm_ hg_; have HM15 := Aside0.mk (hm_.eq (mapVB_set _ _)); have HG15 := Aside0.mk hg_; clear hm_ hg_))
  go_roundg (gk - 1)
  case measure => have := HK.out; have := HI2.out; omega
  case rel =>
   refine ⟨n + 1, ?_, ⟨by have := HK.out; have := HI2.out; omega⟩, ⟨?_⟩, ⟨?_⟩⟩
   ·have := HI2.out
    first | (rw [show ((n + 1 : Nat) : Int) = i + 1 from by omega]; done) | (simp; omega)
   ·rw [← HS1.out]
    exact HM15.out
   ·exact grown_below (below_step HBA.out HB14.out) HG15.out (fun k e => by cases e; exact GM.out)
end
section
open Go.Proofs.YthjjabcbngffoaaH
def sameHB (a b : List S40) : Bool := decide (a.length = b.length) && (List.range a.length).all (fun j => (rd_T40 a j).f0 == (rd_T40 b j).f0)
theorem sameHB_at {a b : List S40} (h : sameHB a b = true) : a.length = b.length ∧ ∀ j : Nat, j < a.length → ((rd_T40 a j).f0 == (rd_T40 b j).f0) = true := by
 unfold sameHB at h
 rw [Bool.and_eq_true, decide_eq_true_eq, List.all_eq_true] at h
 exact ⟨h.1, fun j hj => h.2 j (List.mem_range.2 hj)⟩
theorem other_calls (x y : S40) (w : World) (h : (x.f0 == y.f0) = true) :
  Calls Try.prog 83 #[.agg #[.int .i64 x.f0, .int .i64 x.f1, .int .i64 x.f2.f0, .int .i64 x.f2.f1, .bool x.f3], .agg #[.int .i64 y.f0, .int .i64 y.f1, .int .i64 y.f2.f0, .int .i64 y.f2.f1, .bool y.f3]] w fun e w' => e = .returned (.bool true) ∧ Below w.heap.size w w' := by
 have hu38 := Try.underlying38
 have hu40 := Try.underlying40
 have HB := Aside0.mk (Below.refl w.heap.size w)
 go_enter Try.func83, Try.ntmps83
 go_wp2_with (first | ((with_reducible refine gate_dst (N := 2) rfl ?_); refine box_event ?hg (N := 2) ?hd (cs := #[.int .i64 x.f0, .int .i64 x.f1, .int .i64 x.f2.f0, .int .i64 x.f2.f1, .bool x.f3]) (t := 40) ?hr ?_; (case hd => rfl); (case hg => rfl); (case hr => first | (go_simp; done) | (go_simp; rfl)); intro g1 hg_X w1 hbox_ hb_; have n0_ := Aside0.mk (below_step HB.out hb_); have BX := Aside0.mk hbox_; have GX := Aside0.mk (show w.heap.size ≤ g1 by rw [hg_X]; exact below_size HB.out); have EX := Aside0.mk hg_X; have hcX0 : w1.cell? ⟨g1, 0, none⟩ = some (.int .i64 x.f0) := (blk_cell hbox_ 0).trans rfl; have hfX0 := blk_frozen hbox_ 0; have hcX1 : w1.cell? ⟨g1, 1, none⟩ = some (.int .i64 x.f1) := (blk_cell hbox_ 1).trans rfl; have hfX1 := blk_frozen hbox_ 1; have hcX2 : w1.cell? ⟨g1, 2, none⟩ = some (.int .i64 x.f2.f0) := (blk_cell hbox_ 2).trans rfl; have hfX2 := blk_frozen hbox_ 2; have hcX3 : w1.cell? ⟨g1, 3, none⟩ = some (.int .i64 x.f2.f1) := (blk_cell hbox_ 3).trans rfl; have hfX3 := blk_frozen hbox_ 3; have hcX4 : w1.cell? ⟨g1, 4, none⟩ = some (.bool x.f3) := (blk_cell hbox_ 4).trans rfl; have hfX4 := blk_frozen hbox_ 4; clear HB hg_X hbox_ hb_; have HB := n0_; clear n0_) | ((with_reducible refine gate_dst (N := 3) rfl ?_); refine box_event ?hg (N := 3) ?hd (cs := #[.int .i64 y.f0, .int .i64 y.f1, .int .i64 y.f2.f0, .int .i64 y.f2.f1, .bool y.f3]) (t := 40) ?hr ?_; (case hd => rfl); (case hg => rfl); (case hr => first | (go_simp; done) | (go_simp; rfl)); intro g2 hg_Y w2 hbox_ hb_; have n0_ := Aside0.mk (below_step HB.out hb_); have BY := Aside0.mk hbox_; have GY := Aside0.mk (show w.heap.size ≤ g2 by rw [hg_Y]; exact below_size HB.out); have EY := Aside0.mk hg_Y; have hcY0 : w2.cell? ⟨g2, 0, none⟩ = some (.int .i64 y.f0) := (blk_cell hbox_ 0).trans rfl; have hfY0 := blk_frozen hbox_ 0; have hcY1 : w2.cell? ⟨g2, 1, none⟩ = some (.int .i64 y.f1) := (blk_cell hbox_ 1).trans rfl; have hfY1 := blk_frozen hbox_ 1; have hcY2 : w2.cell? ⟨g2, 2, none⟩ = some (.int .i64 y.f2.f0) := (blk_cell hbox_ 2).trans rfl; have hfY2 := blk_frozen hbox_ 2; have hcY3 : w2.cell? ⟨g2, 3, none⟩ = some (.int .i64 y.f2.f1) := (blk_cell hbox_ 3).trans rfl; have hfY3 := blk_frozen hbox_ 3; have hcY4 : w2.cell? ⟨g2, 4, none⟩ = some (.bool y.f3) := (blk_cell hbox_ 4).trans rfl; have hfY4 := blk_frozen hbox_ 4; replace hcX0 := (hb_.cell (World.block_lt_of_cell? _ _ hcX0)).trans hcX0; replace hcX1 := (hb_.cell (World.block_lt_of_cell? _ _ hcX1)).trans hcX1; replace hcX2 := (hb_.cell (World.block_lt_of_cell? _ _ hcX2)).trans hcX2; replace hcX3 := (hb_.cell (World.block_lt_of_cell? _ _ hcX3)).trans hcX3; replace hcX4 := (hb_.cell (World.block_lt_of_cell? _ _ hcX4)).trans hcX4; clear HB hg_Y hbox_ hb_; have HB := n0_; clear n0_))
 go_ret
 exact ⟨rfl, HB.out⟩
set_option maxHeartbeats 16000000 in
theorem equal_calls (A0 A1 : Option Addr) (c0 c1 : Nat) (l0 l1 : List (S40)) (w : World) (hr0 : Kd.C k40 w A0 l0.length l0) (hr1 : Kd.C k40 w A1 l1.length l1) (h64 : l0.length ≤ 64) (hs : sameHB l0 l1 = true) :
  Calls Try.prog 85 #[.slice A0 l0.length c0, .slice A1 l1.length c1, .func (.func 83) #[] #[]] w fun e w' => e = .returned (.bool true) ∧ Below w.heap.size w w' := by
 have hu38 := Try.underlying38
 have hu40 := Try.underlying40
 obtain ⟨hl, hs⟩ := sameHB_at hs
 rw [← hl] at hr1 ⊢
 have HR0 := Aside0.mk hr0
 have HR1 := Aside0.mk hr1
 have HS := Aside0.mk hs
 have H64 := Aside0.mk h64
 clear hr0 hr1 hl hs h64
 have HBW := Aside0.mk (Below.refl w.heap.size w)
 go_enter Try.func85, Try.ntmps85
 go_wp2
 go_loopg [17] l0.length (fun kq v17 wr => ∃ n : Nat, v17 = .int .i64 n ∧ Aside0 (kq + n = l0.length) ∧ Aside0 (Below w.heap.size w wr))
 case atStart => exact ⟨0, rfl, ⟨by omega⟩, HBW⟩
 case round =>
  clear HBW
  obtain ⟨n, rfl, HK, HB⟩ := hrel
  by_cases hlt : n < l0.length
  case neg =>
   have d7 : decide ((n : Int) < (l0.length : Int)) = false := decide_eq_false (by omega)
   have d7' : decide (n < l0.length) = false := decide_eq_false hlt
   clear hlt
   go_wp2
   go_ret
   exact ⟨rfl, HB.out⟩
  obtain ⟨i, hi⟩ : ∃ i : Int, i = (n : Int) := ⟨_, rfl⟩
  rw [← hi]
  have HI2 := Aside0.mk (show 0 ≤ i ∧ i < l0.length ∧ i = (n : Int) from ⟨by omega, by omega, hi⟩)
  have d7 : decide (i < (l0.length : Int)) = true := decide_eq_true HI2.out.2.1
  have ci2 : (0 ≤ i) = True := eq_true HI2.out.1
  have ci3 : (i < l0.length) = True := eq_true HI2.out.2.1
  obtain ⟨adp, ep, hx0, hx1, hx2, hx3, hx4⟩ := at_T40 (Kd.C_below HR0.out HB.out) i HI2.out.1 HI2.out.2.1
  subst ep
  obtain ⟨adq, eq_, hy0, hy1, hy2, hy3, hy4⟩ := at_T40 (Kd.C_below HR1.out HB.out) i HI2.out.1 HI2.out.2.1
  subst eq_
  have hs1 := HS.out n hlt
  rw [← hi] at hs1
  obtain ⟨x, hx⟩ : ∃ x, x = rd_T40 l0 i := ⟨_, rfl⟩
  obtain ⟨y, hy⟩ : ∃ y, y = rd_T40 l1 i := ⟨_, rfl⟩
  rw [← hx] at hx0 hx1 hx2 hx3 hx4 hs1
  rw [← hy] at hy0 hy1 hy2 hy3 hy4 hs1
  have HSX := Aside0.mk hs1
  have hz1 : i + 1 ≤ 9223372036854775807 := by have := HI2.out; have := H64.out; omega
  have hz2 : -9223372036854775808 ≤ i + 1 := by have := HI2.out; omega
  clear hi hlt hx hy hs1
  have HB0 := Aside0.mk (Below.refl wr.heap.size wr)
  go_upto_region 6 with (first | ((with_reducible refine gate_dst (N := 8) rfl ?_); refine box_event ?hg (N := 8) ?hd (cs := #[.int .i64 0, .int .i64 0, .int .i64 0, .int .i64 0, .bool false]) (t := 40) ?hr ?_; (case hd => rfl); (case hg => rfl); (case hr => first | (go_simp; done) | (go_simp; rfl)); intro gx hg_X w9 hbox_ hb_; have n0_ := Aside0.mk (below_step HB0.out hb_); have BX := Aside0.mk hbox_; have GX := Aside0.mk (show wr.heap.size ≤ gx by rw [hg_X]; exact below_size HB0.out); have EX := Aside0.mk hg_X; have hcX0 : w9.cell? ⟨gx, 0, none⟩ = some (.int .i64 0) := (blk_cell hbox_ 0).trans rfl; have hfX0 := blk_frozen hbox_ 0; have hcX1 : w9.cell? ⟨gx, 1, none⟩ = some (.int .i64 0) := (blk_cell hbox_ 1).trans rfl; have hfX1 := blk_frozen hbox_ 1; have hcX2 : w9.cell? ⟨gx, 2, none⟩ = some (.int .i64 0) := (blk_cell hbox_ 2).trans rfl; have hfX2 := blk_frozen hbox_ 2; have hcX3 : w9.cell? ⟨gx, 3, none⟩ = some (.int .i64 0) := (blk_cell hbox_ 3).trans rfl; have hfX3 := blk_frozen hbox_ 3; have hcX4 : w9.cell? ⟨gx, 4, none⟩ = some (.bool false) := (blk_cell hbox_ 4).trans rfl; have hfX4 := blk_frozen hbox_ 4; clear HB0 hg_X hbox_ hb_; have HB0 := n0_; clear n0_))
  obtain ⟨w10, hw10⟩ : ∃ w10, w10 = ((((w9.setCell ⟨gx, 0, none⟩ (.int .i64 x.f0)).setCell ⟨gx, 1, none⟩ (.int .i64 x.f1)).setCell ⟨gx, 2, none⟩ (.int .i64 x.f2.f0)).setCell ⟨gx, 3, none⟩ (.int .i64 x.f2.f1)).setCell ⟨gx, 4, none⟩ (.bool x.f3) := ⟨_, rfl⟩
  rw [← hw10]
  have BX10 := Aside0.mk (show w10.heap[gx]? = some (.cells #[.int .i64 x.f0, .int .i64 x.f1, .int .i64 x.f2.f0, .int .i64 x.f2.f1, .bool x.f3] 40 (0, 0)) by rw [hw10]; exact blk_put (blk_put (blk_put (blk_put (blk_put BX.out 0 _ rfl) 1 _ rfl) 2 _ rfl) 3 _ rfl) 4 _ rfl)
  have HB10 := Aside0.mk (show Below wr.heap.size wr w10 by rw [hw10]; exact below_set (below_set (below_put3 HB0.out GX.out _ _ _) GX.out) GX.out)
  clear hw10 BX HB0 hcX0 hcX1 hcX2 hcX3 hcX4 hfX0 hfX1 hfX2 hfX3 hfX4 hx0 hx1 hx2 hx3 hx4
  replace hy0 := (HB10.out.cell (World.block_lt_of_cell? _ _ hy0)).trans hy0
  replace hy1 := (HB10.out.cell (World.block_lt_of_cell? _ _ hy1)).trans hy1
  replace hy2 := (HB10.out.cell (World.block_lt_of_cell? _ _ hy2)).trans hy2
  replace hy3 := (HB10.out.cell (World.block_lt_of_cell? _ _ hy3)).trans hy3
  replace hy4 := (HB10.out.cell (World.block_lt_of_cell? _ _ hy4)).trans hy4
  have HB00 := Aside0.mk (Below.refl w10.heap.size w10)
  go_upto_region 7 with (first | ((with_reducible refine gate_dst (N := 9) rfl ?_); refine box_event ?hg (N := 9) ?hd (cs := #[.int .i64 0, .int .i64 0, .int .i64 0, .int .i64 0, .bool false]) (t := 40) ?hr ?_; (case hd => rfl); (case hg => rfl); (case hr => first | (go_simp; done) | (go_simp; rfl)); intro gy hg_Y w11 hbox_ hb_; have n0_ := Aside0.mk (below_step HB00.out hb_); have BY := Aside0.mk hbox_; have GY := Aside0.mk (show w10.heap.size ≤ gy by rw [hg_Y]; exact below_size HB00.out); have EY := Aside0.mk hg_Y; have hcY0 : w11.cell? ⟨gy, 0, none⟩ = some (.int .i64 0) := (blk_cell hbox_ 0).trans rfl; have hfY0 := blk_frozen hbox_ 0; have hcY1 : w11.cell? ⟨gy, 1, none⟩ = some (.int .i64 0) := (blk_cell hbox_ 1).trans rfl; have hfY1 := blk_frozen hbox_ 1; have hcY2 : w11.cell? ⟨gy, 2, none⟩ = some (.int .i64 0) := (blk_cell hbox_ 2).trans rfl; have hfY2 := blk_frozen hbox_ 2; have hcY3 : w11.cell? ⟨gy, 3, none⟩ = some (.int .i64 0) := (blk_cell hbox_ 3).trans rfl; have hfY3 := blk_frozen hbox_ 3; have hcY4 : w11.cell? ⟨gy, 4, none⟩ = some (.bool false) := (blk_cell hbox_ 4).trans rfl; have hfY4 := blk_frozen hbox_ 4; clear HB00 hg_Y hbox_ hb_; have HB00 := n0_; clear n0_))
  obtain ⟨w12, hw12⟩ : ∃ w12, w12 = ((((w11.setCell ⟨gy, 0, none⟩ (.int .i64 y.f0)).setCell ⟨gy, 1, none⟩ (.int .i64 y.f1)).setCell ⟨gy, 2, none⟩ (.int .i64 y.f2.f0)).setCell ⟨gy, 3, none⟩ (.int .i64 y.f2.f1)).setCell ⟨gy, 4, none⟩ (.bool y.f3) := ⟨_, rfl⟩
  rw [← hw12]
  have BY12 := Aside0.mk (show w12.heap[gy]? = some (.cells #[.int .i64 y.f0, .int .i64 y.f1, .int .i64 y.f2.f0, .int .i64 y.f2.f1, .bool y.f3] 40 (0, 0)) by rw [hw12]; exact blk_put (blk_put (blk_put (blk_put (blk_put BY.out 0 _ rfl) 1 _ rfl) 2 _ rfl) 3 _ rfl) 4 _ rfl)
  have HB12 := Aside0.mk (show Below w10.heap.size w10 w12 by rw [hw12]; exact below_set (below_set (below_put3 HB00.out GY.out _ _ _) GY.out) GY.out)
  have BX12 := Aside0.mk (blk_below BX10.out HB12.out)
  have HBA := Aside0.mk (below_step (below_step HB.out HB10.out) HB12.out)
  clear hw12 BY HB00 hcY0 hcY1 hcY2 hcY3 hcY4 hfY0 hfY1 hfY2 hfY3 hfY4 hy0 hy1 hy2 hy3 hy4 HB12 HB10 BX10 HB
  have hx0 : w12.cell? ⟨gx, 0, none⟩ = some (.int .i64 x.f0) := (blk_cell BX12.out 0).trans rfl
  have hx1 : w12.cell? ⟨gx, 1, none⟩ = some (.int .i64 x.f1) := (blk_cell BX12.out 1).trans rfl
  have hx2 : w12.cell? ⟨gx, 2, none⟩ = some (.int .i64 x.f2.f0) := (blk_cell BX12.out 2).trans rfl
  have hx3 : w12.cell? ⟨gx, 3, none⟩ = some (.int .i64 x.f2.f1) := (blk_cell BX12.out 3).trans rfl
  have hx4 : w12.cell? ⟨gx, 4, none⟩ = some (.bool x.f3) := (blk_cell BX12.out 4).trans rfl
  have hy0 : w12.cell? ⟨gy, 0, none⟩ = some (.int .i64 y.f0) := (blk_cell BY12.out 0).trans rfl
  have hy1 : w12.cell? ⟨gy, 1, none⟩ = some (.int .i64 y.f1) := (blk_cell BY12.out 1).trans rfl
  have hy2 : w12.cell? ⟨gy, 2, none⟩ = some (.int .i64 y.f2.f0) := (blk_cell BY12.out 2).trans rfl
  have hy3 : w12.cell? ⟨gy, 3, none⟩ = some (.int .i64 y.f2.f1) := (blk_cell BY12.out 3).trans rfl
  have hy4 : w12.cell? ⟨gy, 4, none⟩ = some (.bool y.f3) := (blk_cell BY12.out 4).trans rfl
  go_wp2_with (first | ((with_reducible refine (other_calls x y _ HSX.out).mono ?_); rintro e w13 ⟨rfl, hb⟩; have HB13 := Aside0.mk hb; clear hb))
  go_roundg (gk - 1)
  case measure => have := HK.out; have := HI2.out; omega
  case rel =>
   refine ⟨n + 1, ?_, ⟨by have := HK.out; have := HI2.out; omega⟩, ⟨below_step HBA.out HB13.out⟩⟩
   have := HI2.out
   first | (rw [show ((n + 1 : Nat) : Int) = i + 1 from by omega]; done) | (simp; omega)
def pairB (a b : List S40) : Bool := chgsB a && (chgsB b && sameHB a b)
theorem pairB_at {a b : List S40} (h : pairB a b = true) : chgsB a = true ∧ chgsB b = true ∧ sameHB a b = true := by
 unfold pairB at h
 rw [Bool.and_eq_true, Bool.and_eq_true] at h
 exact h
set_option maxHeartbeats 16000000 in
theorem pairs_calls (A0 A1 : Option Addr) (c0 c1 : Nat) (l0 l1 : List (S40)) (w : World) (hr0 : Kd.C k40 w A0 l0.length l0) (hr1 : Kd.C k40 w A1 l1.length l1) (hp : pairB l0 l1 = true) :
  Calls Try.prog 69 #[.slice A0 l0.length c0, .slice A1 l1.length c1] w fun e w' => ∃ g1 g2 : Nat, e = .returned (.tuple #[.func (.func 86) #[] #[.pointer (some ⟨g1, 0, none⟩), .pointer (some ⟨g2, 0, none⟩)], .bool true]) ∧
   w'.heap[g1]? = some (.cells #[.slice A0 l0.length c0] 31 (0, 0)) ∧ w'.heap[g2]? = some (.cells #[.slice A1 l1.length c1] 31 (0, 0)) ∧ w.heap.size ≤ g1 ∧ w.heap.size ≤ g2 ∧ Below w.heap.size w w' := by
 obtain ⟨hp0, hp1, hp2⟩ := pairB_at hp
 have HR0 := Aside0.mk hr0
 have HR1 := Aside0.mk hr1
 have HP0 := Aside0.mk hp0
 have HP1 := Aside0.mk hp1
 have HP2 := Aside0.mk hp2
 have H64 := Aside0.mk (chgsB_at hp0).1
 clear hr0 hr1 hp hp0 hp1 hp2
 have HB := Aside0.mk (Below.refl w.heap.size w)
 go_enter Try.func69, Try.ntmps69
 go_wp2_with (first | ((with_reducible refine gate_dst (N := 2) rfl ?_); refine box_event ?hg (N := 2) ?hd (cs := #[.slice A0 l0.length c0]) (t := 31) ?hr ?_; (case hd => rfl); (case hg => rfl); (case hr => first | (go_simp; done) | (go_simp; rfl)); intro g1 hg_P w1 hbox_ hb_; have n0_ := Aside0.mk (below_step HB.out hb_); have BP := Aside0.mk hbox_; have GP := Aside0.mk (show w.heap.size ≤ g1 by rw [hg_P]; exact below_size HB.out); have EP := Aside0.mk hg_P; have hcP0 : w1.cell? ⟨g1, 0, none⟩ = some (.slice A0 l0.length c0) := (blk_cell hbox_ 0).trans rfl; have hfP0 := blk_frozen hbox_ 0; clear HB hg_P hbox_ hb_; have HB := n0_; clear n0_) | ((with_reducible refine gate_dst (N := 3) rfl ?_); refine box_event ?hg (N := 3) ?hd (cs := #[.slice A1 l1.length c1]) (t := 31) ?hr ?_; (case hd => rfl); (case hg => rfl); (case hr => first | (go_simp; done) | (go_simp; rfl)); intro g2 hg_Q w2 hbox_ hb_; have n0_ := Aside0.mk (below_step HB.out hb_); have BQ := Aside0.mk hbox_; have GQ := Aside0.mk (show w.heap.size ≤ g2 by rw [hg_Q]; exact below_size HB.out); have EQ := Aside0.mk hg_Q; have hcQ0 : w2.cell? ⟨g2, 0, none⟩ = some (.slice A1 l1.length c1) := (blk_cell hbox_ 0).trans rfl; have hfQ0 := blk_frozen hbox_ 0; replace hcP0 := (hb_.cell (World.block_lt_of_cell? _ _ hcP0)).trans hcP0; have BP := Aside0.mk (blk_below BP.out hb_); clear HB hg_Q hbox_ hb_; have HB := n0_; clear n0_) | (go_at_call 84; (with_reducible refine (chgs_calls A0 c0 l0 _ (Kd.C_below HR0.out HB.out) HP0.out).mono ?_); rintro e w3 ⟨rfl, hb_⟩; have n0_ := Aside0.mk (below_step HB.out hb_); have BP := Aside0.mk (blk_below BP.out hb_); have BQ := Aside0.mk (blk_below BQ.out hb_); replace hcP0 := (hb_.cell (World.block_lt_of_cell? _ _ hcP0)).trans hcP0; replace hcQ0 := (hb_.cell (World.block_lt_of_cell? _ _ hcQ0)).trans hcQ0; clear HB hb_; have HB := n0_; clear n0_) | (go_at_call 84; (with_reducible refine (chgs_calls A1 c1 l1 _ (Kd.C_below HR1.out HB.out) HP1.out).mono ?_); rintro e w4 ⟨rfl, hb_⟩; have n0_ := Aside0.mk (below_step HB.out hb_); have BP := Aside0.mk (blk_below BP.out hb_); have BQ := Aside0.mk (blk_below BQ.out hb_); replace hcP0 := (hb_.cell (World.block_lt_of_cell? _ _ hcP0)).trans hcP0; replace hcQ0 := (hb_.cell (World.block_lt_of_cell? _ _ hcQ0)).trans hcQ0; clear HB hb_; have HB := n0_; clear n0_) | (go_at_call 85; (with_reducible refine (equal_calls A0 A1 c0 c1 l0 l1 _ (Kd.C_below HR0.out HB.out) (Kd.C_below HR1.out HB.out) H64.out HP2.out).mono ?_); rintro e w5 ⟨rfl, hb_⟩; have n0_ := Aside0.mk (below_step HB.out hb_); have BP := Aside0.mk (blk_below BP.out hb_); have BQ := Aside0.mk (blk_below BQ.out hb_); replace hcP0 := (hb_.cell (World.block_lt_of_cell? _ _ hcP0)).trans hcP0; replace hcQ0 := (hb_.cell (World.block_lt_of_cell? _ _ hcQ0)).trans hcQ0; clear HB hb_; have HB := n0_; clear n0_))
 go_ret2
 exact ⟨g1, g2, rfl, BP.out, BQ.out, GP.out, GQ.out, HB.out⟩
end
section
open Go.Proofs.YthjjabcbngffoaaH
def Keep2 (n0 b c : Nat) (W W' : World) : Prop := Below n0 W W' ∧ W'.heap[b]? = W.heap[b]? ∧ W'.heap[c]? = W.heap[c]?
theorem keep2_t {n0 b c : Nat} {A B C : World} (h : Keep2 n0 b c A B) (k : Keep2 n0 b c B C) : Keep2 n0 b c A C := ⟨h.1.trans k.1, k.2.1.trans h.2.1, k.2.2.trans h.2.2⟩
theorem keep2_r (n0 b c : Nat) (W : World) : Keep2 n0 b c W W := ⟨Below.refl _ _, rfl, rfl⟩
theorem keep2_b {n0 b c : Nat} {w : World} (hn : n0 ≤ w.heap.size) (hb : b < w.heap.size) (hc : c < w.heap.size) (W : World) (l : Nat) (o o' : Obj) (hl : w.heap.size ≤ l) (h : W.heap[l]? = some o) (h1 : o.isCells = false) (h2 : o.isWalk = false) : Keep2 n0 b c W (W.putObj l o') :=
 ⟨belowK_b hn W l o o' hl h h1 h2, World.putObj_heap_other (by omega), World.putObj_heap_other (by omega)⟩
theorem keep2_below {n0 b c : Nat} {W W' : World} (hn : n0 ≤ W.heap.size) (hb : b < W.heap.size) (hc : c < W.heap.size) (h : Below W.heap.size W W') : Keep2 n0 b c W W' := ⟨h.mono hn, h.block b hb, h.block c hc⟩
def encP (p : S40 × S40) : Array Value := #[.agg #[.int .i64 p.1.f0, .int .i64 p.1.f1, .int .i64 p.1.f2.f0, .int .i64 p.1.f2.f1, .bool p.1.f3, .int .i64 p.2.f0, .int .i64 p.2.f1, .int .i64 p.2.f2.f0, .int .i64 p.2.f2.f1, .bool p.2.f3]]
theorem take_nextE {α : Type} {E : List α} {k : Nat} {x : α} (h : E[k]? = some x) : E.take k ++ [x] = E.take (k + 1) := by rw [List.take_add_one, h]; rfl
theorem two_ways {e : Ending} {A B : Prop} (h : (e = .returned (.bool true) ∧ A) ∨ (e = .returned (.bool false) ∧ B)) : ∃ b : Bool, e = .returned (.bool b) ∧ ((b = true ∧ A) ∨ (b = false ∧ B)) := by
 rcases h with ⟨h1, h2⟩ | ⟨h1, h2⟩
 ·exact ⟨true, h1, .inl ⟨rfl, h2⟩⟩
 ·exact ⟨false, h1, .inr ⟨rfl, h2⟩⟩
attribute [local go_sem] Oper.semAt_some
theorem pairs2_in {α : Type} (val : α → S40 × S40) (E : List α) (n : Nat) (hn : 1 ≤ n) (lr B1 B2 n0 : Nat) (A0 A1 : Option Addr) (c0 c1 : Nat) (l0 l1 : List S40) (hl : l1.length = l0.length) (h64 : l0.length ≤ 64) (hEl : E.length = l0.length)
  (hE : ∀ k x, E[k]? = some x → val x = (rd_T40 l0 (k : Nat), rd_T40 l1 (k : Nat))) (J Jx : List α → World → Prop) (hJ : ∀ pre W, J pre W → J pre W.drew)
  (hY : ∀ pre x W, J pre W → pre.length < l0.length + 1 → YieldAt Fence.wide (n - 1) Try.prog lr (encP (val x)) W fun e W' =>
   (e = .returned (.bool true) ∧ J (pre ++ [x]) W' ∧ Keep2 n0 B1 B2 W W') ∨ (e = .returned (.bool false) ∧ Jx (pre ++ [x]) W'))
  (W : World) (hB1 : W.heap[B1]? = some (.cells #[.slice A0 l0.length c0] 31 (0, 0))) (hB2 : W.heap[B2]? = some (.cells #[.slice A1 l1.length c1] 31 (0, 0)))
  (hC0 : ∀ W', Below n0 W W' → Kd.C k40 W' A0 l0.length l0) (hC1 : ∀ W', Below n0 W W' → Kd.C k40 W' A1 l1.length l1) (h0 : J [] W) :
  CallsIn Fence.wide n Try.prog 86 #[.func (.yield lr) #[] #[], .pointer (some ⟨B1, 0, none⟩), .pointer (some ⟨B2, 0, none⟩)] W fun e W' => (∃ v, e = .returned v) ∧
   ((∃ xs : List α, xs = E ∧ J xs W') ∨ (∃ pre, (∃ k, pre = E.take k) ∧ Jx pre W')) := by
 refine callsIn_of_wp Try.func86 rfl trivial ?_ rfl
 simp only [Try.ntmps86, List.size_toArray, List.length_cons, List.length_nil, Nat.reduceAdd, Nat.reduceSub, Array.replicate_succ, Array.replicate_zero, List.push_toArray, List.append_toArray, List.nil_append, List.cons_append]
 have hu38 := Try.underlying38
 have hu40 := Try.underlying40
 have hu125 := Try.underlying125
 rw [hl] at hC1 hB2
 have hc1 : W.cell? ⟨B1, 0, none⟩ = some (.slice A0 l0.length c0) := (blk_cell hB1 0).trans rfl
 have H64 := Aside0.mk h64
 have HC0 := Aside0.mk hC0
 have HC1 := Aside0.mk hC1
 have HJD := Aside0.mk hJ
 have HY := Aside0.mk hY
 have HB1 := Aside0.mk hB1
 have HB2 := Aside0.mk hB2
 have H0 := Aside0.mk h0
 have HE := Aside0.mk hE
 have HEL := Aside0.mk hEl
 clear h64 hC0 hC1 hJ hY hB1 hB2 h0 hE hEl hl
 gi_wp2
 gi_loopw [7] (fun i wr => ∃ (k : Nat), k ≤ l0.length ∧ i = .int .i64 (k : Int) ∧ Aside0 (J (E.take k) wr) ∧ Aside0 (Keep2 n0 B1 B2 W wr))
  (fun i _ => ((l0.length : Int) - intOf i).toNat)
 case atStart => exact ⟨0, Nat.zero_le _, rfl, H0, ⟨keep2_r _ _ _ _⟩⟩
 case round =>
  clear hc1 H0
  obtain ⟨k, hk, rfl, HJ, HK⟩ := hrel
  by_cases hlt : k < l0.length
  ·obtain ⟨i, hi⟩ : ∃ i : Int, i = (k : Int) := ⟨_, rfl⟩
   obtain ⟨x, hx⟩ : ∃ x, E[k]? = some x := ⟨E[k]'(by rw [HEL.out]; exact hlt), List.getElem?_eq_getElem _⟩
   have hv := HE.out k x hx
   rw [← hi] at hv ⊢
   have hi0 : 0 ≤ i := by omega
   have hi1 : i < l0.length := by omega
   have HEN := Aside0.mk (take_nextE hx)
   have HPL := Aside0.mk (show (E.take k).length < l0.length + 1 by rw [List.length_take]; omega)
   obtain ⟨fn, tmps, assign, body, hy, hR⟩ := HY.out _ x wr.drew (HJD.out _ _ HJ.out) HPL.out
   rw [hv] at hy
   simp only [encP] at hy
   have hc1 : wr.drew.cell? ⟨B1, 0, none⟩ = some (.slice A0 l0.length c0) := (blk_cell (show wr.drew.heap[B1]? = _ from HK.out.2.1.trans HB1.out) 0).trans rfl
   have hc2 : wr.drew.cell? ⟨B2, 0, none⟩ = some (.slice A1 l0.length c1) := (blk_cell (show wr.drew.heap[B2]? = _ from HK.out.2.2.trans HB2.out) 0).trans rfl
   obtain ⟨adp, ep, hx0, hx1, hx2, hx3, hx4⟩ := at_T40 (HC0.out wr.drew (below_drew HK.out.1)) i hi0 hi1
   obtain ⟨adq, eq_, hy0, hy1, hy2, hy3, hy4⟩ := at_T40 (HC1.out wr.drew (below_drew HK.out.1)) i hi0 hi1
   obtain ⟨p, hp⟩ : ∃ p, p = rd_T40 l0 i := ⟨_, rfl⟩
   obtain ⟨q, hq⟩ : ∃ q, q = rd_T40 l1 i := ⟨_, rfl⟩
   rw [← hp] at hx0 hx1 hx2 hx3 hx4 hy
   rw [← hq] at hy0 hy1 hy2 hy3 hy4 hy
   have HI := Aside0.mk hi
   have HR := Aside0.mk hR
   have HL := Aside0.mk (And.intro hi0 (And.intro hi1 hlt))
   have d1 : decide (i < (l0.length : Int)) = true := decide_eq_true hi1
   have d2 : (0 ≤ i) = True := eq_true hi0
   have d3 : (i < l0.length) = True := eq_true hi1
   have hb1 : i + 1 ≤ 9223372036854775807 := by have := H64.out; omega
   have hb2 : -9223372036854775808 ≤ i + 1 := by omega
   clear hi hR hi0 hi1 hlt hk hx hv hp hq
   subst ep
   subst eq_
   gi_wp2
   gi_region_with (refine HR.out.mono ?_; rintro e W3 h3_; obtain ⟨b, rfl, h4_⟩ := two_ways h3_; have H4 := Aside0.mk h4_; clear h3_ h4_)
   all_goals
    rcases H4.out with ⟨rfl, hJ3, hk3⟩ | ⟨rfl, hJx3⟩
    ·rw [HEN.out] at hJ3
     have HJ3 := Aside0.mk hJ3
     have HK3 := Aside0.mk (keep2_t HK.out (⟨(below_drew (Below.refl n0 wr)).trans hk3.1, hk3.2⟩ : Keep2 n0 B1 B2 wr W3))
     clear hJ3 hk3 H4
     gi_wp2
     go_roundw
     case rel =>
      refine ⟨k + 1, ?_, ?_, HJ3, HK3⟩
      ·have := HL.out; omega
      ·have := HI.out; first | (rw [show i + 1 = ((k + 1 : Nat) : Int) from by omega]; done) | (simp; omega)
     case measure => have := HL.out; have := HI.out; simp [intOf]; omega
    ·rw [HEN.out] at hJx3
     have HJ3 := Aside0.mk hJx3
     clear hJx3 H4
     gi_wp2
     refine bodyPost_ret (results_none rfl _ _ _) rfl ?_
     exact ⟨⟨_, rfl⟩, .inr ⟨_, ⟨_, rfl⟩, HJ3.out⟩⟩
  ·have hkl : k = l0.length := by omega
   have hall : E.take k = E := List.take_of_length_le (by rw [HEL.out]; omega)
   rw [hall] at HJ
   have d1 : decide ((k : Int) < (l0.length : Int)) = false := decide_eq_false (by omega)
   have d1' : decide (k < l0.length) = false := decide_eq_false hlt
   clear hlt hkl hall
   gi_wp2
   go_end0
   exact ⟨⟨_, rfl⟩, .inl ⟨_, rfl, HJ.out⟩⟩
theorem pairs2_stops {α : Type} (val : α → S40 × S40) (E : List α) (n : Nat) (hn : 1 ≤ n) (B1 B2 n0 : Nat) (A0 A1 : Option Addr) (c0 c1 : Nat) (l0 l1 : List S40) (hl : l1.length = l0.length) (h64 : l0.length ≤ 64) (hEl : E.length = l0.length)
  (hE : ∀ k x, E[k]? = some x → val x = (rd_T40 l0 (k : Nat), rd_T40 l1 (k : Nat))) (w : World) (hB1 : w.heap[B1]? = some (.cells #[.slice A0 l0.length c0] 31 (0, 0))) (hB2 : w.heap[B2]? = some (.cells #[.slice A1 l1.length c1] 31 (0, 0)))
  (hC0 : ∀ W', Below n0 w W' → Kd.C k40 W' A0 l0.length l0) (hC1 : ∀ W', Below n0 w W' → Kd.C k40 W' A1 l1.length l1) (hn0 : n0 ≤ w.heap.size) :
  SeqStopsK Fence.wide n Try.prog 86 #[.pointer (some ⟨B1, 0, none⟩), .pointer (some ⟨B2, 0, none⟩)] (fun x => encP (val x)) (Keep2 n0 B1 B2) (fun xs => xs = E) (fun pre => ∃ k, pre = E.take k) (l0.length + 1) w := by
 intro lr J Jx W hW hJ _ hY h0
 exact pairs2_in val E n hn lr B1 B2 n0 A0 A1 c0 c1 l0 l1 hl h64 hEl hE J Jx (fun pre W h => hJ pre W W.drew none h (grown_drew (grown_refl W none)) (fun r e => by cases e)) hY W (blk_below hB1 hW) (blk_below hB2 hW) (fun W' h => hC0 W' ((hW.mono hn0).trans h)) (fun W' h => hC1 W' ((hW.mono hn0).trans h)) h0
def inB (p : S40 × S40) : Bool := decide (p.1.f2.f0 ≤ p.2.f2.f0) && decide (p.2.f2.f1 ≤ p.1.f2.f1)
def allB (f : S40 × S40 → Bool) (a b : List S40) : Bool := (List.range a.length).all (fun j => f (rd_T40 a j, rd_T40 b j))
theorem pairs_list (f : S40 × S40 → Bool) (a b : List S40) (h : allB f a b = true) : ∃ E : List {p : S40 × S40 // f p = true}, E.length = a.length ∧ ∀ k x, E[k]? = some x → x.val = (rd_T40 a (k : Nat), rd_T40 b (k : Nat)) := by
 unfold allB at h
 rw [List.all_eq_true] at h
 refine ⟨(List.range a.length).attach.map (fun j => ⟨(rd_T40 a (j.val : Nat), rd_T40 b (j.val : Nat)), h j.val j.property⟩), by simp, fun k x hx => ?_⟩
 rw [List.getElem?_map] at hx
 obtain ⟨y, hy, rfl⟩ := Option.map_eq_some_iff.1 hx
 obtain ⟨hk, rfl⟩ := List.getElem?_eq_some_iff.1 hy
 simp
theorem postM_doneW {F : Fence} {n : Nat} {P : Program} {fn : Func} {R : Ending → World → Prop} {T : Array Value} {v : Value} {D : Nat} {w : World} (hD : w.heap[D]? = some (.deferred (some []))) (h : (results fn T).run P (w.putObj D (.deferred none)) = .ok v (w.putObj D (.deferred none))) (hR : R (.returned v) (w.putObj D (.deferred none))) :
  bodyPostM F n P fn R .ret { tmps := T, defers := [{ target := .collected D, args := #[] }] } w := ⟨by simp, .inl ⟨_, _, rfl, run_takeDeferred hD, v, h, hR⟩⟩
theorem cells_putW {w : World} {g D : Nat} {o o' : Obj} (h : w.heap[g]? = some o) (hD : w.heap[D]? = some o') (hne : o.isCells = true) (hn : o'.isCells = false) (x : Obj) : (w.putObj D x).heap[g]? = some o :=
 (World.putObj_heap_other (fun e => by rw [e, hD] at h; cases h; rw [hn] at hne; cases hne)).trans h
theorem results_1s {P : Program} {fn : Func} {p : Tmp} {t : TypeId} (h : fn.results = #[.cell p t]) (T : Array Value) (w : World) (g : Nat) (v : Value) (hp : T[p]?.getD undef = .pointer (some ⟨g, 0, none⟩))
  (hu : ∀ w, (isAgg t).run P w = .ok false w) (hc : w.cell? ⟨g, 0, none⟩ = some v) : (results fn T).run P w = .ok v w := by
 simp [results, h, hp, asAddr, loadVar, hu, hc]
def pairC (p : S40 × S40) : Array Value := #[.int .i64 p.1.f0, .int .i64 p.1.f1, .int .i64 p.1.f2.f0, .int .i64 p.1.f2.f1, .bool p.1.f3, .int .i64 p.2.f0, .int .i64 p.2.f1, .int .i64 p.2.f2.f0, .int .i64 p.2.f2.f1, .bool p.2.f3]
theorem within_calls (w : World) (B1 B2 : Nat) (A0 A1 : Option Addr) (c0 c1 : Nat) (l0 l1 : List S40) (hl : l1.length = l0.length) (h64 : l0.length ≤ 64) (hin : allB inB l0 l1 = true)
  (hB1 : w.heap[B1]? = some (.cells #[.slice A0 l0.length c0] 31 (0, 0))) (hB2 : w.heap[B2]? = some (.cells #[.slice A1 l1.length c1] 31 (0, 0))) (hC0 : Kd.C k40 w A0 l0.length l0) (hC1 : Kd.C k40 w A1 l1.length l1) :
  Calls Try.prog 71 #[.func (.func 86) #[] #[.pointer (some ⟨B1, 0, none⟩), .pointer (some ⟨B2, 0, none⟩)]] w fun e w' => e = .returned (.bool true) ∧ Below w.heap.size w w' := by
 obtain ⟨E, hEl, hE⟩ := pairs_list inB l0 l1 hin
 refine (callsIn_wide (n := 5)).1 ?_
 refine callsIn_of_wp_marks Try.func71 rfl trivial ?_ rfl
 simp only [Try.ntmps71, List.size_toArray, List.length_cons, List.length_nil, Nat.reduceAdd, Nat.reduceSub, Array.replicate_succ, Array.replicate_zero, List.push_toArray, List.append_toArray, List.nil_append, List.cons_append]
 have hu38 := Try.underlying38
 have hu40 := Try.underlying40
 have hu125 := Try.underlying125
 obtain ⟨g2, hg2⟩ : ∃ g2, w.heap.size = g2 := ⟨_, rfl⟩
 have HC0 := Aside0.mk hC0
 have HC1 := Aside0.mk hC1
 have HE := Aside0.mk hE
 have HB1 := Aside0.mk hB1
 have HB2 := Aside0.mk hB2
 clear hC0 hC1 hE hB1 hB2
 gi_wp2
 obtain ⟨W3, h5⟩ : ∃ W3, W3 = w.alloc (Obj.cells #[Value.bool false] 4) := ⟨_, rfl⟩
 rw [← h5]
 have s5 : W3.heap.size = g2 + 1 := by rw [h5, World.size_alloc, hg2]
 have b1 : W3.heap[g2]? = some (.cells #[.bool false] 4 (0, 0)) := by rw [h5, ← hg2]; exact blk_new w _
 have hB3 : Below w.heap.size w W3 := by rw [h5]; exact below_alloc (Below.refl _ _) _
 have hle : w.heap.size ≤ W3.heap.size := by omega
 have k1 := blk_below HB1.out hB3
 have k2 := blk_below HB2.out hB3
 have l1_ := blk_lt HB1.out
 have l2_ := blk_lt HB2.out
 clear h5
 refine wpIn_rangeFunc_ownH rfl (by omega) (gf := 86) (lb := #[.pointer (some ⟨B1, 0, none⟩), .pointer (some ⟨B2, 0, none⟩)]) rfl trivial (enters_fn Try.func86 (by kernel_rfl) rfl)
  (pairs2_stops Subtype.val E 4 (by omega) B1 B2 w.heap.size A0 A1 c0 c1 l0 l1 hl h64 hEl HE.out W3 k1 k2 (fun W' h => Kd.C_below HC0.out (hB3.trans h)) (fun W' h => Kd.C_below HC1.out (hB3.trans h)) hle) keep2_t (keep2_b hle (by omega) (by omega)) (Below.refl _ _) (fun _ => rfl)
  (fun _ W => W.heap[g2]? = some (.cells #[.bool false] 4 (0, 0)) ∧ Below w.heap.size w W)
  (fun _ _ _ => False)
  (fun s A B row hs hg hr => by
   have hr' : ∀ r, row = some r → ∃ o : Obj, A.heap[r]? = some o ∧ o.isCells = false := fun r e => (hr r e).2
   exact ⟨blk_objs hs.1 hg hr', grown_below hs.2 hg (fun r e => by have := (hr r e).1; omega)⟩)
  (fun c s A B row hs hg hr => hs.elim)
  ⟨b1, hB3⟩
  (fun x a' W => ∃ g, a' = { tmps := #[.func (.func 86) #[] #[.pointer (some ⟨B1, 0, none⟩), .pointer (some ⟨B2, 0, none⟩)], undef, .pointer (some ⟨g2, 0, none⟩), .pointer (some ⟨g, 0, none⟩), .func (.func 86) #[] #[.pointer (some ⟨B1, 0, none⟩), .pointer (some ⟨B2, 0, none⟩)], .agg (pairC x.val), undef, undef, undef, undef, undef, undef, undef, undef, undef, undef, undef, undef, undef, undef, undef, undef, undef, undef, undef, undef], defers := [] } ∧ W.heap[g]? = some (.cells (pairC x.val) 125 (0, 0)))
  (fun x a' s A B row hs hg hr => by
   obtain ⟨g, e, hb⟩ := hs
   exact ⟨g, e, blk_objs hb hg (fun r e => (hr r e).2)⟩) ?assign ?body ?done ?stop
 case assign =>
  rintro lr pre ⟨p, hp⟩ W K ⟨i1, i2⟩ hK
  simp only [encP]
  gi_wp2
  exact hK _ _ ((KeepsOthers.alloc W _).from _) (keep2_below (below_size i2) (Nat.lt_of_lt_of_le l1_ (below_size i2)) (Nat.lt_of_lt_of_le l2_ (below_size i2)) (below_alloc (Below.refl _ _) _)) ⟨blk_alloc i1 _, below_alloc i2 _⟩ ⟨W.heap.size, rfl, blk_new W _⟩
 case done =>
  rintro D ys W hD hys ⟨q2, hBW⟩ hDD
  have hf2 := blk_frozen q2 0
  have hc2 : W.cell? ⟨g2, 0, none⟩ = some (.bool false) := (blk_cell q2 0).trans rfl
  gi_wp2
  obtain ⟨W1, hW1⟩ : ∃ W1, W1 = W.setCell ⟨g2, 0, none⟩ (.bool true) := ⟨_, rfl⟩
  rw [← hW1]
  have r2 : W1.heap[g2]? = some (.cells #[.bool true] 4 (0, 0)) := by rw [hW1]; exact blk_put q2 0 _ rfl
  have rD : W1.heap[D]? = some (.deferred (some [])) := by rw [hW1]; exact (Below.heap_setCell _ _ _ _ (show D ≠ g2 by omega)).trans hDD
  have rB : Below w.heap.size w W1 := by rw [hW1]; exact below_set hBW (show w.heap.size ≤ g2 by omega)
  show bodyPostM _ _ _ _ _ .ret _ _
  refine postM_doneW (D := D) rD (results_1s rfl _ _ g2 (.bool true) rfl (fun w => by have hu := Try.underlying4; simp [isAgg, run_underlying hu]) ((blk_cell (cells_putW r2 rD rfl rfl _) 0).trans rfl)) ⟨rfl, ?_⟩
  exact rB.trans (belowK_b (w := w) (Nat.le_refl _) _ D _ _ (by omega) rD rfl rfl)
 case stop =>
  rintro D c pre W hD _ h
  exact h.elim
 case body =>
  rintro lr pre ⟨p, hp⟩ a' W _ _ ⟨i1, i2⟩ ⟨g, rfl, hb⟩ hlen
  simp only [inB, Bool.and_eq_true, decide_eq_true_eq] at hp
  have d1 : decide (p.2.f2.f0 < p.1.f2.f0) = false := decide_eq_false (by omega)
  have d2 : decide (p.1.f2.f1 < p.2.f2.f1) = false := decide_eq_false (by omega)
  have hc2 : W.cell? ⟨g, 2, none⟩ = some (.int .i64 p.1.f2.f0) := (blk_cell hb 2).trans rfl
  have hc3 : W.cell? ⟨g, 3, none⟩ = some (.int .i64 p.1.f2.f1) := (blk_cell hb 3).trans rfl
  have hc7 : W.cell? ⟨g, 7, none⟩ = some (.int .i64 p.2.f2.f0) := (blk_cell hb 7).trans rfl
  have hc8 : W.cell? ⟨g, 8, none⟩ = some (.int .i64 p.2.f2.f1) := (blk_cell hb 8).trans rfl
  gi_wp2
  exact ⟨(KeepsOthers.refl _).from _, keep2_r _ _ _ _, i1, by first | exact i2 | exact hg2 ▸ i2⟩
end
section
def settle_sum.l0 : Nat → Int → List (S40) → Int → Int → Option (Int)
 | 0, _, _, _, _ => none
 | k + 1, x1, x7, x8, x9 => if x9 < x8 then (if 0 ≤ x9 then (if x9 < (x7.length : Int) then (settle_sum.l0 k (wrap64 (x1 + ((rd_T40 x7 x9).f1))) x7 x8 (wrap64 (x9 + 1))) else (none)) else (none)) else (some x1)
def settle_sum.f (k : Nat) (l0 : List (S40)) (a1 : Int) : Option (Int) := settle_sum.l0 k a1 l0 (l0.length : Int) 0
theorem settle_sum.calls (k : Nat) (A0 : Option Addr) (c0 : Nat) (l0 : List (S40)) (a1 : Int) (r : Int) (w : World) (hr0 : Kd.C k40 w A0 l0.length l0) (hc0 : l0.length ≤ c0) (h : settle_sum.f k l0 a1 = some r) :
  Calls Try.prog 72 #[.slice A0 l0.length c0, .int .i64 a1] w fun e w' => e = .returned (.int .i64 r) ∧ Below w.heap.size w w' := by
 have hu40 := Try.underlying40
 have HR0 := Aside0.mk hr0
 have HC0 := Aside0.mk hc0
 clear hr0 hc0
 have HB := Aside0.mk (Below.refl w.heap.size w)
 have H : (settle_sum.l0 k a1 l0 (l0.length : Int) 0) = some r := h
 clear h
 have H' := Aside0.mk H
 clear H
 go_enter Try.func72, Try.ntmps72
 go_wp2
 go_loopg [1, 9] k (fun kq v1 v9 w' => ∃ (x1_1 : Int) (x9_1 : Int), v1 = .int .i64 x1_1 ∧ v9 = .int .i64 x9_1 ∧ Aside0 (settle_sum.l0 kq x1_1 l0 (l0.length : Int) x9_1 = some r) ∧ Aside0 (kq ≤ k) ∧ Aside0 (Below w.heap.size w w'))
 case atStart => exact ⟨(a1), (0), sd_, sd_, H', ⟨Nat.le_refl _⟩, ⟨by repeat (first | (with_reducible first | exact HB.out | apply below_alloc | apply pw_below_drewN | apply below_drew1) | exact HB.out)⟩⟩
 case round =>
  clear H'
  try clear p2
  obtain ⟨x1_1, x9_1, rfl, rfl, HA, HK1, HB⟩ := hrel
  cases gk with
  | zero => exact absurd HA.out (by simp [settle_sum.l0])
  | succ k1 =>
   have H := HA.out
   clear HA
   simp only [settle_sum.l0] at H
   by_cases c3 : x9_1 < (l0.length : Int)
   ·rw [if_pos c3] at H
    have c3b0 : decide (x9_1 < (l0.length : Int)) = true := decide_eq_true c3
    clear c3
    by_cases c4 : 0 ≤ x9_1
    ·rw [if_pos c4] at H
     have c4b0 : decide (0 ≤ x9_1) = true := decide_eq_true c4
     clear c4
     by_cases c5 : x9_1 < (l0.length : Int)
     ·rw [if_pos c5] at H
      have c5b0 : decide (x9_1 < (l0.length : Int)) = true := decide_eq_true c5
      clear c5
      have H' := Aside0.mk H
      clear H
      have p512 : 0 ≤ (x9_1 : Int) := od_
      have q512 : x9_1 < (l0.length : Int) := od_
      obtain ⟨ad512, e512, hx512_0, hx512_1, hx512_2, hx512_3, hx512_4⟩ := at_T40 HR0.out x9_1 p512 q512
      cases e512
      replace hx512_0 := (HB.out.cell (World.block_lt_of_cell? w _ hx512_0)).trans hx512_0
      replace hx512_1 := (HB.out.cell (World.block_lt_of_cell? w _ hx512_1)).trans hx512_1
      replace hx512_2 := (HB.out.cell (World.block_lt_of_cell? w _ hx512_2)).trans hx512_2
      replace hx512_3 := (HB.out.cell (World.block_lt_of_cell? w _ hx512_3)).trans hx512_3
      replace hx512_4 := (HB.out.cell (World.block_lt_of_cell? w _ hx512_4)).trans hx512_4
      replace p512 := eq_true p512
      replace q512 := eq_true q512
      go_wp2_with (first | ((with_reducible refine gate_dst (N := 6) rfl ?_); refine box_event ?hg (N := 6) ?hd (cs := #[.int .i64 0, .int .i64 0, .int .i64 0, .int .i64 0, .bool false]) (t := 40) ?hr ?_; (case hd => rfl); (case hg => rfl); (case hr => first | (go_simp; done) | (go_simp; rfl)); intro gb513 hg w6 hbox hb; have n0_ := Aside0.mk (below_step (bb_ HB) hb); have n1_ := Aside0.mk (hbox); have n2_ := Aside0.mk ((by rw [hg]; exact (below_size (bb_ HB)) : w.heap.size ≤ gb513)); have n3_ := Aside0.mk ((by rw [hg]; exact (below_size (bb_ HB)) : w.heap.size ≤ gb513)); clear HB; have HB := n0_; have BK513 := n1_; have GW513 := n2_; have GE513 := n3_; clear n0_ n1_ n2_ n3_; clear hb hbox hg; have hcz7_0 : w6.cell? ⟨gb513, 0, none⟩ = some (.int .i64 0) := (blk_cell BK513.out 0).trans rfl; have hcz7_1 : w6.cell? ⟨gb513, 1, none⟩ = some (.int .i64 0) := (blk_cell BK513.out 1).trans rfl; have hcz7_2 : w6.cell? ⟨gb513, 2, none⟩ = some (.int .i64 0) := (blk_cell BK513.out 2).trans rfl; have hcz7_3 : w6.cell? ⟨gb513, 3, none⟩ = some (.int .i64 0) := (blk_cell BK513.out 3).trans rfl; have hcz7_4 : w6.cell? ⟨gb513, 4, none⟩ = some (.bool false) := (blk_cell BK513.out 4).trans rfl; have hfz7_0 := blk_frozen BK513.out 0; have hfz7_1 := blk_frozen BK513.out 1; have hfz7_2 := blk_frozen BK513.out 2; have hfz7_3 := blk_frozen BK513.out 3; have hfz7_4 := blk_frozen BK513.out 4))
      go_roundg k1
      case measure => have := HK1.out; omega
      case rel => exact ⟨(wrap64 (x1_1 + ((rd_T40 l0 x9_1).f1))), (wrap64 (x9_1 + 1)), sd_, sd_, H', ⟨by have := HK1.out; omega⟩, ⟨by repeat (first | (with_reducible first | exact HB.out | apply below_alloc | apply pw_below_drewN | apply below_drew1 | refine below_set ?_ GE513.out) | exact HB.out)⟩⟩
     ·rw [if_neg c5] at H
      exact absurd H (by simp)
    ·rw [if_neg c4] at H
     exact absurd H (by simp)
   ·rw [if_neg c3] at H
    have c3b0 : decide (x9_1 < (l0.length : Int)) = false := decide_eq_false c3
    clear c3
    obtain rfl := Option.some.inj H
    go_wp2
    go_ret
    exact ⟨ew_, by repeat (first | (with_reducible first | exact HB.out | apply below_alloc | apply pw_below_drewN | apply below_drew1) | exact HB.out)⟩
end
section
open Go.Proofs.YthjjabcbngffoaaH
def outC (p : S40 × S40) : S40 := ⟨p.2.f0, p.2.f1 - p.1.f1, ⟨p.2.f2.f0 - p.1.f1, p.2.f2.f1 - p.1.f1⟩, p.2.f3⟩
def amt3 (p : S40 × S40) : Bool := amtB [(outC p).f1, (outC p).f2.f0, (outC p).f2.f1]
def settleB (l0 l1 : List S40) (a2 a3 : Int) : Bool := pairB l0 l1 && (allB inB l0 l1 && (amtB [a2, a3] && (decide (settle_sum.f 65 l0 a2 = settle_sum.f 65 l1 a3) && ((settle_sum.f 65 l0 a2).isSome && (amtB [a3 - a2] && allB amt3 l0 l1)))))
theorem settleB_at {l0 l1 : List S40} {a2 a3 : Int} (h : settleB l0 l1 a2 a3 = true) : pairB l0 l1 = true ∧ allB inB l0 l1 = true ∧ amtB [a2, a3] = true ∧ (∃ s, settle_sum.f 65 l0 a2 = some s ∧ settle_sum.f 65 l1 a3 = some s) ∧ amtB [a3 - a2] = true ∧ allB amt3 l0 l1 = true := by
 unfold settleB at h
 simp only [Bool.and_eq_true, decide_eq_true_eq] at h
 obtain ⟨h1, h2, h3, h4, h5, h6, h7⟩ := h
 obtain ⟨s, hs⟩ := Option.isSome_iff_exists.1 h5
 exact ⟨h1, h2, h3, ⟨s, hs, h4 ▸ hs⟩, h6, h7⟩
theorem results_3s {P : Program} {fn : Func} {p q r : Tmp} {t t' t'' : TypeId} (h : fn.results = #[.cell p t, .cell q t', .cell r t'']) (T : Array Value) (w : World) (g g' g'' : Nat) (v v' v'' : Value) (hp : T[p]?.getD undef = .pointer (some ⟨g, 0, none⟩)) (hq : T[q]?.getD undef = .pointer (some ⟨g', 0, none⟩)) (hr : T[r]?.getD undef = .pointer (some ⟨g'', 0, none⟩))
  (hu : ∀ w, (isAgg t).run P w = .ok false w) (hu' : ∀ w, (isAgg t').run P w = .ok false w) (hu'' : ∀ w, (isAgg t'').run P w = .ok false w)
  (hc : w.cell? ⟨g, 0, none⟩ = some v) (hc' : w.cell? ⟨g', 0, none⟩ = some v') (hc'' : w.cell? ⟨g'', 0, none⟩ = some v'') : (results fn T).run P w = .ok (.tuple #[v, v', v'']) w := by
 simp [results, h, hp, hq, hr, asAddr, loadVar, hu, hu', hu'', hc, hc', hc'']
theorem out_list {f : S40 × S40 → Bool} {l0 l1 : List S40} {E : List {p : S40 × S40 // f p = true}} (hl : E.length = l0.length) (hE : ∀ k x, E[k]? = some x → x.val = (rd_T40 l0 (k : Nat), rd_T40 l1 (k : Nat))) :
  E.map (fun x => outC x.val) = (List.range l0.length).map (fun j => outC (rd_T40 l0 (j : Nat), rd_T40 l1 (j : Nat))) := by
 apply List.ext_getElem
 ·simp [hl]
 ·intro k h1 h2
  have hk : k < E.length := by simpa using h1
  have := hE k E[k] (List.getElem?_eq_getElem hk)
  simp [this]
theorem isAmount_callsN (n : Nat) (A0 : Option Addr) (c0 : Nat) (l0 : List Int) (hl : l0.length = n) (w : World) (hr0 : Kd.C (Kd.int .i64) w A0 l0.length l0) (hn : l0.length ≤ 140737488355328) (ha : amtB l0 = true) :
  Calls Try.prog 70 #[.slice A0 n c0] w fun e w' => e = .returned (.bool true) ∧ Below w.heap.size w w' := by
 subst hl
 exact isAmount_calls A0 c0 l0 w hr0 hn ha
def calmQS (Q : Exit → Act → World → Prop) : Exit → Act → World → Prop
 | .panic _, _, _ => False
 | .outgrown, _, _ => False
 | e, a, w => Q e a w
theorem wp_calmS {P : Program} {c : Code} {Q : Exit → Act → World → Prop} {a : Act} {w : World} (h : c.wp P (calmQS Q) a w) : c.wp P Q a w := wp_mono h (by
 intro e a w h
 cases e with
 | panic _ => exact h.elim
 | outgrown => exact h.elim
 | _ => exact h)
theorem at_frameS {F : Fence} {n : Nat} {P : Program} {c : Code} {Q : Exit → Act → World → Prop} {T : Array Value} {d : List Deferred} {w : World} (h : ∀ T0, T0 = T → c.wpIn F n P Q { tmps := T0, defers := d } w) : c.wpIn F n P Q { tmps := T, defers := d } w := h T rfl
attribute [local go_sem] Oper.semAt_some
set_option maxHeartbeats 16000000 in
theorem settle_calls (a2 a3 : Int) (A0 A1 : Option Addr) (c0 c1 : Nat) (l0 l1 : List (S40)) (w : World) (hr0 : Kd.C k40 w A0 l0.length l0) (hc0 : l0.length ≤ c0) (hr1 : Kd.C k40 w A1 l1.length l1) (hc1 : l1.length ≤ c1) (hs : settleB l0 l1 a2 a3 = true) :
  Calls Try.prog 52 #[.slice A0 l0.length c0, .slice A1 l1.length c1, .int .i64 a2, .int .i64 a3] w fun e w' => ∃ v0_ : Value, e = .returned (.tuple #[v0_, .int .i64 (a3 - a2), .int .i64 0]) ∧
   Kd.R k40 40 w' w.heap.size (fun _ => True) v0_ ((List.range l0.length).map (fun j => outC (rd_T40 l0 (j : Nat), rd_T40 l1 (j : Nat)))) ∧ Below w.heap.size w w' := by
 obtain ⟨hp, hin, ha, ⟨s, hs0, hs1⟩, hd, h3⟩ := settleB_at hs
 obtain ⟨p0, p1, p2⟩ := pairB_at hp
 obtain ⟨E, hEl, hE⟩ := pairs_list amt3 l0 l1 h3
 have h64 := (chgsB_at p0).1
 have hl := (sameHB_at p2).1.symm
 have hdd := amtB_at hd 0 (by simp) (by simp)
 simp [rd] at hdd
 have hz1 : a3 - a2 ≤ 9223372036854775807 := by omega
 have hz2 : -9223372036854775808 ≤ a3 - a2 := by omega
 have e1 : (s == s) = true := beq_self_eq_true s
 have e2 : (s != s) = false := bne_self_eq_false s
 refine (callsIn_wide (n := 5)).1 ?_
 refine callsIn_of_wp_marks Try.func52 rfl trivial ?_ rfl
 simp only [Try.ntmps52, List.size_toArray, List.length_cons, List.length_nil, Nat.reduceAdd, Nat.reduceSub, Array.replicate_succ, Array.replicate_zero, List.push_toArray, List.append_toArray, List.nil_append, List.cons_append]
 refine wpIn_wide.2 (wp_calmS ?_)
 have hu38 := Try.underlying38
 have hu40 := Try.underlying40
 have hu125 := Try.underlying125
 have HR0 := Aside0.mk hr0
 have HR1 := Aside0.mk hr1
 have HC0 := Aside0.mk hc0
 have HC1 := Aside0.mk hc1
 have HPB := Aside0.mk hp
 have HIN := Aside0.mk hin
 have HAM := Aside0.mk ha
 have HSU0 := Aside0.mk hs0
 have HSU1 := Aside0.mk hs1
 have HAD := Aside0.mk hd
 have HE := Aside0.mk hE
 have HEL := Aside0.mk hEl
 have H64 := Aside0.mk h64
 have HLL := Aside0.mk hl
 clear hr0 hr1 hc0 hc1 hp hin ha hs0 hs1 hd hE hEl h64 hl hs p0 p1 p2 h3 hdd
 have HB := Aside0.mk (Below.refl w.heap.size w)
 go_wp2_with (first | ((with_reducible refine gate_dst (N := 8) rfl ?_); refine box_event ?hg (N := 8) ?hd (cs := #[.slice none 0 0]) (t := 31) ?hr ?_; (case hd => rfl); (case hg => rfl); (case hr => first | (go_simp; done) | (go_simp; rfl)); intro ga hg_A w1 hbox_ hb_; have n0_ := Aside0.mk (below_step HB.out hb_); have BA := Aside0.mk hbox_; have GA := Aside0.mk (show w.heap.size ≤ ga by rw [hg_A]; exact below_size HB.out); have EA := Aside0.mk hg_A; have hcA0 : w1.cell? ⟨ga, 0, none⟩ = some (.slice none 0 0) := (blk_cell hbox_ 0).trans rfl; have hfA0 := blk_frozen hbox_ 0; clear HB hg_A hbox_ hb_; have HB := n0_; clear n0_) | ((with_reducible refine gate_dst (N := 9) rfl ?_); refine box_event ?hg (N := 9) ?hd (cs := #[.int .i64 0]) (t := 3) ?hr ?_; (case hd => rfl); (case hg => rfl); (case hr => first | (go_simp; done) | (go_simp; rfl)); intro gh hg_H w2 hbox_ hb_; have n0_ := Aside0.mk (below_step HB.out hb_); have BH := Aside0.mk hbox_; have GH := Aside0.mk (show w.heap.size ≤ gh by rw [hg_H]; exact below_size HB.out); have EH := Aside0.mk hg_H; have hcH0 : w2.cell? ⟨gh, 0, none⟩ = some (.int .i64 0) := (blk_cell hbox_ 0).trans rfl; have hfH0 := blk_frozen hbox_ 0; have BA := Aside0.mk (blk_below BA.out hb_); clear HB hg_H hbox_ hb_; have HB := n0_; clear n0_) | ((with_reducible refine gate_dst (N := 10) rfl ?_); refine box_event ?hg (N := 10) ?hd (cs := #[.int .i64 0]) (t := 27) ?hr ?_; (case hd => rfl); (case hg => rfl); (case hr => first | (go_simp; done) | (go_simp; rfl)); intro ge hg_E w3 hbox_ hb_; have n0_ := Aside0.mk (below_step HB.out hb_); have BE := Aside0.mk hbox_; have GE := Aside0.mk (show w.heap.size ≤ ge by rw [hg_E]; exact below_size HB.out); have EE := Aside0.mk hg_E; have hcE0 : w3.cell? ⟨ge, 0, none⟩ = some (.int .i64 0) := (blk_cell hbox_ 0).trans rfl; have hfE0 := blk_frozen hbox_ 0; have NHE := Aside0.mk (show gh ≠ ge by have := blk_lt BH.out; omega); have BA := Aside0.mk (blk_below BA.out hb_); have BH := Aside0.mk (blk_below BH.out hb_); clear HB hg_E hbox_ hb_; have HB := n0_; clear n0_) | (go_at_call 69; (with_reducible refine (pairs_calls A0 A1 c0 c1 l0 l1 _ (Kd.C_below HR0.out HB.out) (Kd.C_below HR1.out HB.out) HPB.out).mono ?_); rintro e w4 ⟨g1, g2, rfl, hp_, hq_, hg1_, hg2_, hb_⟩; have BP := Aside0.mk hp_; have BQ := Aside0.mk hq_; have G1 := Aside0.mk (Nat.le_trans (below_size HB.out) hg1_); have G2 := Aside0.mk (Nat.le_trans (below_size HB.out) hg2_); clear hp_ hq_; have NA1 := Aside0.mk (show ga ≠ g1 ∧ ga ≠ g2 by have := blk_lt BA.out; omega); clear hg1_ hg2_; have n0_ := Aside0.mk (below_step HB.out hb_); have BA := Aside0.mk (blk_below BA.out hb_); have BH := Aside0.mk (blk_below BH.out hb_); have BE := Aside0.mk (blk_below BE.out hb_); clear HB hb_; have HB := n0_; clear n0_) | ((with_reducible refine gate_dst (N := 29) rfl ?_); (try (refine gate_guard (by rfl) ?_; dsimp only)); refine Kd.R_lit (Kd.int .i64) _ 3 ?hg (N := 29) ?hd (xs := [a2, a3]) (inner := [.int .i64 a2, .int .i64 a3]) (ok := fun _ => True) (okp := fun _ => True) ?hr ?hp (fun _ hk => hk) trivial (Below.refl _ _) (Nat.le_refl _) (by simp) ?_; (case hd => rfl); (case hg => rfl); (case hr => first | (go_simp; done) | (go_simp; rfl)); (case hp => exact (Reps.one (show Kd.M (Kd.int .i64) _ _ _ (a2) [.int .i64 (a2)] from rfl) (Reps.one (show Kd.M (Kd.int .i64) _ _ _ (a3) [.int .i64 (a3)] from rfl) (Reps.none _ _)))); intro v29 w5 ho_ hb_ hg_ hnew_; obtain ⟨A29, c29, rfl⟩ := Kd.R_slice ho_; have HO29 := Aside0.mk ho_; clear ho_ hg_ hnew_; have n0_ := Aside0.mk (below_step HB.out hb_); have BA := Aside0.mk (blk_below BA.out hb_); have BH := Aside0.mk (blk_below BH.out hb_); have BE := Aside0.mk (blk_below BE.out hb_); have BP := Aside0.mk (blk_below BP.out hb_); have BQ := Aside0.mk (blk_below BQ.out hb_); clear HB hb_; have HB := n0_; clear n0_) | (go_at_call 70; (with_reducible refine (isAmount_callsN 2 A29 c29 [a2, a3] rfl _ (Kd.R_reads' HO29.out).2.2 (by simp) HAM.out).mono ?_); rintro e w6 ⟨rfl, hb_⟩; have n0_ := Aside0.mk (below_step HB.out hb_); have BA := Aside0.mk (blk_below BA.out hb_); have BH := Aside0.mk (blk_below BH.out hb_); have BE := Aside0.mk (blk_below BE.out hb_); have BP := Aside0.mk (blk_below BP.out hb_); have BQ := Aside0.mk (blk_below BQ.out hb_); clear HB hb_; have HB := n0_; clear n0_) | (go_at_call 71; (with_reducible refine (within_calls _ g1 g2 A0 A1 c0 c1 l0 l1 HLL.out H64.out HIN.out BP.out BQ.out (Kd.C_below HR0.out HB.out) (Kd.C_below HR1.out HB.out)).mono ?_); rintro e w7 ⟨rfl, hb_⟩; have n0_ := Aside0.mk (below_step HB.out hb_); have BA := Aside0.mk (blk_below BA.out hb_); have BH := Aside0.mk (blk_below BH.out hb_); have BE := Aside0.mk (blk_below BE.out hb_); have BP := Aside0.mk (blk_below BP.out hb_); have BQ := Aside0.mk (blk_below BQ.out hb_); clear HB hb_; have HB := n0_; clear n0_) | (go_at_call 72; (with_reducible refine (settle_sum.calls 65 A0 c0 l0 a2 s _ (Kd.C_below HR0.out HB.out) HC0.out HSU0.out).mono ?_); rintro e w8 ⟨rfl, hb_⟩; have n0_ := Aside0.mk (below_step HB.out hb_); have BA := Aside0.mk (blk_below BA.out hb_); have BH := Aside0.mk (blk_below BH.out hb_); have BE := Aside0.mk (blk_below BE.out hb_); have BP := Aside0.mk (blk_below BP.out hb_); have BQ := Aside0.mk (blk_below BQ.out hb_); clear HB hb_; have HB := n0_; clear n0_) | (go_at_call 72; (with_reducible refine (settle_sum.calls 65 A1 c1 l1 a3 s _ (Kd.C_below HR1.out HB.out) HC1.out HSU1.out).mono ?_); rintro e w9 ⟨rfl, hb_⟩; have n0_ := Aside0.mk (below_step HB.out hb_); have BA := Aside0.mk (blk_below BA.out hb_); have BH := Aside0.mk (blk_below BH.out hb_); have BE := Aside0.mk (blk_below BE.out hb_); have BP := Aside0.mk (blk_below BP.out hb_); have BQ := Aside0.mk (blk_below BQ.out hb_); clear HB hb_; have HB := n0_; clear n0_) | ((with_reducible refine gate_dst (N := 49) rfl ?_); (try (refine gate_guard (by rfl) ?_; dsimp only)); refine Kd.R_lit (Kd.int .i64) _ 3 ?hg (N := 49) ?hd (xs := [a3 - a2]) (inner := [.int .i64 (a3 - a2)]) (ok := fun _ => True) (okp := fun _ => True) ?hr ?hp (fun _ hk => hk) trivial (Below.refl _ _) (Nat.le_refl _) (by simp) ?_; (case hd => rfl); (case hg => rfl); (case hr => first | (go_simp; done) | (go_simp; rfl)); (case hp => exact (Reps.one (show Kd.M (Kd.int .i64) _ _ _ (a3 - a2) [.int .i64 (a3 - a2)] from rfl) (Reps.none _ _))); intro v49 w10 ho_ hb_ hg_ hnew_; obtain ⟨A49, c49, rfl⟩ := Kd.R_slice ho_; have HO49 := Aside0.mk ho_; clear ho_ hg_ hnew_; have n0_ := Aside0.mk (below_step HB.out hb_); have BA := Aside0.mk (blk_below BA.out hb_); have BH := Aside0.mk (blk_below BH.out hb_); have BE := Aside0.mk (blk_below BE.out hb_); have BP := Aside0.mk (blk_below BP.out hb_); have BQ := Aside0.mk (blk_below BQ.out hb_); clear HB hb_; have HB := n0_; clear n0_) | (go_at_call 70; (with_reducible refine (isAmount_callsN 1 A49 c49 [a3 - a2] rfl _ (Kd.R_reads' HO49.out).2.2 (by simp) HAD.out).mono ?_); rintro e w11 ⟨rfl, hb_⟩; have n0_ := Aside0.mk (below_step HB.out hb_); have BA := Aside0.mk (blk_below BA.out hb_); have BH := Aside0.mk (blk_below BH.out hb_); have BE := Aside0.mk (blk_below BE.out hb_); have BP := Aside0.mk (blk_below BP.out hb_); have BQ := Aside0.mk (blk_below BQ.out hb_); clear HB hb_; have HB := n0_; clear n0_) | ((with_reducible refine gate_dst (N := 13) rfl ?_); refine box_event ?hg (N := 13) ?hd (cs := #[.slice none 0 0]) (t := 31) ?hr ?_; (case hd => rfl); (case hg => rfl); (case hr => first | (go_simp; done) | (go_simp; rfl)); intro go hg_O w12 hbox_ hb_; have n0_ := Aside0.mk (below_step HB.out hb_); have BO := Aside0.mk hbox_; have GO := Aside0.mk (show w.heap.size ≤ go by rw [hg_O]; exact below_size HB.out); have EO := Aside0.mk hg_O; have hcO0 : w12.cell? ⟨go, 0, none⟩ = some (.slice none 0 0) := (blk_cell hbox_ 0).trans rfl; have hfO0 := blk_frozen hbox_ 0; have NO := Aside0.mk (show (go ≠ ga ∧ go ≠ g1 ∧ go ≠ g2) by have := blk_lt BA.out; have := blk_lt BP.out; have := blk_lt BQ.out; omega); have BA := Aside0.mk (blk_below BA.out hb_); have BH := Aside0.mk (blk_below BH.out hb_); have BE := Aside0.mk (blk_below BE.out hb_); have BP := Aside0.mk (blk_below BP.out hb_); have BQ := Aside0.mk (blk_below BQ.out hb_); clear HB hg_O hbox_ hb_; have HB := n0_; clear n0_))
 have hlt1 := blk_lt BP.out
 have hlt2 := blk_lt BQ.out
 have hle := below_size HB.out
 refine (wpIn_wide (n := 4)).1 ?_
 refine at_frameS (fun T0 hT0 => ?_)
 refine wpIn_rangeFunc_ownH rfl (by omega) (gf := 86) (lb := #[.pointer (some ⟨g1, 0, none⟩), .pointer (some ⟨g2, 0, none⟩)]) (by subst hT0; rfl) trivial (enters_fn Try.func86 (by kernel_rfl) rfl)
  (pairs2_stops Subtype.val E 3 (by omega) g1 g2 w.heap.size A0 A1 c0 c1 l0 l1 HLL.out H64.out HEL.out HE.out w12 BP.out BQ.out (fun W' h => Kd.C_below HR0.out (HB.out.trans h)) (fun W' h => Kd.C_below HR1.out (HB.out.trans h)) hle) keep2_t (keep2_b hle hlt1 hlt2) (Below.refl _ _) (fun _ => rfl)
  (fun pre W => (W.heap[ga]? = some (.cells #[.slice none 0 0] 31 (0, 0)) ∧ W.heap[gh]? = some (.cells #[.int .i64 0] 3 (0, 0)) ∧ W.heap[ge]? = some (.cells #[.int .i64 0] 27 (0, 0)) ∧ W.heap[g1]? = some (.cells #[.slice A0 l0.length c0] 31 (0, 0)) ∧ W.heap[g2]? = some (.cells #[.slice A1 l1.length c1] 31 (0, 0)))
   ∧ (∃ v, W.heap[go]? = some (.cells #[v] 31 (0, 0)) ∧ Kd.R k40 40 W w.heap.size (fun _ => True) v (pre.map (fun x => outC x.val))) ∧ Below w.heap.size w W)
  (fun _ _ _ => False)
  (fun st A B row hs hg hr => by
   have hr' : ∀ r, row = some r → ∃ o : Obj, A.heap[r]? = some o ∧ o.isCells = false := fun r e => (hr r e).2
   obtain ⟨⟨i1, i2, i3, i4, i5⟩, ⟨v, i6, i7⟩, i8⟩ := hs
   exact ⟨⟨blk_objs i1 hg hr', blk_objs i2 hg hr', blk_objs i3 hg hr', blk_objs i4 hg hr', blk_objs i5 hg hr'⟩, ⟨v, blk_objs i6 hg hr', R_objs i7 hg hr'⟩, grown_below i8 hg (fun r e => by have := (hr r e).1; omega)⟩)
  (fun _ _ _ _ _ hs _ _ => hs)
  ⟨⟨BA.out, BH.out, BE.out, BP.out, BQ.out⟩, ⟨_, BO.out, Kd.R_nil _ _ _ _ _⟩, HB.out⟩
  (fun x a' W => ∃ g, a' = { tmps := (T0.setIfInBounds 53 (.agg (pairC x.val))).setIfInBounds 14 (.pointer (some ⟨g, 0, none⟩)), defers := [] } ∧ W.heap[g]? = some (.cells (pairC x.val) 125 (0, 0)))
  (fun x a' s A B row hs hg hr => by
   obtain ⟨g, e, hb⟩ := hs
   exact ⟨g, e, blk_objs hb hg (fun r e => (hr r e).2)⟩) ?assign ?body ?done ?stop
 case assign =>
  rintro lr pre ⟨p, hp⟩ W K ⟨⟨i1, i2, i3, i4, i5⟩, ⟨v, i6, i7⟩, i8⟩ hK
  subst hT0
  simp only [sI_, s0_, sS_] at hK
  simp only [encP]
  gi_wp2
  exact hK _ _ ((KeepsOthers.alloc W _).from _) (keep2_below (below_size i8) (blk_lt i4) (blk_lt i5) (below_alloc (Below.refl _ _) _)) ⟨⟨blk_alloc i1 _, blk_alloc i2 _, blk_alloc i3 _, blk_alloc i4 _, blk_alloc i5 _⟩, ⟨v, blk_alloc i6 _, Kd.R_alloc i7 _⟩, below_alloc i8 _⟩ ⟨W.heap.size, rfl, blk_new W _⟩
 case stop =>
  rintro D c pre W _ _ h _
  exact h.elim
 case done =>
  rintro D ys W hD hys ⟨⟨q1, q2, q3, q4, q5⟩, ⟨v, qo, hR⟩, hBW⟩ hDD
  subst hT0
  rw [hys, out_list HEL.out HE.out] at hR
  obtain ⟨Av, cv, ev⟩ := Kd.R_slice hR
  obtain ⟨nv, hnv⟩ : ∃ nv, nv = ((List.range l0.length).map (fun j => outC (rd_T40 l0 (j : Nat), rd_T40 l1 (j : Nat)))).length := ⟨_, rfl⟩
  rw [← hnv] at ev
  subst ev
  clear hnv
  obtain ⟨v, ev⟩ : ∃ v, v = Value.slice Av nv cv := ⟨_, rfl⟩
  rw [← ev] at qo hR
  have hco : W.cell? ⟨go, 0, none⟩ = some (Value.slice Av nv cv) := by rw [← ev]; exact (blk_cell qo 0).trans rfl
  have hca : W.cell? ⟨ga, 0, none⟩ = some (.slice none 0 0) := (blk_cell q1 0).trans rfl
  have hch : W.cell? ⟨gh, 0, none⟩ = some (.int .i64 0) := (blk_cell q2 0).trans rfl
  have hce : W.cell? ⟨ge, 0, none⟩ = some (.int .i64 0) := (blk_cell q3 0).trans rfl
  have hfa := blk_frozen q1 0
  have hfh := blk_frozen q2 0
  have hfe := blk_frozen q3 0
  have nah : ga ≠ gh := blk_ne q1 q2 (by decide)
  have nae : ga ≠ ge := blk_ne q1 q3 (by decide)
  have nhe := NHE.out
  have Q1 := Aside0.mk q1
  have Q2 := Aside0.mk q2
  have Q3 := Aside0.mk q3
  have HRV := Aside0.mk hR
  have HBV := Aside0.mk hBW
  have HDV := Aside0.mk hDD
  have HDL := Aside0.mk (show w.heap.size ≤ D from Nat.le_trans hle hD)
  have NDA := Aside0.mk (show D ≠ ga ∧ D ≠ gh ∧ D ≠ ge from ⟨(fun e => by rw [e, q1] at hDD; cases hDD), (fun e => by rw [e, q2] at hDD; cases hDD), (fun e => by rw [e, q3] at hDD; cases hDD)⟩)
  clear q1 q2 q3 q4 q5 qo hR hBW hDD hys hD
  go_wp2
  rw [← ev]
  obtain ⟨W1, hW1⟩ : ∃ W1, W1 = ((W.setCell ⟨ga, 0, none⟩ v).setCell ⟨gh, 0, none⟩ (.int .i64 (a3 - a2))).setCell ⟨ge, 0, none⟩ (.int .i64 0) := ⟨_, rfl⟩
  rw [← hW1]
  have r1 : W1.heap[ga]? = some (.cells #[v] 31 (0, 0)) := by rw [hW1]; exact blk_far (p := ⟨ge, 0, none⟩) (blk_far (p := ⟨gh, 0, none⟩) (blk_put Q1.out 0 _ rfl) nah _) nae _
  have r2 : W1.heap[gh]? = some (.cells #[.int .i64 (a3 - a2)] 3 (0, 0)) := by rw [hW1]; exact blk_far (p := ⟨ge, 0, none⟩) (blk_put (blk_far (p := ⟨ga, 0, none⟩) Q2.out nah.symm _) 0 _ rfl) nhe _
  have r3 : W1.heap[ge]? = some (.cells #[.int .i64 0] 27 (0, 0)) := by rw [hW1]; exact blk_put (blk_far (p := ⟨gh, 0, none⟩) (blk_far (p := ⟨ga, 0, none⟩) Q3.out nae.symm _) nhe.symm _) 0 _ rfl
  have rD : W1.heap[D]? = some (.deferred (some [])) := by rw [hW1]; exact (Below.heap_setCell _ _ _ _ NDA.out.2.2).trans ((Below.heap_setCell _ _ _ _ NDA.out.2.1).trans ((Below.heap_setCell _ _ _ _ NDA.out.1).trans HDV.out))
  have rB : Below w.heap.size w W1 := by rw [hW1]; exact below_set (below_set (below_set HBV.out GA.out) GH.out) GE.out
  have rR : Kd.R k40 40 W1 w.heap.size (fun _ => True) v ((List.range l0.length).map (fun j => outC (rd_T40 l0 (j : Nat), rd_T40 l1 (j : Nat)))) := by
   rw [hW1]
   exact Kd.R_set (Kd.R_set (Kd.R_set HRV.out Q1.out (by decide) _ _) (blk_far (p := ⟨ga, 0, none⟩) Q2.out nah.symm _) (by decide) _ _) (blk_far (p := ⟨gh, 0, none⟩) (blk_far (p := ⟨ga, 0, none⟩) Q3.out nae.symm _) nhe.symm _) (by decide) _ _
  show bodyPostM _ _ _ _ _ .ret _ _
  refine postM_doneW (D := D) rD (results_3s rfl _ _ ga gh ge v (.int .i64 (a3 - a2)) (.int .i64 0) rfl rfl rfl (fun w => by have hu := Try.underlying31; simp [isAgg, run_underlying hu]) (fun w => by have hu := Try.underlying3; simp [isAgg, run_underlying hu]) (fun w => by have hu := Try.underlying27; simp [isAgg, run_underlying hu])
   ((blk_cell (cells_putW r1 rD rfl rfl _) 0).trans rfl) ((blk_cell (cells_putW r2 rD rfl rfl _) 0).trans rfl) ((blk_cell (cells_putW r3 rD rfl rfl _) 0).trans rfl)) ⟨v, rfl, ?_, ?_⟩
  ·exact R_objs rR (grownBy_putObj' W1 D _) (fun r e => by cases e; exact ⟨_, rD, rfl⟩)
  ·exact rB.trans (belowK_b (w := w) (Nat.le_refl _) _ D _ _ HDL.out rD rfl rfl)
 case body =>
  rintro lr pre ⟨p, hp⟩ a' W _ _ ⟨⟨q1, q2, q3, q4, q5⟩, ⟨v, qo, hR⟩, hBW⟩ ⟨g, rfl, hb⟩ hlen
  subst hT0
  simp only [sI_, s0_, sS_]
  have hp0 := amtB_at hp 0 (by simp) (by simp)
  have hp1 := amtB_at hp 1 (by simp) (by simp)
  have hp2 := amtB_at hp 2 (by simp) (by simp)
  simp [rd, outC] at hp0 hp1 hp2
  have y1 : p.2.f1 - p.1.f1 ≤ 9223372036854775807 := by omega
  have y2 : -9223372036854775808 ≤ p.2.f1 - p.1.f1 := by omega
  have y3 : p.2.f2.f0 - p.1.f1 ≤ 9223372036854775807 := by omega
  have y4 : -9223372036854775808 ≤ p.2.f2.f0 - p.1.f1 := by omega
  have y5 : p.2.f2.f1 - p.1.f1 ≤ 9223372036854775807 := by omega
  have y6 : -9223372036854775808 ≤ p.2.f2.f1 - p.1.f1 := by omega
  have HPA := Aside0.mk (show amtB [p.2.f1 - p.1.f1, p.2.f2.f0 - p.1.f1, p.2.f2.f1 - p.1.f1] = true from hp)
  have BG := Aside0.mk hb
  have Q1 := Aside0.mk q1
  have Q2 := Aside0.mk q2
  have Q3 := Aside0.mk q3
  have Q4 := Aside0.mk q4
  have Q5 := Aside0.mk q5
  have QO := Aside0.mk qo
  obtain ⟨Ao, co, ev⟩ := Kd.R_slice hR
  obtain ⟨no, hno⟩ : ∃ no, no = (pre.map (fun x => outC x.val)).length := ⟨_, rfl⟩
  rw [← hno] at ev
  subst ev
  have HNO := Aside0.mk hno
  clear hno
  have HRV := Aside0.mk hR
  have HBV := Aside0.mk hBW
  have HLN := Aside0.mk (show pre.length ≤ 64 by have := H64.out; omega)
  clear hp0 hp1 hp2 q1 q2 q3 q4 q5 qo hR hBW hb hlen
  gi_wp2_with (fail)
  refine start_R (m := 8) (S := fun w' => w'.cell? ⟨g, 5, none⟩ = some (.int .i64 p.2.f0) ∧ w'.cell? ⟨g, 6, none⟩ = some (.int .i64 p.2.f1) ∧ w'.cell? ⟨g, 7, none⟩ = some (.int .i64 p.2.f2.f0) ∧ w'.cell? ⟨g, 8, none⟩ = some (.int .i64 p.2.f2.f1) ∧ w'.cell? ⟨g, 9, none⟩ = some (.bool p.2.f3) ∧ w'.cell? ⟨g, 1, none⟩ = some (.int .i64 p.1.f1)) (ds := []) (by kernel_rfl) (by rintro ⟨_, _, h⟩; exact h) #[n_, n_, n_, n_, n_, n_, n_, n_] (by kernel_rfl) rfl rfl ⟨(blk_cell (show W.drew.heap[g]? = _ from BG.out) 5).trans rfl, (blk_cell (show W.drew.heap[g]? = _ from BG.out) 6).trans rfl, (blk_cell (show W.drew.heap[g]? = _ from BG.out) 7).trans rfl, (blk_cell (show W.drew.heap[g]? = _ from BG.out) 8).trans rfl, (blk_cell (show W.drew.heap[g]? = _ from BG.out) 9).trans rfl, (blk_cell (show W.drew.heap[g]? = _ from BG.out) 1).trans rfl⟩ (fun hHeld => ?_)
  refine pv_ 0 54 (w_ 8 1) rfl ?_
  refine pv_ 2 56 (w_ 8 5) rfl ?_
  refine pv_ 3 57 (w_ 8 13) rfl ?_
  refine tb_ 1 55 (w_ 8 15) rfl hHeld (by rintro w' ⟨s0, s1, s2, s3, s4, s5⟩; go_simp; with_reducible rfl) ?_
  refine tb_ 4 58 (w_ 8 31) rfl hHeld (by rintro w' ⟨s0, s1, s2, s3, s4, s5⟩; go_simp; with_reducible rfl) ?_
  refine one_ (i := 5) (N := some 15) (w_ 8 63) rfl rfl (by kernel_rfl) (by decide) (fun K hK => ?_)
  refine box_step ?hw (N := 15) ?hd (cs := #[.int .i64 0, .int .i64 0, .int .i64 0, .int .i64 0, .bool false]) (t := 40) ?hr ?_
  (case hw => rfl)
  (case hd => rfl)
  (case hr => first | (go_simp; done) | (go_simp; rfl))
  intro gx hgx w13 hbx_ hb_
  have BX13 := Aside0.mk hbx_
  have BG13 := Aside0.mk (blk_below (show W.drew.heap[g]? = _ from BG.out) hb_)
  have HW13 := Aside0.mk (below_step (below_drew (Below.refl W.heap.size W)) hb_)
  have GX := Aside0.mk (show W.heap.size ≤ gx by rw [hgx]; exact Nat.le_refl _)
  have NGX := Aside0.mk (show g ≠ gx by have := blk_lt BG.out; have := GX.out; omega)
  have hcx0 : w13.cell? ⟨gx, 0, none⟩ = some (.int .i64 0) := (blk_cell hbx_ 0).trans rfl
  have hcx1 : w13.cell? ⟨gx, 1, none⟩ = some (.int .i64 0) := (blk_cell hbx_ 1).trans rfl
  have hcx2 : w13.cell? ⟨gx, 2, none⟩ = some (.int .i64 0) := (blk_cell hbx_ 2).trans rfl
  have hcx3 : w13.cell? ⟨gx, 3, none⟩ = some (.int .i64 0) := (blk_cell hbx_ 3).trans rfl
  have hcx4 : w13.cell? ⟨gx, 4, none⟩ = some (.bool false) := (blk_cell hbx_ 4).trans rfl
  have hfx0 := blk_frozen hbx_ 0
  have hfx1 := blk_frozen hbx_ 1
  have hfx2 := blk_frozen hbx_ 2
  have hfx3 := blk_frozen hbx_ 3
  have hfx4 := blk_frozen hbx_ 4
  clear hgx hbx_ hb_
  refine hK.out _ _ ⟨(blk_cell (BG13.out) 5).trans rfl, (blk_cell (BG13.out) 6).trans rfl, (blk_cell (BG13.out) 7).trans rfl, (blk_cell (BG13.out) 8).trans rfl, (blk_cell (BG13.out) 9).trans rfl, (blk_cell (BG13.out) 1).trans rfl⟩ (fun hHeld => ?_)
  clear hK K
  refine norm_ (a' := ?_) ?_ ?_
  rotate_left
  ·show Act.put _ (some 15) _ = _
   simp only [Act.put, sI_, s0_, sS_, i64_w, i32_w]
   rfl
  refine one_ (i := 6) (N := none) (w_ 8 127) rfl rfl (by kernel_rfl) (by decide) (fun K hK => ?_)
  refine skip_ (w1 := ?_) (by rfl) rfl ?_ ?_
  rotate_left
  ·go_simp
   rfl
  refine hK.out _ _ ⟨(blk_cell (blk_far (p := ⟨gx, 4, none⟩) (blk_far (p := ⟨gx, 3, none⟩) (blk_far (p := ⟨gx, 2, none⟩) (blk_far (p := ⟨gx, 1, none⟩) (blk_far (p := ⟨gx, 0, none⟩) (BG13.out) NGX.out _) NGX.out _) NGX.out _) NGX.out _) NGX.out _) 5).trans rfl, (blk_cell (blk_far (p := ⟨gx, 4, none⟩) (blk_far (p := ⟨gx, 3, none⟩) (blk_far (p := ⟨gx, 2, none⟩) (blk_far (p := ⟨gx, 1, none⟩) (blk_far (p := ⟨gx, 0, none⟩) (BG13.out) NGX.out _) NGX.out _) NGX.out _) NGX.out _) NGX.out _) 6).trans rfl, (blk_cell (blk_far (p := ⟨gx, 4, none⟩) (blk_far (p := ⟨gx, 3, none⟩) (blk_far (p := ⟨gx, 2, none⟩) (blk_far (p := ⟨gx, 1, none⟩) (blk_far (p := ⟨gx, 0, none⟩) (BG13.out) NGX.out _) NGX.out _) NGX.out _) NGX.out _) NGX.out _) 7).trans rfl, (blk_cell (blk_far (p := ⟨gx, 4, none⟩) (blk_far (p := ⟨gx, 3, none⟩) (blk_far (p := ⟨gx, 2, none⟩) (blk_far (p := ⟨gx, 1, none⟩) (blk_far (p := ⟨gx, 0, none⟩) (BG13.out) NGX.out _) NGX.out _) NGX.out _) NGX.out _) NGX.out _) 8).trans rfl, (blk_cell (blk_far (p := ⟨gx, 4, none⟩) (blk_far (p := ⟨gx, 3, none⟩) (blk_far (p := ⟨gx, 2, none⟩) (blk_far (p := ⟨gx, 1, none⟩) (blk_far (p := ⟨gx, 0, none⟩) (BG13.out) NGX.out _) NGX.out _) NGX.out _) NGX.out _) NGX.out _) 9).trans rfl, (blk_cell (blk_far (p := ⟨gx, 4, none⟩) (blk_far (p := ⟨gx, 3, none⟩) (blk_far (p := ⟨gx, 2, none⟩) (blk_far (p := ⟨gx, 1, none⟩) (blk_far (p := ⟨gx, 0, none⟩) (BG13.out) NGX.out _) NGX.out _) NGX.out _) NGX.out _) NGX.out _) 1).trans rfl⟩ (fun hHeld => ?_)
  clear hK K
  refine pv_ 7 16 (w_ 8 255) rfl ?_
  refine done_ (by kernel_rfl) ?_
  obtain ⟨w14, hw14⟩ : ∃ w14, w14 = ((((w13.setCell ⟨gx, 0, none⟩ (.int .i64 p.2.f0)).setCell ⟨gx, 1, none⟩ (.int .i64 p.2.f1)).setCell ⟨gx, 2, none⟩ (.int .i64 p.2.f2.f0)).setCell ⟨gx, 3, none⟩ (.int .i64 p.2.f2.f1)).setCell ⟨gx, 4, none⟩ (.bool p.2.f3) := ⟨_, rfl⟩
  rw [← hw14]
  have BX14 := Aside0.mk (show w14.heap[gx]? = some (.cells #[.int .i64 p.2.f0, .int .i64 p.2.f1, .int .i64 p.2.f2.f0, .int .i64 p.2.f2.f1, .bool p.2.f3] 40 (0, 0)) by rw [hw14]; exact blk_put (blk_put (blk_put (blk_put (blk_put BX13.out 0 _ rfl) 1 _ rfl) 2 _ rfl) 3 _ rfl) 4 _ rfl)
  have HW14 := Aside0.mk (show Below W.heap.size W w14 by rw [hw14]; exact below_set (below_set (below_put3 HW13.out GX.out _ _ _) GX.out) GX.out)
  clear hw14 BX13 HW13 BG13 hcx0 hcx1 hcx2 hcx3 hcx4 hfx0 hfx1 hfx2 hfx3 hfx4
  have hcx1 : w14.cell? ⟨gx, 1, none⟩ = some (.int .i64 p.2.f1) := (blk_cell BX14.out 1).trans rfl
  have hcx2 : w14.cell? ⟨gx, 2, none⟩ = some (.int .i64 p.2.f2.f0) := (blk_cell BX14.out 2).trans rfl
  have hcx3 : w14.cell? ⟨gx, 3, none⟩ = some (.int .i64 p.2.f2.f1) := (blk_cell BX14.out 3).trans rfl
  have hfx1 := blk_frozen BX14.out 1
  have hfx2 := blk_frozen BX14.out 2
  have hfx3 := blk_frozen BX14.out 3
  gi_upto_region 15 with (fail)
  obtain ⟨w15, hw15⟩ : ∃ w15, w15 = ((w14.setCell ⟨gx, 1, none⟩ (.int .i64 (p.2.f1 - p.1.f1))).setCell ⟨gx, 2, none⟩ (.int .i64 (p.2.f2.f0 - p.1.f1))).setCell ⟨gx, 3, none⟩ (.int .i64 (p.2.f2.f1 - p.1.f1)) := ⟨_, rfl⟩
  rw [← hw15]
  have BX := Aside0.mk (show w15.heap[gx]? = some (.cells #[.int .i64 p.2.f0, .int .i64 (p.2.f1 - p.1.f1), .int .i64 (p.2.f2.f0 - p.1.f1), .int .i64 (p.2.f2.f1 - p.1.f1), .bool p.2.f3] 40 (0, 0)) by rw [hw15]; exact blk_put (blk_put (blk_put BX14.out 1 _ rfl) 2 _ rfl) 3 _ rfl)
  have HB := Aside0.mk (show Below W.heap.size W w15 by rw [hw15]; exact below_set (below_set (below_set HW14.out GX.out) GX.out) GX.out)
  clear hw15 BX14 HW14 hcx1 hcx2 hcx3 hfx1 hfx2 hfx3
  have hcx1 : w15.cell? ⟨gx, 1, none⟩ = some (.int .i64 (p.2.f1 - p.1.f1)) := (blk_cell BX.out 1).trans rfl
  have hcx2 : w15.cell? ⟨gx, 2, none⟩ = some (.int .i64 (p.2.f2.f0 - p.1.f1)) := (blk_cell BX.out 2).trans rfl
  have hcx3 : w15.cell? ⟨gx, 3, none⟩ = some (.int .i64 (p.2.f2.f1 - p.1.f1)) := (blk_cell BX.out 3).trans rfl
  refine round_region (by kernel_rfl) (by rintro ⟨_, _, h⟩; exact h) ?_
  go_wp2_with (first | ((with_reducible refine gate_dst (N := 86) rfl ?_); (try (refine gate_guard (by rfl) ?_; dsimp only)); refine Kd.R_lit (Kd.int .i64) _ 3 ?hg (N := 86) ?hd (xs := [p.2.f1 - p.1.f1, p.2.f2.f0 - p.1.f1, p.2.f2.f1 - p.1.f1]) (inner := [.int .i64 (p.2.f1 - p.1.f1), .int .i64 (p.2.f2.f0 - p.1.f1), .int .i64 (p.2.f2.f1 - p.1.f1)]) (ok := fun _ => True) (okp := fun _ => True) ?hr ?hp (fun _ hk => hk) trivial (Below.refl _ _) (Nat.le_refl _) (by simp) ?_; (case hd => rfl); (case hg => rfl); (case hr => first | (go_simp; done) | (go_simp; rfl)); (case hp => exact (Reps.one (show Kd.M (Kd.int .i64) _ _ _ (p.2.f1 - p.1.f1) [.int .i64 (p.2.f1 - p.1.f1)] from rfl) (Reps.one (show Kd.M (Kd.int .i64) _ _ _ (p.2.f2.f0 - p.1.f1) [.int .i64 (p.2.f2.f0 - p.1.f1)] from rfl) (Reps.one (show Kd.M (Kd.int .i64) _ _ _ (p.2.f2.f1 - p.1.f1) [.int .i64 (p.2.f2.f1 - p.1.f1)] from rfl) (Reps.none _ _))))); intro v86 w16 ho_ hb_ hg_ hnew_; obtain ⟨A86, c86, rfl⟩ := Kd.R_slice ho_; have HO86 := Aside0.mk ho_; clear ho_ hg_ hnew_; have n0_ := Aside0.mk (below_step HB.out hb_); have BX := Aside0.mk (blk_below BX.out hb_); clear HB hb_; have HB := n0_; clear n0_) | (go_at_call 70; (with_reducible refine (isAmount_callsN 3 A86 c86 [p.2.f1 - p.1.f1, p.2.f2.f0 - p.1.f1, p.2.f2.f1 - p.1.f1] rfl _ (Kd.R_reads' HO86.out).2.2 (by simp) HPA.out).mono ?_); rintro e w17 ⟨rfl, hb_⟩; have n0_ := Aside0.mk (below_step HB.out hb_); have BX := Aside0.mk (blk_below BX.out hb_); clear HB hb_; have HB := n0_; clear n0_))
  have BX17 := BX
  have HW17 := HB
  have BO17 := Aside0.mk (blk_below QO.out HW17.out)
  have HR17 := Aside0.mk (Kd.R_below HRV.out HW17.out)
  have HBW := Aside0.mk (below_step HBV.out HW17.out)
  have hcx0 : w17.cell? ⟨gx, 0, none⟩ = some (.int .i64 p.2.f0) := (blk_cell BX17.out 0).trans rfl
  have hcx1 : w17.cell? ⟨gx, 1, none⟩ = some (.int .i64 (p.2.f1 - p.1.f1)) := (blk_cell BX17.out 1).trans rfl
  have hcx2 : w17.cell? ⟨gx, 2, none⟩ = some (.int .i64 (p.2.f2.f0 - p.1.f1)) := (blk_cell BX17.out 2).trans rfl
  have hcx3 : w17.cell? ⟨gx, 3, none⟩ = some (.int .i64 (p.2.f2.f1 - p.1.f1)) := (blk_cell BX17.out 3).trans rfl
  have hcx4 : w17.cell? ⟨gx, 4, none⟩ = some (.bool p.2.f3) := (blk_cell BX17.out 4).trans rfl
  have hco : w17.cell? ⟨go, 0, none⟩ = some (.slice Ao no co) := (blk_cell BO17.out 0).trans rfl
  clear BX HB
  gi_upto_region 17 with (fail)
  refine round_region (by kernel_rfl) (by rintro ⟨_, _, h⟩; exact h) ?_
  go_wp2_with (first | ((with_reducible refine gate_builtin (b := .append) (xs := #[.tmp 89, .tmp 91]) rfl ?_); at_builtin; refine Kd.R_append k40 (w0 := w) w.heap.size rfl (.tmp 89) (.tmp 91) 31 40 (.agg #[.int .i64 0, .int .i64 0, .int .i64 0, .int .i64 0, .bool false]) 40 rfl Try.underlying31 info40 rfl (by decide) (by omega) (.slice Ao no co) (pre.map (fun x => outC x.val)) (outC p) [.int .i64 p.2.f0, .int .i64 (p.2.f1 - p.1.f1), .int .i64 (p.2.f2.f0 - p.1.f1), .int .i64 (p.2.f2.f1 - p.1.f1), .bool p.2.f3] (fun _ => True) (fun _ => False) rfl rfl (k40_mkM _ _ _ (outC p)) (fun _ hk => hk.elim) (fun _ _ => trivial) HR17.out HBW.out (below_size HBW.out) (by rw [List.length_map]; have := HLN.out; omega) ?_; intro v9 w18 ho_ hb_ hg_ hat_; obtain ⟨A9, c9, e9_⟩ := Kd.R_slice ho_; obtain ⟨n9, hn9_⟩ : ∃ n9, n9 = (pre.map (fun x => outC x.val) ++ [outC p]).length := ⟨_, rfl⟩; rw [← hn9_] at e9_; subst e9_; clear hn9_; have HR18 := Aside0.mk ho_; have HG18 := Aside0.mk hg_; have BO18 := Aside0.mk (blk_grown BO17.out hg_ (Kd.R_ne HR17.out BO17.out (by decide))); have hco8 : w18.cell? ⟨go, 0, none⟩ = some (.slice Ao no co) := (blk_cell BO18.out 0).trans rfl; have hfo8 := blk_frozen BO18.out 0; clear ho_ hb_ hg_ hat_))
  obtain ⟨v9, hv9⟩ : ∃ v9, v9 = Value.slice A9 n9 c9 := ⟨_, rfl⟩
  rw [← hv9] at HR18 ⊢
  have hkf : KeepsOthers W (w18.setCell ⟨go, 0, none⟩ v9) := (KeepsOthers.of_grownBy (grown_of_below HW17.out none) (by simp)).trans ((KeepsOthers.of_grownBy HG18.out (R_row_cells HR17.out)).trans (KeepsOthers.setCell _ _ _))
  have k1 := blk_far (p := ⟨go, 0, none⟩) (blk_grown (blk_below Q1.out HW17.out) HG18.out (Kd.R_ne HR17.out (blk_below Q1.out HW17.out) (by decide))) NO.out.1.symm v9
  have k2 := blk_far (p := ⟨go, 0, none⟩) (blk_grown (blk_below Q2.out HW17.out) HG18.out (Kd.R_ne HR17.out (blk_below Q2.out HW17.out) (by decide))) (blk_ne Q2.out QO.out (by decide)) v9
  have k3 := blk_far (p := ⟨go, 0, none⟩) (blk_grown (blk_below Q3.out HW17.out) HG18.out (Kd.R_ne HR17.out (blk_below Q3.out HW17.out) (by decide))) (blk_ne Q3.out QO.out (by decide)) v9
  have k4 := blk_far (p := ⟨go, 0, none⟩) (blk_grown (blk_below Q4.out HW17.out) HG18.out (Kd.R_ne HR17.out (blk_below Q4.out HW17.out) (by decide))) NO.out.2.1.symm v9
  have k5 := blk_far (p := ⟨go, 0, none⟩) (blk_grown (blk_below Q5.out HW17.out) HG18.out (Kd.R_ne HR17.out (blk_below Q5.out HW17.out) (by decide))) NO.out.2.2.symm v9
  have kb : Below w.heap.size W (w18.setCell ⟨go, 0, none⟩ v9) := ((HW17.out.mono (below_size HBV.out)).grown HG18.out (below_size HBW.out) (fun k e => by
   rcases Kd.R_base2 HR17.out with e0 | ⟨k', e1, hk'⟩
   ·rw [e0] at e; cases e
   ·rw [e1] at e; cases e; exact hk')).setCell (p := ⟨go, 0, none⟩) GO.out _
  refine ⟨hkf.from _, ⟨kb, k4.trans Q4.out.symm, k5.trans Q5.out.symm⟩, ⟨k1, k2, k3, k4, k5⟩, ⟨v9, blk_put BO18.out 0 _ rfl, ?_⟩, HBV.out.trans kb⟩
  rw [List.map_append]
  exact Kd.R_set HR18.out BO18.out (by decide) 0 v9
def settle_Settle.f (l0 l1 : List S40) (a2 a3 : Int) : Option (List S40 × Int × Int) := if settleB l0 l1 a2 a3 = true then some ((List.range l0.length).map (fun j => outC (rd_T40 l0 (j : Nat), rd_T40 l1 (j : Nat))), a3 - a2, 0) else none
theorem settle_Settle.calls (A0 : Option Addr) (c0 : Nat) (l0 : List (S40)) (A1 : Option Addr) (c1 : Nat) (l1 : List (S40)) (a2 a3 : Int) (r1 : List (S40)) (r2 r3 : Int) (w : World) (hr0 : Kd.C k40 w A0 l0.length l0) (hc0 : l0.length ≤ c0) (hr1 : Kd.C k40 w A1 l1.length l1) (hc1 : l1.length ≤ c1) (h : settle_Settle.f l0 l1 a2 a3 = some (r1, r2, r3)) :
  Calls Try.prog 52 #[.slice A0 l0.length c0, .slice A1 l1.length c1, .int .i64 a2, .int .i64 a3] w fun e w' => ∃ v0_ : Value, e = .returned (.tuple #[v0_, .int .i64 r2, .int .i64 r3]) ∧ Kd.R k40 40 w' w.heap.size (fun _ => True) v0_ r1 ∧ Below w.heap.size w w' := by
 unfold settle_Settle.f at h
 by_cases hf : settleB l0 l1 a2 a3 = true
 case neg => rw [if_neg hf] at h; cases h
 rw [if_pos hf] at h
 simp only [Option.some.injEq, Prod.mk.injEq] at h
 obtain ⟨rfl, rfl, rfl⟩ := h
 exact settle_calls a2 a3 A0 A1 c0 c1 l0 l1 w hr0 hc0 hr1 hc1 hf
end
section
attribute [local go_sem high] eqA40
def cohousingtop_w17Pipes.f  : Option (Bool) := (some (([(⟨1, 0, 2⟩ : S63), (⟨2, 1, 0⟩ : S63), (⟨3, 1, 0⟩ : S63)] : List (S63)) : List (S63))).bind fun y514 => ((charges_Network.f 100 y514 (([(⟨10, 10⟩ : S38), (⟨3, 5⟩ : S38), (⟨0, 100⟩ : S38)] : List (S38))) (([4, 7] : List Int))).bind fun bt523 => ((charges_Network.f 100 y514 (([(⟨10, 10⟩ : S38), (⟨5, 5⟩ : S38), (⟨0, 100⟩ : S38)] : List (S38))) (([4, 7] : List Int))).bind fun bt534 => ((settle_Settle.f bt523.1 bt534.1 bt523.2.1 bt534.2.1).bind fun bt539 => (if bt523.2.2 = 0 then (if bt534.2.2 = 0 then (if bt539.2.2 = 0 then (if bt523.2.1 = 10 then (if bt534.2.1 = 10 then (if bt539.2.1 = 0 then (if (bt539.1.length : Int) = 2 then (if 0 < (bt539.1.length : Int) then (if (((rd_T40 bt539.1 0).f0) == 4 && (((rd_T40 bt539.1 0).f1) == 10 && ((((rd_T40 bt539.1 0).f2.f0) == 10 && (((rd_T40 bt539.1 0).f2.f1) == 10)) && (((rd_T40 bt539.1 0).f3))))) = true then (if 1 < (bt539.1.length : Int) then (some (((rd_T40 bt539.1 1).f0) == 7 && (((rd_T40 bt539.1 1).f1) == (-10) && ((((rd_T40 bt539.1 1).f2.f0) == (-20) && (((rd_T40 bt539.1 1).f2.f1) == 0)) && (!((rd_T40 bt539.1 1).f3)))))) else (none)) else (some false)) else (none)) else (some false)) else (some false)) else (some false)) else (some false)) else (some false)) else (some false)) else (some false)))))
theorem cohousingtop_w17Pipes.yes : ∀ r, cohousingtop_w17Pipes.f = some r → r = true := fun r h => by
 rw [show cohousingtop_w17Pipes.f = some true by kernel_rfl] at h
 exact (Option.some.inj h).symm
theorem cohousingtop_w17Pipes.calls  (r : Bool) (w : World) (h : cohousingtop_w17Pipes.f  = some r) :
  Calls Try.prog 27 #[] w fun e w' => e = .returned (.bool r) ∧ Below w.heap.size w w' := by
 have hr_ := cohousingtop_w17Pipes.yes r h
 subst hr_
 have hu63 := Try.underlying63
 have hu38 := Try.underlying38
 have hu40 := Try.underlying40
 have HB := Aside0.mk (Below.refl w.heap.size w)
 have H : ((some (([(⟨1, 0, 2⟩ : S63), (⟨2, 1, 0⟩ : S63), (⟨3, 1, 0⟩ : S63)] : List (S63)) : List (S63))).bind fun y514 => ((charges_Network.f 100 y514 (([(⟨10, 10⟩ : S38), (⟨3, 5⟩ : S38), (⟨0, 100⟩ : S38)] : List (S38))) (([4, 7] : List Int))).bind fun bt523 => ((charges_Network.f 100 y514 (([(⟨10, 10⟩ : S38), (⟨5, 5⟩ : S38), (⟨0, 100⟩ : S38)] : List (S38))) (([4, 7] : List Int))).bind fun bt534 => ((settle_Settle.f bt523.1 bt534.1 bt523.2.1 bt534.2.1).bind fun bt539 => (if bt523.2.2 = 0 then (if bt534.2.2 = 0 then (if bt539.2.2 = 0 then (if bt523.2.1 = 10 then (if bt534.2.1 = 10 then (if bt539.2.1 = 0 then (if (bt539.1.length : Int) = 2 then (if 0 < (bt539.1.length : Int) then (if (((rd_T40 bt539.1 0).f0) == 4 && (((rd_T40 bt539.1 0).f1) == 10 && ((((rd_T40 bt539.1 0).f2.f0) == 10 && (((rd_T40 bt539.1 0).f2.f1) == 10)) && (((rd_T40 bt539.1 0).f3))))) = true then (if 1 < (bt539.1.length : Int) then (some (((rd_T40 bt539.1 1).f0) == 7 && (((rd_T40 bt539.1 1).f1) == (-10) && ((((rd_T40 bt539.1 1).f2.f0) == (-20) && (((rd_T40 bt539.1 1).f2.f1) == 0)) && (!((rd_T40 bt539.1 1).f3)))))) else (none)) else (some false)) else (none)) else (some false)) else (some false)) else (some false)) else (some false)) else (some false)) else (some false)) else (some false)))))) = some true := h
 clear h
 obtain ⟨y514, hy514⟩ : ∃ y_ : List (S63), y_ = (([(⟨1, 0, 2⟩ : S63), (⟨2, 1, 0⟩ : S63), (⟨3, 1, 0⟩ : S63)] : List (S63))) := ⟨_, rfl⟩
 replace H : ((charges_Network.f 100 y514 (([(⟨10, 10⟩ : S38), (⟨3, 5⟩ : S38), (⟨0, 100⟩ : S38)] : List (S38))) (([4, 7] : List Int))).bind fun bt523 => ((charges_Network.f 100 y514 (([(⟨10, 10⟩ : S38), (⟨5, 5⟩ : S38), (⟨0, 100⟩ : S38)] : List (S38))) (([4, 7] : List Int))).bind fun bt534 => ((settle_Settle.f bt523.1 bt534.1 bt523.2.1 bt534.2.1).bind fun bt539 => (if bt523.2.2 = 0 then (if bt534.2.2 = 0 then (if bt539.2.2 = 0 then (if bt523.2.1 = 10 then (if bt534.2.1 = 10 then (if bt539.2.1 = 0 then (if (bt539.1.length : Int) = 2 then (if 0 < (bt539.1.length : Int) then (if (((rd_T40 bt539.1 0).f0) == 4 && (((rd_T40 bt539.1 0).f1) == 10 && ((((rd_T40 bt539.1 0).f2.f0) == 10 && (((rd_T40 bt539.1 0).f2.f1) == 10)) && (((rd_T40 bt539.1 0).f3))))) = true then (if 1 < (bt539.1.length : Int) then (some (((rd_T40 bt539.1 1).f0) == 7 && (((rd_T40 bt539.1 1).f1) == (-10) && ((((rd_T40 bt539.1 1).f2.f0) == (-20) && (((rd_T40 bt539.1 1).f2.f1) == 0)) && (!((rd_T40 bt539.1 1).f3)))))) else (none)) else (some false)) else (none)) else (some false)) else (some false)) else (some false)) else (some false)) else (some false)) else (some false)) else (some false))))) = some true := by first | (rw [hy514]; with_reducible exact H) | (have H2_ := (Option.bind_some _ _).symm.trans H; rw [hy514]; with_reducible exact H2_) | (have H2_ := (Option.bind_some _ _).symm.trans H; with_reducible exact H2_) | with_reducible exact H | (rw [hy514]; exact H) | exact H
 have Ny514 := Aside0.mk hy514
 clear hy514
 obtain ⟨y517, hy517⟩ : ∃ y_ : List (S38), y_ = (([(⟨10, 10⟩ : S38), (⟨3, 5⟩ : S38), (⟨0, 100⟩ : S38)] : List (S38))) := ⟨_, rfl⟩
 replace H : ((charges_Network.f 100 y514 y517 (([4, 7] : List Int))).bind fun bt523 => ((charges_Network.f 100 y514 (([(⟨10, 10⟩ : S38), (⟨5, 5⟩ : S38), (⟨0, 100⟩ : S38)] : List (S38))) (([4, 7] : List Int))).bind fun bt534 => ((settle_Settle.f bt523.1 bt534.1 bt523.2.1 bt534.2.1).bind fun bt539 => (if bt523.2.2 = 0 then (if bt534.2.2 = 0 then (if bt539.2.2 = 0 then (if bt523.2.1 = 10 then (if bt534.2.1 = 10 then (if bt539.2.1 = 0 then (if (bt539.1.length : Int) = 2 then (if 0 < (bt539.1.length : Int) then (if (((rd_T40 bt539.1 0).f0) == 4 && (((rd_T40 bt539.1 0).f1) == 10 && ((((rd_T40 bt539.1 0).f2.f0) == 10 && (((rd_T40 bt539.1 0).f2.f1) == 10)) && (((rd_T40 bt539.1 0).f3))))) = true then (if 1 < (bt539.1.length : Int) then (some (((rd_T40 bt539.1 1).f0) == 7 && (((rd_T40 bt539.1 1).f1) == (-10) && ((((rd_T40 bt539.1 1).f2.f0) == (-20) && (((rd_T40 bt539.1 1).f2.f1) == 0)) && (!((rd_T40 bt539.1 1).f3)))))) else (none)) else (some false)) else (none)) else (some false)) else (some false)) else (some false)) else (some false)) else (some false)) else (some false)) else (some false))))) = some true := by first | (rw [hy517]; with_reducible exact H) | (have H2_ := (Option.bind_some _ _).symm.trans H; rw [hy517]; with_reducible exact H2_) | (have H2_ := (Option.bind_some _ _).symm.trans H; with_reducible exact H2_) | with_reducible exact H | (rw [hy517]; exact H) | exact H
 have Ny517 := Aside0.mk hy517
 clear hy517
 obtain ⟨y520, hy520⟩ : ∃ y_ : List Int, y_ = (([4, 7] : List Int)) := ⟨_, rfl⟩
 replace H : ((charges_Network.f 100 y514 y517 y520).bind fun bt523 => ((charges_Network.f 100 y514 (([(⟨10, 10⟩ : S38), (⟨5, 5⟩ : S38), (⟨0, 100⟩ : S38)] : List (S38))) (([4, 7] : List Int))).bind fun bt534 => ((settle_Settle.f bt523.1 bt534.1 bt523.2.1 bt534.2.1).bind fun bt539 => (if bt523.2.2 = 0 then (if bt534.2.2 = 0 then (if bt539.2.2 = 0 then (if bt523.2.1 = 10 then (if bt534.2.1 = 10 then (if bt539.2.1 = 0 then (if (bt539.1.length : Int) = 2 then (if 0 < (bt539.1.length : Int) then (if (((rd_T40 bt539.1 0).f0) == 4 && (((rd_T40 bt539.1 0).f1) == 10 && ((((rd_T40 bt539.1 0).f2.f0) == 10 && (((rd_T40 bt539.1 0).f2.f1) == 10)) && (((rd_T40 bt539.1 0).f3))))) = true then (if 1 < (bt539.1.length : Int) then (some (((rd_T40 bt539.1 1).f0) == 7 && (((rd_T40 bt539.1 1).f1) == (-10) && ((((rd_T40 bt539.1 1).f2.f0) == (-20) && (((rd_T40 bt539.1 1).f2.f1) == 0)) && (!((rd_T40 bt539.1 1).f3)))))) else (none)) else (some false)) else (none)) else (some false)) else (some false)) else (some false)) else (some false)) else (some false)) else (some false)) else (some false))))) = some true := by first | (rw [hy520]; with_reducible exact H) | (have H2_ := (Option.bind_some _ _).symm.trans H; rw [hy520]; with_reducible exact H2_) | (have H2_ := (Option.bind_some _ _).symm.trans H; with_reducible exact H2_) | with_reducible exact H | (rw [hy520]; exact H) | exact H
 have Ny520 := Aside0.mk hy520
 clear hy520
 replace H := Option.bind_eq_some_iff.mp H
 obtain ⟨⟨t523, t524, t525⟩, A10, H⟩ := H
 replace H : ((charges_Network.f 100 y514 (([(⟨10, 10⟩ : S38), (⟨5, 5⟩ : S38), (⟨0, 100⟩ : S38)] : List (S38))) (([4, 7] : List Int))).bind fun bt534 => ((settle_Settle.f t523 bt534.1 t524 bt534.2.1).bind fun bt539 => (if t525 = 0 then (if bt534.2.2 = 0 then (if bt539.2.2 = 0 then (if t524 = 10 then (if bt534.2.1 = 10 then (if bt539.2.1 = 0 then (if (bt539.1.length : Int) = 2 then (if 0 < (bt539.1.length : Int) then (if (((rd_T40 bt539.1 0).f0) == 4 && (((rd_T40 bt539.1 0).f1) == 10 && ((((rd_T40 bt539.1 0).f2.f0) == 10 && (((rd_T40 bt539.1 0).f2.f1) == 10)) && (((rd_T40 bt539.1 0).f3))))) = true then (if 1 < (bt539.1.length : Int) then (some (((rd_T40 bt539.1 1).f0) == 7 && (((rd_T40 bt539.1 1).f1) == (-10) && ((((rd_T40 bt539.1 1).f2.f0) == (-20) && (((rd_T40 bt539.1 1).f2.f1) == 0)) && (!((rd_T40 bt539.1 1).f3)))))) else (none)) else (some false)) else (none)) else (some false)) else (some false)) else (some false)) else (some false)) else (some false)) else (some false)) else (some false)))) = some true := H
 have A1 := Aside0.mk A10
 clear A10
 obtain ⟨y528, hy528⟩ : ∃ y_ : List (S38), y_ = (([(⟨10, 10⟩ : S38), (⟨5, 5⟩ : S38), (⟨0, 100⟩ : S38)] : List (S38))) := ⟨_, rfl⟩
 replace H : ((charges_Network.f 100 y514 y528 (([4, 7] : List Int))).bind fun bt534 => ((settle_Settle.f t523 bt534.1 t524 bt534.2.1).bind fun bt539 => (if t525 = 0 then (if bt534.2.2 = 0 then (if bt539.2.2 = 0 then (if t524 = 10 then (if bt534.2.1 = 10 then (if bt539.2.1 = 0 then (if (bt539.1.length : Int) = 2 then (if 0 < (bt539.1.length : Int) then (if (((rd_T40 bt539.1 0).f0) == 4 && (((rd_T40 bt539.1 0).f1) == 10 && ((((rd_T40 bt539.1 0).f2.f0) == 10 && (((rd_T40 bt539.1 0).f2.f1) == 10)) && (((rd_T40 bt539.1 0).f3))))) = true then (if 1 < (bt539.1.length : Int) then (some (((rd_T40 bt539.1 1).f0) == 7 && (((rd_T40 bt539.1 1).f1) == (-10) && ((((rd_T40 bt539.1 1).f2.f0) == (-20) && (((rd_T40 bt539.1 1).f2.f1) == 0)) && (!((rd_T40 bt539.1 1).f3)))))) else (none)) else (some false)) else (none)) else (some false)) else (some false)) else (some false)) else (some false)) else (some false)) else (some false)) else (some false)))) = some true := by first | (rw [hy528]; with_reducible exact H) | (have H2_ := (Option.bind_some _ _).symm.trans H; rw [hy528]; with_reducible exact H2_) | (have H2_ := (Option.bind_some _ _).symm.trans H; with_reducible exact H2_) | with_reducible exact H | (rw [hy528]; exact H) | exact H
 have Ny528 := Aside0.mk hy528
 clear hy528
 obtain ⟨y531, hy531⟩ : ∃ y_ : List Int, y_ = (([4, 7] : List Int)) := ⟨_, rfl⟩
 replace H : ((charges_Network.f 100 y514 y528 y531).bind fun bt534 => ((settle_Settle.f t523 bt534.1 t524 bt534.2.1).bind fun bt539 => (if t525 = 0 then (if bt534.2.2 = 0 then (if bt539.2.2 = 0 then (if t524 = 10 then (if bt534.2.1 = 10 then (if bt539.2.1 = 0 then (if (bt539.1.length : Int) = 2 then (if 0 < (bt539.1.length : Int) then (if (((rd_T40 bt539.1 0).f0) == 4 && (((rd_T40 bt539.1 0).f1) == 10 && ((((rd_T40 bt539.1 0).f2.f0) == 10 && (((rd_T40 bt539.1 0).f2.f1) == 10)) && (((rd_T40 bt539.1 0).f3))))) = true then (if 1 < (bt539.1.length : Int) then (some (((rd_T40 bt539.1 1).f0) == 7 && (((rd_T40 bt539.1 1).f1) == (-10) && ((((rd_T40 bt539.1 1).f2.f0) == (-20) && (((rd_T40 bt539.1 1).f2.f1) == 0)) && (!((rd_T40 bt539.1 1).f3)))))) else (none)) else (some false)) else (none)) else (some false)) else (some false)) else (some false)) else (some false)) else (some false)) else (some false)) else (some false)))) = some true := by first | (rw [hy531]; with_reducible exact H) | (have H2_ := (Option.bind_some _ _).symm.trans H; rw [hy531]; with_reducible exact H2_) | (have H2_ := (Option.bind_some _ _).symm.trans H; with_reducible exact H2_) | with_reducible exact H | (rw [hy531]; exact H) | exact H
 have Ny531 := Aside0.mk hy531
 clear hy531
 replace H := Option.bind_eq_some_iff.mp H
 obtain ⟨⟨t534, t535, t536⟩, A20, H⟩ := H
 replace H : ((settle_Settle.f t523 t534 t524 t535).bind fun bt539 => (if t525 = 0 then (if t536 = 0 then (if bt539.2.2 = 0 then (if t524 = 10 then (if t535 = 10 then (if bt539.2.1 = 0 then (if (bt539.1.length : Int) = 2 then (if 0 < (bt539.1.length : Int) then (if (((rd_T40 bt539.1 0).f0) == 4 && (((rd_T40 bt539.1 0).f1) == 10 && ((((rd_T40 bt539.1 0).f2.f0) == 10 && (((rd_T40 bt539.1 0).f2.f1) == 10)) && (((rd_T40 bt539.1 0).f3))))) = true then (if 1 < (bt539.1.length : Int) then (some (((rd_T40 bt539.1 1).f0) == 7 && (((rd_T40 bt539.1 1).f1) == (-10) && ((((rd_T40 bt539.1 1).f2.f0) == (-20) && (((rd_T40 bt539.1 1).f2.f1) == 0)) && (!((rd_T40 bt539.1 1).f3)))))) else (none)) else (some false)) else (none)) else (some false)) else (some false)) else (some false)) else (some false)) else (some false)) else (some false)) else (some false))) = some true := H
 have A2 := Aside0.mk A20
 clear A20
 replace H := Option.bind_eq_some_iff.mp H
 obtain ⟨⟨t539, t540, t541⟩, A30, H⟩ := H
 replace H : (if t525 = 0 then (if t536 = 0 then (if t541 = 0 then (if t524 = 10 then (if t535 = 10 then (if t540 = 0 then (if (t539.length : Int) = 2 then (if 0 < (t539.length : Int) then (if (((rd_T40 t539 0).f0) == 4 && (((rd_T40 t539 0).f1) == 10 && ((((rd_T40 t539 0).f2.f0) == 10 && (((rd_T40 t539 0).f2.f1) == 10)) && (((rd_T40 t539 0).f3))))) = true then (if 1 < (t539.length : Int) then (some (((rd_T40 t539 1).f0) == 7 && (((rd_T40 t539 1).f1) == (-10) && ((((rd_T40 t539 1).f2.f0) == (-20) && (((rd_T40 t539 1).f2.f1) == 0)) && (!((rd_T40 t539 1).f3)))))) else (none)) else (some false)) else (none)) else (some false)) else (some false)) else (some false)) else (some false)) else (some false)) else (some false)) else (some false)) = some true := H
 have A3 := Aside0.mk A30
 clear A30
 by_cases c4 : t525 = 0
 ·rw [if_pos c4] at H
  have c4b0 : (t525 == 0) = true := beq_iff_eq.mpr c4
  have c4b1 : (t525 != 0) = false := bne_eq_false_iff_eq.mpr c4
  clear c4
  by_cases c5 : t536 = 0
  ·rw [if_pos c5] at H
   have c5b0 : (t536 == 0) = true := beq_iff_eq.mpr c5
   have c5b1 : (t536 != 0) = false := bne_eq_false_iff_eq.mpr c5
   clear c5
   by_cases c6 : t541 = 0
   ·rw [if_pos c6] at H
    have c6b0 : (t541 == 0) = true := beq_iff_eq.mpr c6
    have c6b1 : (t541 != 0) = false := bne_eq_false_iff_eq.mpr c6
    clear c6
    by_cases c7 : t524 = 10
    ·rw [if_pos c7] at H
     have c7b0 : (t524 == 10) = true := beq_iff_eq.mpr c7
     have c7b1 : (t524 != 10) = false := bne_eq_false_iff_eq.mpr c7
     clear c7
     by_cases c8 : t535 = 10
     ·rw [if_pos c8] at H
      have c8b0 : (t535 == 10) = true := beq_iff_eq.mpr c8
      have c8b1 : (t535 != 10) = false := bne_eq_false_iff_eq.mpr c8
      clear c8
      by_cases c9 : t540 = 0
      ·rw [if_pos c9] at H
       have c9b0 : (t540 == 0) = true := beq_iff_eq.mpr c9
       have c9b1 : (t540 != 0) = false := bne_eq_false_iff_eq.mpr c9
       clear c9
       by_cases c10 : (t539.length : Int) = 2
       ·rw [if_pos c10] at H
        have c10b0 : ((t539.length : Int) == 2) = true := beq_iff_eq.mpr c10
        have c10b1 : ((t539.length : Int) != 2) = false := bne_eq_false_iff_eq.mpr c10
        clear c10
        by_cases c11 : 0 < (t539.length : Int)
        ·rw [if_pos c11] at H
         have c11b0 : decide (0 < (t539.length : Int)) = true := decide_eq_true c11
         have c11b1 : decide (0 < t539.length) = true := decide_eq_true (by omega)
         clear c11
         by_cases c12 : (((rd_T40 t539 0).f0) == 4 && (((rd_T40 t539 0).f1) == 10 && ((((rd_T40 t539 0).f2.f0) == 10 && (((rd_T40 t539 0).f2.f1) == 10)) && (((rd_T40 t539 0).f3))))) = true
         ·rw [if_pos c12] at H
          have c12b0 : (((rd_T40 t539 0).f0) == 4 && (((rd_T40 t539 0).f1) == 10 && ((((rd_T40 t539 0).f2.f0) == 10 && (((rd_T40 t539 0).f2.f1) == 10)) && (((rd_T40 t539 0).f3))))) = true := c12
          (try (have c12b1 : decide (((rd_T40 t539 0).f0) = 4 && (((rd_T40 t539 0).f1) == 10 && ((((rd_T40 t539 0).f2.f0) == 10 && (((rd_T40 t539 0).f2.f1) == 10)) && (((rd_T40 t539 0).f3))))) = true := by simpa using c12))
          (try (have c12b2 : (((rd_T40 t539 0).f0) == 4 && (((rd_T40 t539 0).f1) == 10 && ((((rd_T40 t539 0).f2.f0) == 10 && (((rd_T40 t539 0).f2.f1) == 10)) && (((rd_T40 t539 0).f3))))) = true := by simpa using c12))
          clear c12
          by_cases c13 : 1 < (t539.length : Int)
          ·rw [if_pos c13] at H
           have c13b0 : decide (1 < (t539.length : Int)) = true := decide_eq_true c13
           have c13b1 : decide (1 < t539.length) = true := decide_eq_true (by omega)
           clear c13
           have hfin_ := Option.some.inj H
           go_enter Try.func27, Try.ntmps27
           go_wp2_with (first | ((with_reducible refine gate_dst (N := 14) rfl ?_); (try (refine gate_guard (by rfl) ?_; dsimp only)); refine Kd.R_lit k63 _ 63 ?hg (N := 14) ?hd (xs := ([(⟨1, 0, 2⟩ : S63), (⟨2, 1, 0⟩ : S63), (⟨3, 1, 0⟩ : S63)] : List (S63))) (inner := [.int .i64 1, .int .i64 0, .int .i64 2, .int .i64 2, .int .i64 1, .int .i64 0, .int .i64 3, .int .i64 1, .int .i64 0]) (ok := fun _ => True) (okp := fun _ => True) ?hr ?hp (fun _ hk => hk) trivial (Below.refl _ _) (Nat.le_refl _) (by simp) ?_; (case hd => rfl); (case hg => rfl); (case hr => first | (go_simp; done) | (go_simp; rfl)); (case hp => exact (Reps.c3 (show Kd.M k63 _ _ _ (⟨1, 0, 2⟩ : S63) [.int .i64 1, .int .i64 0, .int .i64 2] from (k63_mkM _ _ _ (⟨1, 0, 2⟩ : S63) )) (Reps.c3 (show Kd.M k63 _ _ _ (⟨2, 1, 0⟩ : S63) [.int .i64 2, .int .i64 1, .int .i64 0] from (k63_mkM _ _ _ (⟨2, 1, 0⟩ : S63) )) (Reps.c3 (show Kd.M k63 _ _ _ (⟨3, 1, 0⟩ : S63) [.int .i64 3, .int .i64 1, .int .i64 0] from (k63_mkM _ _ _ (⟨3, 1, 0⟩ : S63) )) (Reps.none _ _))))); intro v515 w14 ho15 hb hg_ hnew_; clear hg_ hnew_; (first | rw [← Ny514.out] at ho15 | (simp only [Int.reduceToNat] at ho15; rw [← Ny514.out] at ho15)); have n0_ := Aside0.mk (Kd.R_lower ho15 (below_size (bb_ HB))); have n1_ := Aside0.mk (below_step (bb_ HB) hb); clear HB; have HO516 := n0_; have HB := n1_; clear n0_ n1_; clear hb ho15) | ((with_reducible refine gate_dst (N := 20) rfl ?_); (try (refine gate_guard (by rfl) ?_; dsimp only)); refine Kd.R_lit k38 _ 38 ?hg (N := 20) ?hd (xs := ([(⟨10, 10⟩ : S38), (⟨3, 5⟩ : S38), (⟨0, 100⟩ : S38)] : List (S38))) (inner := [.int .i64 10, .int .i64 10, .int .i64 3, .int .i64 5, .int .i64 0, .int .i64 100]) (ok := fun _ => True) (okp := fun _ => True) ?hr ?hp (fun _ hk => hk) trivial (Below.refl _ _) (Nat.le_refl _) (by simp) ?_; (case hd => rfl); (case hg => rfl); (case hr => first | (go_simp; done) | (go_simp; rfl)); (case hp => exact (Reps.c2 (show Kd.M k38 _ _ _ (⟨10, 10⟩ : S38) [.int .i64 10, .int .i64 10] from (k38_mkM _ _ _ (⟨10, 10⟩ : S38) )) (Reps.c2 (show Kd.M k38 _ _ _ (⟨3, 5⟩ : S38) [.int .i64 3, .int .i64 5] from (k38_mkM _ _ _ (⟨3, 5⟩ : S38) )) (Reps.c2 (show Kd.M k38 _ _ _ (⟨0, 100⟩ : S38) [.int .i64 0, .int .i64 100] from (k38_mkM _ _ _ (⟨0, 100⟩ : S38) )) (Reps.none _ _))))); intro v518 w16 ho17 hb hg_ hnew_; clear hg_ hnew_; (first | rw [← Ny517.out] at ho17 | (simp only [Int.reduceToNat] at ho17; rw [← Ny517.out] at ho17)); have n0_ := Aside0.mk (Kd.R_below (rr_ HO516) hb); have n1_ := Aside0.mk (Kd.R_lower ho17 (below_size (bb_ HB))); have n2_ := Aside0.mk (below_step (bb_ HB) hb); clear HO516; clear HB; have HO516 := n0_; have HO519 := n1_; have HB := n2_; clear n0_ n1_ n2_; clear hb ho17) | ((with_reducible refine gate_dst (N := 21) rfl ?_); (try (refine gate_guard (by rfl) ?_; dsimp only)); refine Kd.R_lit (Kd.int .i64) _ 3 ?hg (N := 21) ?hd (xs := ([4, 7] : List Int)) (inner := [.int .i64 4, .int .i64 7]) (ok := fun _ => True) (okp := fun _ => True) ?hr ?hp (fun _ hk => hk) trivial (Below.refl _ _) (Nat.le_refl _) (by simp) ?_; (case hd => rfl); (case hg => rfl); (case hr => first | (go_simp; done) | (go_simp; rfl)); (case hp => exact (Reps.one (show Kd.M (Kd.int .i64) _ _ _ 4 [.int .i64 4] from rfl) (Reps.one (show Kd.M (Kd.int .i64) _ _ _ 7 [.int .i64 7] from rfl) (Reps.none _ _)))); intro v521 w18 ho19 hb hg_ hnew_; clear hg_ hnew_; (first | rw [← Ny520.out] at ho19 | (simp only [Int.reduceToNat] at ho19; rw [← Ny520.out] at ho19)); have n0_ := Aside0.mk (Kd.R_below (rr_ HO516) hb); have n1_ := Aside0.mk (Kd.R_below (rr_ HO519) hb); have n2_ := Aside0.mk (Kd.R_lower ho19 (below_size (bb_ HB))); have n3_ := Aside0.mk (below_step (bb_ HB) hb); clear HO516; clear HO519; clear HB; have HO516 := n0_; have HO519 := n1_; have HO522 := n2_; have HB := n3_; clear n0_ n1_ n2_ n3_; clear hb ho19; obtain ⟨Ao20, co20, eo20⟩ := Kd.R_slice HO516.out; subst eo20; obtain ⟨Ao21, co21, eo21⟩ := Kd.R_slice HO519.out; subst eo21; obtain ⟨Ao22, co22, eo22⟩ := Kd.R_slice HO522.out; subst eo22) | ((with_reducible refine gate_callee (f := 19) rfl ?_); refine gl_ (some 22) Try.func19 #[.int .i64 100, .slice Ao20 y514.length co20, .slice Ao21 y517.length co21, .slice Ao22 y520.length co22] ?_; (with_reducible refine (charges_Network.calls 100 _ _ y514 _ _ y517 _ _ y520 t523 t524 t525 _ ?side1 ?side2 ?side3 ?side4 ?side5 ?side6 A1.out).mono ?_); (case side1 => exact cc_ ((Kd.R_reads' HO516.out).2.2)); (case side2 => exact (Kd.R_reads' HO516.out).2.1); (case side3 => exact cc_ ((Kd.R_reads' HO519.out).2.2)); (case side4 => exact (Kd.R_reads' HO519.out).2.1); (case side5 => exact cc_ ((Kd.R_reads' HO522.out).2.2)); (case side6 => exact (Kd.R_reads' HO522.out).2.1); rintro e w23 ⟨v526, rfl, ho0, hb⟩; refine ⟨_, rfl, ?_⟩; have n0_ := Aside0.mk (Kd.R_below (rr_ HO516) hb); have n1_ := Aside0.mk (Kd.R_below (rr_ HO519) hb); have n2_ := Aside0.mk (Kd.R_below (rr_ HO522) hb); have n3_ := Aside0.mk (Kd.R_lower ho0 (below_size (bb_ HB))); have n4_ := Aside0.mk (below_step (bb_ HB) hb); clear HO516; clear HO519; clear HO522; clear HB; have HO516 := n0_; have HO519 := n1_; have HO522 := n2_; have HO527 := n3_; have HB := n4_; clear n0_ n1_ n2_ n3_ n4_; (try clear hb); (try clear hb2); (try clear hk); (try clear hi); (try clear ho0)) | ((with_reducible refine gate_dst (N := 31) rfl ?_); (try (refine gate_guard (by rfl) ?_; dsimp only)); refine Kd.R_lit k38 _ 38 ?hg (N := 31) ?hd (xs := ([(⟨10, 10⟩ : S38), (⟨5, 5⟩ : S38), (⟨0, 100⟩ : S38)] : List (S38))) (inner := [.int .i64 10, .int .i64 10, .int .i64 5, .int .i64 5, .int .i64 0, .int .i64 100]) (ok := fun _ => True) (okp := fun _ => True) ?hr ?hp (fun _ hk => hk) trivial (Below.refl _ _) (Nat.le_refl _) (by simp) ?_; (case hd => rfl); (case hg => rfl); (case hr => first | (go_simp; done) | (go_simp; rfl)); (case hp => exact (Reps.c2 (show Kd.M k38 _ _ _ (⟨10, 10⟩ : S38) [.int .i64 10, .int .i64 10] from (k38_mkM _ _ _ (⟨10, 10⟩ : S38) )) (Reps.c2 (show Kd.M k38 _ _ _ (⟨5, 5⟩ : S38) [.int .i64 5, .int .i64 5] from (k38_mkM _ _ _ (⟨5, 5⟩ : S38) )) (Reps.c2 (show Kd.M k38 _ _ _ (⟨0, 100⟩ : S38) [.int .i64 0, .int .i64 100] from (k38_mkM _ _ _ (⟨0, 100⟩ : S38) )) (Reps.none _ _))))); intro v529 w24 ho25 hb hg_ hnew_; clear hg_ hnew_; (first | rw [← Ny528.out] at ho25 | (simp only [Int.reduceToNat] at ho25; rw [← Ny528.out] at ho25)); have n0_ := Aside0.mk (Kd.R_below (rr_ HO516) hb); have n1_ := Aside0.mk (Kd.R_elder' (rr_ HO519) (Kd.R_base ho25) hb); have n2_ := Aside0.mk (Kd.R_below (rr_ HO522) hb); have n3_ := Aside0.mk (Kd.R_below (rr_ HO527) hb); have n4_ := Aside0.mk (Kd.R_lower (Kd.R_new' ho25 (Kd.R_lt (rr_ HO519))) (below_size (bb_ HB))); have n5_ := Aside0.mk (below_step (bb_ HB) hb); clear HO516; clear HO519; clear HO522; clear HO527; clear HB; have HO516 := n0_; have HO519 := n1_; have HO522 := n2_; have HO527 := n3_; have HO530 := n4_; have HB := n5_; clear n0_ n1_ n2_ n3_ n4_ n5_; clear hb ho25) | ((with_reducible refine gate_dst (N := 32) rfl ?_); (try (refine gate_guard (by rfl) ?_; dsimp only)); refine Kd.R_lit (Kd.int .i64) _ 3 ?hg (N := 32) ?hd (xs := ([4, 7] : List Int)) (inner := [.int .i64 4, .int .i64 7]) (ok := fun _ => True) (okp := fun _ => True) ?hr ?hp (fun _ hk => hk) trivial (Below.refl _ _) (Nat.le_refl _) (by simp) ?_; (case hd => rfl); (case hg => rfl); (case hr => first | (go_simp; done) | (go_simp; rfl)); (case hp => exact (Reps.one (show Kd.M (Kd.int .i64) _ _ _ 4 [.int .i64 4] from rfl) (Reps.one (show Kd.M (Kd.int .i64) _ _ _ 7 [.int .i64 7] from rfl) (Reps.none _ _)))); intro v532 w26 ho27 hb hg_ hnew_; clear hg_ hnew_; (first | rw [← Ny531.out] at ho27 | (simp only [Int.reduceToNat] at ho27; rw [← Ny531.out] at ho27)); have n0_ := Aside0.mk (Kd.R_below (rr_ HO516) hb); have n1_ := Aside0.mk (Kd.R_below (rr_ HO519) hb); have n2_ := Aside0.mk (Kd.R_elder' (rr_ HO522) (Kd.R_base ho27) hb); have n3_ := Aside0.mk (Kd.R_below (rr_ HO527) hb); have n4_ := Aside0.mk (Kd.R_below (rr_ HO530) hb); have n5_ := Aside0.mk (Kd.R_lower (Kd.R_new' ho27 (Kd.R_lt (rr_ HO522))) (below_size (bb_ HB))); have n6_ := Aside0.mk (below_step (bb_ HB) hb); clear HO516; clear HO519; clear HO522; clear HO527; clear HO530; clear HB; have HO516 := n0_; have HO519 := n1_; have HO522 := n2_; have HO527 := n3_; have HO530 := n4_; have HO533 := n5_; have HB := n6_; clear n0_ n1_ n2_ n3_ n4_ n5_ n6_; clear hb ho27; obtain ⟨Ao28, co28, eo28⟩ := Kd.R_slice HO530.out; subst eo28; obtain ⟨Ao29, co29, eo29⟩ := Kd.R_slice HO533.out; subst eo29) | ((with_reducible refine gate_callee (f := 19) rfl ?_); refine gl_ (some 33) Try.func19 #[.int .i64 100, .slice Ao20 y514.length co20, .slice Ao28 y528.length co28, .slice Ao29 y531.length co29] ?_; (with_reducible refine (charges_Network.calls 100 _ _ y514 _ _ y528 _ _ y531 t534 t535 t536 _ ?side1 ?side2 ?side3 ?side4 ?side5 ?side6 A2.out).mono ?_); (case side1 => exact cc_ ((Kd.R_reads' HO516.out).2.2)); (case side2 => exact (Kd.R_reads' HO516.out).2.1); (case side3 => exact cc_ ((Kd.R_reads' HO530.out).2.2)); (case side4 => exact (Kd.R_reads' HO530.out).2.1); (case side5 => exact cc_ ((Kd.R_reads' HO533.out).2.2)); (case side6 => exact (Kd.R_reads' HO533.out).2.1); rintro e w30 ⟨v537, rfl, ho0, hb⟩; refine ⟨_, rfl, ?_⟩; have n0_ := Aside0.mk (Kd.R_below (rr_ HO516) hb); have n1_ := Aside0.mk (Kd.R_below (rr_ HO519) hb); have n2_ := Aside0.mk (Kd.R_below (rr_ HO522) hb); have n3_ := Aside0.mk (Kd.R_elder' (rr_ HO527) (Kd.R_base ho0) hb); have n4_ := Aside0.mk (Kd.R_below (rr_ HO530) hb); have n5_ := Aside0.mk (Kd.R_below (rr_ HO533) hb); have n6_ := Aside0.mk (Kd.R_lower (Kd.R_new' ho0 (Kd.R_lt (rr_ HO527))) (below_size (bb_ HB))); have n7_ := Aside0.mk (below_step (bb_ HB) hb); clear HO516; clear HO519; clear HO522; clear HO527; clear HO530; clear HO533; clear HB; have HO516 := n0_; have HO519 := n1_; have HO522 := n2_; have HO527 := n3_; have HO530 := n4_; have HO533 := n5_; have HO538 := n6_; have HB := n7_; clear n0_ n1_ n2_ n3_ n4_ n5_ n6_ n7_; (try clear hb); (try clear hb2); (try clear hk); (try clear hi); (try clear ho0); obtain ⟨Ao31, co31, eo31⟩ := Kd.R_slice HO527.out; subst eo31; obtain ⟨Ao32, co32, eo32⟩ := Kd.R_slice HO538.out; subst eo32) | ((with_reducible refine gate_callee (f := 52) rfl ?_); refine gl_ (some 42) Try.func52 #[.slice Ao31 t523.length co31, .slice Ao32 t534.length co32, .int .i64 t524, .int .i64 t535] ?_; (with_reducible refine (settle_Settle.calls _ _ t523 _ _ t534 t524 t535 t539 t540 t541 _ ?side1 ?side2 ?side3 ?side4 A3.out).mono ?_); (case side1 => exact cc_ ((Kd.R_reads' HO527.out).2.2)); (case side2 => exact (Kd.R_reads' HO527.out).2.1); (case side3 => exact cc_ ((Kd.R_reads' HO538.out).2.2)); (case side4 => exact (Kd.R_reads' HO538.out).2.1); rintro e w33 ⟨v542, rfl, ho0, hb⟩; refine ⟨_, rfl, ?_⟩; have n0_ := Aside0.mk (Kd.R_below (rr_ HO516) hb); have n1_ := Aside0.mk (Kd.R_below (rr_ HO519) hb); have n2_ := Aside0.mk (Kd.R_below (rr_ HO522) hb); have n3_ := Aside0.mk (Kd.R_elder' (rr_ HO527) (Kd.R_base ho0) hb); have n4_ := Aside0.mk (Kd.R_below (rr_ HO530) hb); have n5_ := Aside0.mk (Kd.R_below (rr_ HO533) hb); have n6_ := Aside0.mk (Kd.R_elder' (rr_ HO538) (Kd.R_base ho0) hb); have n7_ := Aside0.mk (Kd.R_lower (Kd.R_new' (Kd.R_new' ho0 (Kd.R_lt (rr_ HO527))) (Kd.R_lt (rr_ HO538))) (below_size (bb_ HB))); have n8_ := Aside0.mk (below_step (bb_ HB) hb); clear HO516; clear HO519; clear HO522; clear HO527; clear HO530; clear HO533; clear HO538; clear HB; have HO516 := n0_; have HO519 := n1_; have HO522 := n2_; have HO527 := n3_; have HO530 := n4_; have HO533 := n5_; have HO538 := n6_; have HO543 := n7_; have HB := n8_; clear n0_ n1_ n2_ n3_ n4_ n5_ n6_ n7_ n8_; (try clear hb); (try clear hb2); (try clear hk); (try clear hi); (try clear ho0); obtain ⟨Ao34, co34, eo34⟩ := Kd.R_slice HO543.out; subst eo34; have p544 : 0 ≤ (0 : Int) := (by omega); have q544 : 0 < (t539.length : Int) := od_; obtain ⟨ad544, e544, hx544_0, hx544_1, hx544_2, hx544_3, hx544_4⟩ := at_T40 (Kd.R_reads' HO543.out).2.2 0 p544 q544; cases e544; have qi544 : (0 < t539.length) = True := eq_true (by omega); (try rw [show ((0 : Int)).toNat = 0 from rfl] at hx544_0); (try rw [show 0 * 5 = 0 from rfl] at hx544_0); (try rw [Addr.add_zero'] at hx544_0); (try rw [show ((0 : Int)).toNat = 0 from rfl] at hx544_1); (try rw [show 0 * 5 = 0 from rfl] at hx544_1); (try rw [Addr.add_zero'] at hx544_1); (try rw [show ((0 : Int)).toNat = 0 from rfl] at hx544_2); (try rw [show 0 * 5 = 0 from rfl] at hx544_2); (try rw [Addr.add_zero'] at hx544_2); (try rw [show ((0 : Int)).toNat = 0 from rfl] at hx544_3); (try rw [show 0 * 5 = 0 from rfl] at hx544_3); (try rw [Addr.add_zero'] at hx544_3); (try rw [show ((0 : Int)).toNat = 0 from rfl] at hx544_4); (try rw [show 0 * 5 = 0 from rfl] at hx544_4); (try rw [Addr.add_zero'] at hx544_4); replace p544 := eq_true p544; replace q544 := eq_true q544; have p545 : 0 ≤ (1 : Int) := (by omega); have q545 : 1 < (t539.length : Int) := od_; obtain ⟨ad545, e545, hx545_0, hx545_1, hx545_2, hx545_3, hx545_4⟩ := at_T40 (Kd.R_reads' HO543.out).2.2 1 p545 q545; obtain rfl : ad544 = ad545 := (by injection e545); (try simp only [show (1 : Int).toNat = 1 from rfl, Nat.reduceMul, Nat.reduceEqDiff, Go.Addr.add, ↓reduceIte] at hx545_0); (try simp only [show (1 : Int).toNat = 1 from rfl, Nat.reduceMul, Nat.reduceEqDiff, Go.Addr.add, ↓reduceIte] at hx545_1); (try simp only [show (1 : Int).toNat = 1 from rfl, Nat.reduceMul, Nat.reduceEqDiff, Go.Addr.add, ↓reduceIte] at hx545_2); (try simp only [show (1 : Int).toNat = 1 from rfl, Nat.reduceMul, Nat.reduceEqDiff, Go.Addr.add, ↓reduceIte] at hx545_3); (try simp only [show (1 : Int).toNat = 1 from rfl, Nat.reduceMul, Nat.reduceEqDiff, Go.Addr.add, ↓reduceIte] at hx545_4); have qi545 : (1 < t539.length) = True := eq_true (by omega); (try rw [show ((1 : Int)).toNat = 1 from rfl] at hx545_0); (try rw [show 1 * 5 = 5 from rfl] at hx545_0); (try rw [show ((1 : Int)).toNat = 1 from rfl] at hx545_1); (try rw [show 1 * 5 = 5 from rfl] at hx545_1); (try rw [show ((1 : Int)).toNat = 1 from rfl] at hx545_2); (try rw [show 1 * 5 = 5 from rfl] at hx545_2); (try rw [show ((1 : Int)).toNat = 1 from rfl] at hx545_3); (try rw [show 1 * 5 = 5 from rfl] at hx545_3); (try rw [show ((1 : Int)).toNat = 1 from rfl] at hx545_4); (try rw [show 1 * 5 = 5 from rfl] at hx545_4); replace p545 := eq_true p545; replace q545 := eq_true q545))
           go_ret
           exact ⟨ew_, by repeat (first | (with_reducible first | exact HB.out | apply below_alloc | apply pw_below_drewN | apply below_drew1) | exact HB.out)⟩
          ·rw [if_neg c13] at H
           exact absurd H (by simp)
         ·rw [if_neg c12] at H
          have c12b0 : (((rd_T40 t539 0).f0) == 4 && (((rd_T40 t539 0).f1) == 10 && ((((rd_T40 t539 0).f2.f0) == 10 && (((rd_T40 t539 0).f2.f1) == 10)) && (((rd_T40 t539 0).f3))))) = false := by simpa using c12
          (try (have c12b1 : decide (((rd_T40 t539 0).f0) = 4 && (((rd_T40 t539 0).f1) == 10 && ((((rd_T40 t539 0).f2.f0) == 10 && (((rd_T40 t539 0).f2.f1) == 10)) && (((rd_T40 t539 0).f3))))) = false := by simpa using c12))
          (try (have c12b2 : (((rd_T40 t539 0).f0) == 4 && (((rd_T40 t539 0).f1) == 10 && ((((rd_T40 t539 0).f2.f0) == 10 && (((rd_T40 t539 0).f2.f1) == 10)) && (((rd_T40 t539 0).f3))))) = false := by simpa using c12))
          (try (have c12b3 : ¬ (((rd_T40 t539 0).f0) = 4 && (((rd_T40 t539 0).f1) == 10 && ((((rd_T40 t539 0).f2.f0) == 10 && (((rd_T40 t539 0).f2.f1) == 10)) && (((rd_T40 t539 0).f3))))) := by simpa using c12))
          clear c12
          exact absurd (Option.some.inj H) (by decide)
        ·rw [if_neg c11] at H
         exact absurd H (by simp)
       ·rw [if_neg c10] at H
        have c10b0 : ((t539.length : Int) == 2) = false := beq_eq_false_iff_ne.mpr c10
        have c10b1 : ((t539.length : Int) != 2) = true := bne_iff_ne.mpr c10
        exact absurd (Option.some.inj H) (by decide)
      ·rw [if_neg c9] at H
       have c9b0 : (t540 == 0) = false := beq_eq_false_iff_ne.mpr c9
       have c9b1 : (t540 != 0) = true := bne_iff_ne.mpr c9
       exact absurd (Option.some.inj H) (by decide)
     ·rw [if_neg c8] at H
      have c8b0 : (t535 == 10) = false := beq_eq_false_iff_ne.mpr c8
      have c8b1 : (t535 != 10) = true := bne_iff_ne.mpr c8
      exact absurd (Option.some.inj H) (by decide)
    ·rw [if_neg c7] at H
     have c7b0 : (t524 == 10) = false := beq_eq_false_iff_ne.mpr c7
     have c7b1 : (t524 != 10) = true := bne_iff_ne.mpr c7
     exact absurd (Option.some.inj H) (by decide)
   ·rw [if_neg c6] at H
    have c6b0 : (t541 == 0) = false := beq_eq_false_iff_ne.mpr c6
    have c6b1 : (t541 != 0) = true := bne_iff_ne.mpr c6
    exact absurd (Option.some.inj H) (by decide)
  ·rw [if_neg c5] at H
   have c5b0 : (t536 == 0) = false := beq_eq_false_iff_ne.mpr c5
   have c5b1 : (t536 != 0) = true := bne_iff_ne.mpr c5
   exact absurd (Option.some.inj H) (by decide)
 ·rw [if_neg c4] at H
  have c4b0 : (t525 == 0) = false := beq_eq_false_iff_ne.mpr c4
  have c4b1 : (t525 != 0) = true := bne_iff_ne.mpr c4
  exact absurd (Option.some.inj H) (by decide)
end
section
open Go.Proofs.YthjjabcbngffoaaH
def settle_Within.f (l0 l1 : List S40) : Option (Bool × Int) := if (pairB l0 l1 && allB inB l0 l1) = true then some (true, 0) else none
theorem settle_Within.calls (A0 : Option Addr) (c0 : Nat) (l0 : List (S40)) (A1 : Option Addr) (c1 : Nat) (l1 : List (S40)) (r1 : Bool) (r2 : Int) (w : World) (hr0 : Kd.C k40 w A0 l0.length l0) (hc0 : l0.length ≤ c0) (hr1 : Kd.C k40 w A1 l1.length l1) (hc1 : l1.length ≤ c1) (h : settle_Within.f l0 l1 = some (r1, r2)) :
  Calls Try.prog 53 #[.slice A0 l0.length c0, .slice A1 l1.length c1] w fun e w' => e = .returned (.tuple #[.bool r1, .int .i64 r2]) ∧ Below w.heap.size w w' := by
 unfold settle_Within.f at h
 by_cases hf : (pairB l0 l1 && allB inB l0 l1) = true
 case neg => rw [if_neg hf] at h; cases h
 rw [if_pos hf] at h
 simp only [Option.some.injEq, Prod.mk.injEq] at h
 obtain ⟨rfl, rfl⟩ := h
 rw [Bool.and_eq_true] at hf
 obtain ⟨p0, p1, p2⟩ := pairB_at hf.1
 have HPB := Aside0.mk hf.1
 have HIN := Aside0.mk hf.2
 have H64 := Aside0.mk (chgsB_at p0).1
 have HLL := Aside0.mk (sameHB_at p2).1.symm
 have HR0 := Aside0.mk hr0
 have HR1 := Aside0.mk hr1
 clear hr0 hr1 hc0 hc1 hf p0 p1 p2
 have HB := Aside0.mk (Below.refl w.heap.size w)
 go_enter Try.func53, Try.ntmps53
 go_wp2_with (first | (go_at_call 69; (with_reducible refine (pairs_calls A0 A1 c0 c1 l0 l1 _ (Kd.C_below HR0.out HB.out) (Kd.C_below HR1.out HB.out) HPB.out).mono ?_); rintro e w4 ⟨g1, g2, rfl, hp_, hq_, hg1_, hg2_, hb_⟩; have BP := Aside0.mk hp_; have BQ := Aside0.mk hq_; clear hp_ hq_ hg1_ hg2_; have n0_ := Aside0.mk (below_step HB.out hb_); clear HB hb_; have HB := n0_; clear n0_) | (go_at_call 71; (with_reducible refine (within_calls _ g1 g2 A0 A1 c0 c1 l0 l1 HLL.out H64.out HIN.out BP.out BQ.out (Kd.C_below HR0.out HB.out) (Kd.C_below HR1.out HB.out)).mono ?_); rintro e w7 ⟨rfl, hb_⟩; have n0_ := Aside0.mk (below_step HB.out hb_); clear HB hb_; have HB := n0_; clear n0_))
 go_ret2
 exact ⟨rfl, HB.out⟩
end
section
mutual
def cohousingtop_w17Settled.j0 : Nat → List (S40) → List (S40) → List (S40) → Int → Bool → Option (Bool)
 | 0, _, _, _, _, _ => none
 | k + 1, x0, x1, x11, x12, x54 => if x54 = true then (some false) else (cohousingtop_w17Settled.l0 k x0 x1 x11 x12 (x11.length : Int) 0)
def cohousingtop_w17Settled.l0 : Nat → List (S40) → List (S40) → List (S40) → Int → Int → Int → Option (Bool)
 | 0, _, _, _, _, _, _ => none
 | k + 1, x0, x1, x11, x14, x57, x58 => if x58 < x57 then (if 0 ≤ x58 then (if x58 < (x11.length : Int) then (if x58 < (x0.length : Int) then (if x58 < (x1.length : Int) then (if (wrap64 (((rd_T40 x0 x58).f1) + ((rd_T40 x11 x58).f1))) = ((rd_T40 x1 x58).f1) then (if (((rd_T40 x11 x58).f3) != ((rd_T40 x1 x58).f3)) = true then (some false) else (if ((rd_T40 x1 x58).f1) < ((rd_T40 x0 x58).f2.f0) then (some false) else (if ((rd_T40 x1 x58).f1) > ((rd_T40 x0 x58).f2.f1) then (some false) else (cohousingtop_w17Settled.l0 k x0 x1 x11 (wrap64 (x14 + ((rd_T40 x11 x58).f1))) x57 (wrap64 (x58 + 1)))))) else (some false)) else (none)) else (none)) else (none)) else (none)) else (some (x14 == 0))
end
def cohousingtop_w17Settled.f (k : Nat) (l0 : List (S40)) (l1 : List (S40)) (a2 : Int) (a3 : Int) : Option (Bool) := (settle_Within.f l0 l1).bind fun bt558 => ((settle_Settle.f l0 l1 a2 a3).bind fun bt560 => (if bt558.2 = 0 then (if bt560.2.2 = 0 then (if bt558.1 = true then (if (bt560.1.length : Int) = (l0.length : Int) then (cohousingtop_w17Settled.j0 k l0 l1 bt560.1 bt560.2.1 ((l1.length : Int) != (l0.length : Int))) else (cohousingtop_w17Settled.j0 k l0 l1 bt560.1 bt560.2.1 true)) else (cohousingtop_w17Settled.j0 k l0 l1 bt560.1 bt560.2.1 true)) else (cohousingtop_w17Settled.j0 k l0 l1 bt560.1 bt560.2.1 true)) else (cohousingtop_w17Settled.j0 k l0 l1 bt560.1 bt560.2.1 true)))
theorem cohousingtop_w17Settled.calls (k : Nat) (A0 : Option Addr) (c0 : Nat) (l0 : List (S40)) (A1 : Option Addr) (c1 : Nat) (l1 : List (S40)) (a2 : Int) (a3 : Int) (r : Bool) (w : World) (hr0 : Kd.C k40 w A0 l0.length l0) (hc0 : l0.length ≤ c0) (hr1 : Kd.C k40 w A1 l1.length l1) (hc1 : l1.length ≤ c1) (h : cohousingtop_w17Settled.f k l0 l1 a2 a3 = some r) :
  Calls Try.prog 29 #[.slice A0 l0.length c0, .slice A1 l1.length c1, .int .i64 a2, .int .i64 a3] w fun e w' => e = .returned (.bool r) ∧ Below w.heap.size w w' := by
 have HR0 := Aside0.mk hr0
 have HC0 := Aside0.mk hc0
 clear hr0 hc0
 have HR1 := Aside0.mk hr1
 have HC1 := Aside0.mk hc1
 clear hr1 hc1
 have HB := Aside0.mk (Below.refl w.heap.size w)
 have H : ((settle_Within.f l0 l1).bind fun bt558 => ((settle_Settle.f l0 l1 a2 a3).bind fun bt560 => (if bt558.2 = 0 then (if bt560.2.2 = 0 then (if bt558.1 = true then (if (bt560.1.length : Int) = (l0.length : Int) then (cohousingtop_w17Settled.j0 k l0 l1 bt560.1 bt560.2.1 ((l1.length : Int) != (l0.length : Int))) else (cohousingtop_w17Settled.j0 k l0 l1 bt560.1 bt560.2.1 true)) else (cohousingtop_w17Settled.j0 k l0 l1 bt560.1 bt560.2.1 true)) else (cohousingtop_w17Settled.j0 k l0 l1 bt560.1 bt560.2.1 true)) else (cohousingtop_w17Settled.j0 k l0 l1 bt560.1 bt560.2.1 true)))) = some r := h
 clear h
 replace H := Option.bind_eq_some_iff.mp H
 obtain ⟨⟨t558, t559⟩, A50, H⟩ := H
 replace H : ((settle_Settle.f l0 l1 a2 a3).bind fun bt560 => (if t559 = 0 then (if bt560.2.2 = 0 then (if t558 = true then (if (bt560.1.length : Int) = (l0.length : Int) then (cohousingtop_w17Settled.j0 k l0 l1 bt560.1 bt560.2.1 ((l1.length : Int) != (l0.length : Int))) else (cohousingtop_w17Settled.j0 k l0 l1 bt560.1 bt560.2.1 true)) else (cohousingtop_w17Settled.j0 k l0 l1 bt560.1 bt560.2.1 true)) else (cohousingtop_w17Settled.j0 k l0 l1 bt560.1 bt560.2.1 true)) else (cohousingtop_w17Settled.j0 k l0 l1 bt560.1 bt560.2.1 true))) = some r := H
 have A5 := Aside0.mk A50
 clear A50
 replace H := Option.bind_eq_some_iff.mp H
 obtain ⟨⟨t560, t561, t562⟩, A60, H⟩ := H
 replace H : (if t559 = 0 then (if t562 = 0 then (if t558 = true then (if (t560.length : Int) = (l0.length : Int) then (cohousingtop_w17Settled.j0 k l0 l1 t560 t561 ((l1.length : Int) != (l0.length : Int))) else (cohousingtop_w17Settled.j0 k l0 l1 t560 t561 true)) else (cohousingtop_w17Settled.j0 k l0 l1 t560 t561 true)) else (cohousingtop_w17Settled.j0 k l0 l1 t560 t561 true)) else (cohousingtop_w17Settled.j0 k l0 l1 t560 t561 true)) = some r := H
 have A6 := Aside0.mk A60
 clear A60
 have HC7 := Aside0.mk H
 clear H
 go_enter Try.func29, Try.ntmps29
 go_upto_region 3 with (first | (go_at_call 53; (with_reducible refine (settle_Within.calls _ _ l0 _ _ l1 t558 t559 _ ?side1 ?side2 ?side3 ?side4 A5.out).mono ?_); (case side1 => exact cc_ (HR0.out)); (case side2 => exact HC0.out); (case side3 => exact cc_ (HR1.out)); (case side4 => exact HC1.out); rintro e w8 ⟨rfl, hb⟩; have n0_ := Aside0.mk (below_step (bb_ HB) hb); clear HB; have HB := n0_; clear n0_; (try clear hb); (try clear hb2); (try clear hk); (try clear hi)) | (go_at_call 52; (with_reducible refine (settle_Settle.calls _ _ l0 _ _ l1 a2 a3 t560 t561 t562 _ ?side1 ?side2 ?side3 ?side4 A6.out).mono ?_); (case side1 => exact cc_ ((Kd.C_below HR0.out HB.out))); (case side2 => exact HC0.out); (case side3 => exact cc_ ((Kd.C_below HR1.out HB.out))); (case side4 => exact HC1.out); rintro e w9 ⟨v563, rfl, ho0, hb⟩; have n0_ := Aside0.mk (Kd.R_lower ho0 (below_size (bb_ HB))); have n1_ := Aside0.mk (below_step (bb_ HB) hb); clear HB; have HO564 := n0_; have HB := n1_; clear n0_ n1_; (try clear hb); (try clear hb2); (try clear hk); (try clear hi); (try clear ho0)))
 repeat (go_quiet (first | (go_at_call 53; (with_reducible refine (settle_Within.calls _ _ l0 _ _ l1 t558 t559 _ ?side1 ?side2 ?side3 ?side4 A5.out).mono ?_); (case side1 => exact cc_ (HR0.out)); (case side2 => exact HC0.out); (case side3 => exact cc_ (HR1.out)); (case side4 => exact HC1.out); rintro e w8 ⟨rfl, hb⟩; have n0_ := Aside0.mk (below_step (bb_ HB) hb); clear HB; have HB := n0_; clear n0_; (try clear hb); (try clear hb2); (try clear hk); (try clear hi)) | (go_at_call 52; (with_reducible refine (settle_Settle.calls _ _ l0 _ _ l1 a2 a3 t560 t561 t562 _ ?side1 ?side2 ?side3 ?side4 A6.out).mono ?_); (case side1 => exact cc_ ((Kd.C_below HR0.out HB.out))); (case side2 => exact HC0.out); (case side3 => exact cc_ ((Kd.C_below HR1.out HB.out))); (case side4 => exact HC1.out); rintro e w9 ⟨v563, rfl, ho0, hb⟩; have n0_ := Aside0.mk (Kd.R_lower ho0 (below_size (bb_ HB))); have n1_ := Aside0.mk (below_step (bb_ HB) hb); clear HB; have HO564 := n0_; have HB := n1_; clear n0_ n1_; (try clear hb); (try clear hb2); (try clear hk); (try clear hi); (try clear ho0))); go_upto_region 3 with (first | (go_at_call 53; (with_reducible refine (settle_Within.calls _ _ l0 _ _ l1 t558 t559 _ ?side1 ?side2 ?side3 ?side4 A5.out).mono ?_); (case side1 => exact cc_ (HR0.out)); (case side2 => exact HC0.out); (case side3 => exact cc_ (HR1.out)); (case side4 => exact HC1.out); rintro e w8 ⟨rfl, hb⟩; have n0_ := Aside0.mk (below_step (bb_ HB) hb); clear HB; have HB := n0_; clear n0_; (try clear hb); (try clear hb2); (try clear hk); (try clear hi)) | (go_at_call 52; (with_reducible refine (settle_Settle.calls _ _ l0 _ _ l1 a2 a3 t560 t561 t562 _ ?side1 ?side2 ?side3 ?side4 A6.out).mono ?_); (case side1 => exact cc_ ((Kd.C_below HR0.out HB.out))); (case side2 => exact HC0.out); (case side3 => exact cc_ ((Kd.C_below HR1.out HB.out))); (case side4 => exact HC1.out); rintro e w9 ⟨v563, rfl, ho0, hb⟩; have n0_ := Aside0.mk (Kd.R_lower ho0 (below_size (bb_ HB))); have n1_ := Aside0.mk (below_step (bb_ HB) hb); clear HB; have HO564 := n0_; have HB := n1_; clear n0_ n1_; (try clear hb); (try clear hb2); (try clear hk); (try clear hi); (try clear ho0))))
 (try simp only [Act.put, sI_, s0_, sS_])
 go_cut [54] (fun v54 wc => ∃ (kq : Nat) (x54_6 : Bool), v54 = .bool x54_6 ∧ Aside0 (cohousingtop_w17Settled.j0 kq l0 l1 t560 t561 x54_6 = some r) ∧ Aside0 (kq ≤ k) ∧ Aside0 (Kd.R k40 40 wc w.heap.size (fun _ => True) v563 t560) ∧ Aside0 (Below w.heap.size w wc))
 case first =>
  have H := HC7.out
  clear HC7
  by_cases c10 : t559 = 0
  ·rw [if_pos c10] at H
   have c10b0 : (t559 == 0) = true := beq_iff_eq.mpr c10
   have c10b1 : (t559 != 0) = false := bne_eq_false_iff_eq.mpr c10
   clear c10
   (first | rw [c10b0] | (simp only [i64_w, i32_w]; rw [c10b0]) | skip)
   by_cases c11 : t562 = 0
   ·rw [if_pos c11] at H
    have c11b0 : (t562 == 0) = true := beq_iff_eq.mpr c11
    have c11b1 : (t562 != 0) = false := bne_eq_false_iff_eq.mpr c11
    clear c11
    by_cases c12 : t558 = true
    ·subst c12
     have H1 : (if (t560.length : Int) = (l0.length : Int) then (cohousingtop_w17Settled.j0 k l0 l1 t560 t561 ((l1.length : Int) != (l0.length : Int))) else (cohousingtop_w17Settled.j0 k l0 l1 t560 t561 true)) = some r := by rw [if_pos rfl] at H; exact H
     clear H
     have H := H1
     clear H1
     by_cases c13 : (t560.length : Int) = (l0.length : Int)
     ·rw [if_pos c13] at H
      have c13b0 : ((t560.length : Int) == (l0.length : Int)) = true := beq_iff_eq.mpr c13
      have c13b1 : ((t560.length : Int) != (l0.length : Int)) = false := bne_eq_false_iff_eq.mpr c13
      have c13b2 : (t560.length == l0.length) = true := by first | simpa using c13 | (simp at c13 ⊢; omega)
      clear c13
      have H' := Aside0.mk H
      clear H
      obtain ⟨Ao14, co14, eo14⟩ := Kd.R_slice HO564.out
      subst eo14
      go_wp2
      repeat (go_quiet (fail); try go_wp2)
      go_meet
      case rel => exact ⟨_, (((l1.length : Int) != (l0.length : Int))), sd_, H', ⟨by first | omega | exact Nat.le_refl _⟩, ⟨by (with_reducible repeat (first | apply Kd.R_alloc | apply Kd.R_drewN | apply Kd.R_drew)); exact HO564.out⟩, ⟨by repeat (first | (with_reducible first | exact HB.out | apply below_alloc | apply pw_below_drewN | apply below_drew1) | exact HB.out)⟩⟩
     ·rw [if_neg c13] at H
      have c13b0 : ((t560.length : Int) == (l0.length : Int)) = false := beq_eq_false_iff_ne.mpr c13
      have c13b1 : ((t560.length : Int) != (l0.length : Int)) = true := bne_iff_ne.mpr c13
      have c13b2 : (t560.length == l0.length) = false := by first | simpa using c13 | (simp at c13 ⊢; omega)
      have H' := Aside0.mk H
      clear H
      obtain ⟨Ao15, co15, eo15⟩ := Kd.R_slice HO564.out
      subst eo15
      go_wp2
      repeat (go_quiet (fail); try go_wp2)
      go_meet
      case rel => exact ⟨_, (true), sd_, H', ⟨by first | omega | exact Nat.le_refl _⟩, ⟨by (with_reducible repeat (first | apply Kd.R_alloc | apply Kd.R_drewN | apply Kd.R_drew)); exact HO564.out⟩, ⟨by repeat (first | (with_reducible first | exact HB.out | apply below_alloc | apply pw_below_drewN | apply below_drew1) | exact HB.out)⟩⟩
    ·replace c12 := Bool.eq_false_iff.mpr c12
     subst c12
     have H1 : (cohousingtop_w17Settled.j0 k l0 l1 t560 t561 true) = some r := by rw [if_neg (show ¬ (false = true) by decide)] at H; exact H
     clear H
     have H := H1
     clear H1
     have H' := Aside0.mk H
     clear H
     go_wp2
     repeat (go_quiet (fail); try go_wp2)
     go_meet
     case rel => exact ⟨_, (true), sd_, H', ⟨by first | omega | exact Nat.le_refl _⟩, ⟨by (with_reducible repeat (first | apply Kd.R_alloc | apply Kd.R_drewN | apply Kd.R_drew)); exact HO564.out⟩, ⟨by repeat (first | (with_reducible first | exact HB.out | apply below_alloc | apply pw_below_drewN | apply below_drew1) | exact HB.out)⟩⟩
   ·rw [if_neg c11] at H
    have c11b0 : (t562 == 0) = false := beq_eq_false_iff_ne.mpr c11
    have c11b1 : (t562 != 0) = true := bne_iff_ne.mpr c11
    have H' := Aside0.mk H
    clear H
    go_wp2
    repeat (go_quiet (fail); try go_wp2)
    go_meet
    case rel => exact ⟨_, (true), sd_, H', ⟨by first | omega | exact Nat.le_refl _⟩, ⟨by (with_reducible repeat (first | apply Kd.R_alloc | apply Kd.R_drewN | apply Kd.R_drew)); exact HO564.out⟩, ⟨by repeat (first | (with_reducible first | exact HB.out | apply below_alloc | apply pw_below_drewN | apply below_drew1) | exact HB.out)⟩⟩
  ·rw [if_neg c10] at H
   have c10b0 : (t559 == 0) = false := beq_eq_false_iff_ne.mpr c10
   have c10b1 : (t559 != 0) = true := bne_iff_ne.mpr c10
   (first | rw [c10b0] | (simp only [i64_w, i32_w]; rw [c10b0]) | skip)
   have H' := Aside0.mk H
   clear H
   go_wp2
   repeat (go_quiet (fail); try go_wp2)
   go_meet
   case rel => exact ⟨_, (true), sd_, H', ⟨by first | omega | exact Nat.le_refl _⟩, ⟨by (with_reducible repeat (first | apply Kd.R_alloc | apply Kd.R_drewN | apply Kd.R_drew)); exact HO564.out⟩, ⟨by repeat (first | (with_reducible first | exact HB.out | apply below_alloc | apply pw_below_drewN | apply below_drew1) | exact HB.out)⟩⟩
 case rest =>
  clear HC7
  try clear c1
  try clear c2
  try clear p2
  try clear c10
  try clear c10b0
  try clear c10b1
  try clear c11
  try clear c11b0
  try clear c11b1
  try clear c12
  try clear c13
  try clear c13b0
  try clear c13b1
  try clear c13b2
  obtain ⟨kq, x54_6, rfl, HA, HJ6, HO_11, HB⟩ := hcut
  cases kq with
  | zero => exact absurd HA.out (by simp [cohousingtop_w17Settled.j0])
  | succ kj6 =>
   have H := HA.out
   clear HA
   simp only [cohousingtop_w17Settled.j0] at H
   by_cases c16 : x54_6 = true
   ·subst c16
    have H1 : (some false) = some r := by rw [if_pos rfl] at H; exact H
    clear H
    have H := H1
    clear H1
    obtain rfl := Option.some.inj H
    go_wp2
    repeat (go_quiet (fail); try go_wp2)
    go_ret
    exact ⟨ew_, by repeat (first | (with_reducible first | exact HB.out | apply below_alloc | apply pw_below_drewN | apply below_drew1) | exact HB.out)⟩
   ·replace c16 := Bool.eq_false_iff.mpr c16
    subst c16
    have H1 : (cohousingtop_w17Settled.l0 kj6 l0 l1 t560 t561 (t560.length : Int) 0) = some r := by rw [if_neg (show ¬ (false = true) by decide)] at H; exact H
    clear H
    have H := H1
    clear H1
    have H' := Aside0.mk H
    clear H
    obtain ⟨Ao17, co17, eo17⟩ := Kd.R_slice HO_11.out
    subst eo17
    go_wp2
    repeat (go_quiet (fail); try go_wp2)
    go_loopg [14, 58] kj6 (fun kq v14 v58 w' => ∃ (x14_2 : Int) (x58_2 : Int), v14 = .int .i64 x14_2 ∧ v58 = .int .i64 x58_2 ∧ Aside0 (cohousingtop_w17Settled.l0 kq l0 l1 t560 x14_2 (t560.length : Int) x58_2 = some r) ∧ Aside0 (kq ≤ kj6) ∧ Aside0 (Kd.R k40 40 w' w.heap.size (fun _ => True) (.slice Ao17 t560.length co17) t560) ∧ Aside0 (Below w.heap.size w w'))
    case atStart => exact ⟨(t561), (0), sd_, sd_, H', ⟨Nat.le_refl _⟩, ⟨by (with_reducible repeat (first | apply Kd.R_alloc | apply Kd.R_drewN | apply Kd.R_drew)); exact HO_11.out⟩, ⟨by repeat (first | (with_reducible first | exact HB.out | apply below_alloc | apply pw_below_drewN | apply below_drew1) | exact HB.out)⟩⟩
    case round =>
     clear H'
     try clear c1
     try clear c2
     try clear p2
     try clear c10
     try clear c10b0
     try clear c10b1
     try clear c11
     try clear c11b0
     try clear c11b1
     try clear c12
     try clear c13
     try clear c13b0
     try clear c13b1
     try clear c13b2
     try clear c16
     try clear p2
     obtain ⟨x14_2, x58_2, rfl, rfl, HA, HK2, HO_11, HB⟩ := hrel
     cases gk with
     | zero => exact absurd HA.out (by simp [cohousingtop_w17Settled.l0])
     | succ k2 =>
      have H := HA.out
      clear HA
      simp only [cohousingtop_w17Settled.l0] at H
      by_cases c18 : x58_2 < (t560.length : Int)
      ·rw [if_pos c18] at H
       have c18b0 : decide (x58_2 < (t560.length : Int)) = true := decide_eq_true c18
       clear c18
       by_cases c19 : 0 ≤ x58_2
       ·rw [if_pos c19] at H
        have c19b0 : decide (0 ≤ x58_2) = true := decide_eq_true c19
        clear c19
        by_cases c20 : x58_2 < (t560.length : Int)
        ·rw [if_pos c20] at H
         have c20b0 : decide (x58_2 < (t560.length : Int)) = true := decide_eq_true c20
         clear c20
         by_cases c21 : x58_2 < (l0.length : Int)
         ·rw [if_pos c21] at H
          have c21b0 : decide (x58_2 < (l0.length : Int)) = true := decide_eq_true c21
          clear c21
          by_cases c22 : x58_2 < (l1.length : Int)
          ·rw [if_pos c22] at H
           have c22b0 : decide (x58_2 < (l1.length : Int)) = true := decide_eq_true c22
           clear c22
           by_cases c23 : (wrap64 (((rd_T40 l0 x58_2).f1) + ((rd_T40 t560 x58_2).f1))) = ((rd_T40 l1 x58_2).f1)
           ·rw [if_pos c23] at H
            have c23b0 : ((wrap64 (((rd_T40 l0 x58_2).f1) + ((rd_T40 t560 x58_2).f1))) == ((rd_T40 l1 x58_2).f1)) = true := beq_iff_eq.mpr c23
            have c23b1 : ((wrap64 (((rd_T40 l0 x58_2).f1) + ((rd_T40 t560 x58_2).f1))) != ((rd_T40 l1 x58_2).f1)) = false := bne_eq_false_iff_eq.mpr c23
            clear c23
            by_cases c24 : (((rd_T40 t560 x58_2).f3) != ((rd_T40 l1 x58_2).f3)) = true
            ·rw [if_pos c24] at H
             have c24b0 : (((rd_T40 t560 x58_2).f3) != ((rd_T40 l1 x58_2).f3)) = true := c24
             (try (have c24b1 : decide (((rd_T40 t560 x58_2).f3) = ((rd_T40 l1 x58_2).f3)) = false := by simpa using c24))
             (try (have c24b2 : (((rd_T40 t560 x58_2).f3) == ((rd_T40 l1 x58_2).f3)) = false := by simpa using c24))
             (try (have c24b3 : ¬ (((rd_T40 t560 x58_2).f3) = ((rd_T40 l1 x58_2).f3)) := by simpa using c24))
             clear c24
             obtain rfl := Option.some.inj H
             have p565 : 0 ≤ (x58_2 : Int) := od_
             have q565 : x58_2 < (t560.length : Int) := od_
             obtain ⟨ad565, e565, hx565_0, hx565_1, hx565_2, hx565_3, hx565_4⟩ := at_T40 (Kd.R_reads' HO_11.out).2.2 x58_2 p565 q565
             cases e565
             replace p565 := eq_true p565
             replace q565 := eq_true q565
             have p566 : 0 ≤ (x58_2 : Int) := od_
             have q566 : x58_2 < (l0.length : Int) := od_
             obtain ⟨ad566, e566, hx566_0, hx566_1, hx566_2, hx566_3, hx566_4⟩ := at_T40 HR0.out x58_2 p566 q566
             cases e566
             replace hx566_0 := (HB.out.cell (World.block_lt_of_cell? w _ hx566_0)).trans hx566_0
             replace hx566_1 := (HB.out.cell (World.block_lt_of_cell? w _ hx566_1)).trans hx566_1
             replace hx566_2 := (HB.out.cell (World.block_lt_of_cell? w _ hx566_2)).trans hx566_2
             replace hx566_3 := (HB.out.cell (World.block_lt_of_cell? w _ hx566_3)).trans hx566_3
             replace hx566_4 := (HB.out.cell (World.block_lt_of_cell? w _ hx566_4)).trans hx566_4
             replace p566 := eq_true p566
             replace q566 := eq_true q566
             have p567 : 0 ≤ (x58_2 : Int) := od_
             have q567 : x58_2 < (t560.length : Int) := od_
             obtain ⟨ad567, e567, hx567_0, hx567_1, hx567_2, hx567_3, hx567_4⟩ := at_T40 (Kd.R_reads' HO_11.out).2.2 x58_2 p567 q567
             obtain rfl : ad565 = ad567 := (by injection e567)
             replace p567 := eq_true p567
             replace q567 := eq_true q567
             have p568 : 0 ≤ (x58_2 : Int) := od_
             have q568 : x58_2 < (l1.length : Int) := od_
             obtain ⟨ad568, e568, hx568_0, hx568_1, hx568_2, hx568_3, hx568_4⟩ := at_T40 HR1.out x58_2 p568 q568
             cases e568
             replace hx568_0 := (HB.out.cell (World.block_lt_of_cell? w _ hx568_0)).trans hx568_0
             replace hx568_1 := (HB.out.cell (World.block_lt_of_cell? w _ hx568_1)).trans hx568_1
             replace hx568_2 := (HB.out.cell (World.block_lt_of_cell? w _ hx568_2)).trans hx568_2
             replace hx568_3 := (HB.out.cell (World.block_lt_of_cell? w _ hx568_3)).trans hx568_3
             replace hx568_4 := (HB.out.cell (World.block_lt_of_cell? w _ hx568_4)).trans hx568_4
             replace p568 := eq_true p568
             replace q568 := eq_true q568
             have p569 : 0 ≤ (x58_2 : Int) := od_
             have q569 : x58_2 < (t560.length : Int) := od_
             obtain ⟨ad569, e569, hx569_0, hx569_1, hx569_2, hx569_3, hx569_4⟩ := at_T40 (Kd.R_reads' HO_11.out).2.2 x58_2 p569 q569
             obtain rfl : ad565 = ad569 := (by injection e569)
             replace p569 := eq_true p569
             replace q569 := eq_true q569
             have p570 : 0 ≤ (x58_2 : Int) := od_
             have q570 : x58_2 < (l1.length : Int) := od_
             obtain ⟨ad570, e570, hx570_0, hx570_1, hx570_2, hx570_3, hx570_4⟩ := at_T40 HR1.out x58_2 p570 q570
             obtain rfl : ad568 = ad570 := (by injection e570)
             replace hx570_0 := (HB.out.cell (World.block_lt_of_cell? w _ hx570_0)).trans hx570_0
             replace hx570_1 := (HB.out.cell (World.block_lt_of_cell? w _ hx570_1)).trans hx570_1
             replace hx570_2 := (HB.out.cell (World.block_lt_of_cell? w _ hx570_2)).trans hx570_2
             replace hx570_3 := (HB.out.cell (World.block_lt_of_cell? w _ hx570_3)).trans hx570_3
             replace hx570_4 := (HB.out.cell (World.block_lt_of_cell? w _ hx570_4)).trans hx570_4
             replace p570 := eq_true p570
             replace q570 := eq_true q570
             go_wp2
             repeat (go_quiet (fail); try go_wp2)
             go_ret
             exact ⟨ew_, by repeat (first | (with_reducible first | exact HB.out | apply below_alloc | apply pw_below_drewN | apply below_drew1) | exact HB.out)⟩
            ·rw [if_neg c24] at H
             have c24b0 : (((rd_T40 t560 x58_2).f3) != ((rd_T40 l1 x58_2).f3)) = false := by simpa using c24
             (try (have c24b1 : decide (((rd_T40 t560 x58_2).f3) = ((rd_T40 l1 x58_2).f3)) = true := by simpa using c24))
             (try (have c24b2 : (((rd_T40 t560 x58_2).f3) == ((rd_T40 l1 x58_2).f3)) = true := by simpa using c24))
             clear c24
             by_cases c25 : ((rd_T40 l1 x58_2).f1) < ((rd_T40 l0 x58_2).f2.f0)
             ·rw [if_pos c25] at H
              have c25b0 : decide (((rd_T40 l1 x58_2).f1) < ((rd_T40 l0 x58_2).f2.f0)) = true := decide_eq_true c25
              clear c25
              obtain rfl := Option.some.inj H
              have p565 : 0 ≤ (x58_2 : Int) := od_
              have q565 : x58_2 < (t560.length : Int) := od_
              obtain ⟨ad565, e565, hx565_0, hx565_1, hx565_2, hx565_3, hx565_4⟩ := at_T40 (Kd.R_reads' HO_11.out).2.2 x58_2 p565 q565
              cases e565
              replace p565 := eq_true p565
              replace q565 := eq_true q565
              have p566 : 0 ≤ (x58_2 : Int) := od_
              have q566 : x58_2 < (l0.length : Int) := od_
              obtain ⟨ad566, e566, hx566_0, hx566_1, hx566_2, hx566_3, hx566_4⟩ := at_T40 HR0.out x58_2 p566 q566
              cases e566
              replace hx566_0 := (HB.out.cell (World.block_lt_of_cell? w _ hx566_0)).trans hx566_0
              replace hx566_1 := (HB.out.cell (World.block_lt_of_cell? w _ hx566_1)).trans hx566_1
              replace hx566_2 := (HB.out.cell (World.block_lt_of_cell? w _ hx566_2)).trans hx566_2
              replace hx566_3 := (HB.out.cell (World.block_lt_of_cell? w _ hx566_3)).trans hx566_3
              replace hx566_4 := (HB.out.cell (World.block_lt_of_cell? w _ hx566_4)).trans hx566_4
              replace p566 := eq_true p566
              replace q566 := eq_true q566
              have p567 : 0 ≤ (x58_2 : Int) := od_
              have q567 : x58_2 < (t560.length : Int) := od_
              obtain ⟨ad567, e567, hx567_0, hx567_1, hx567_2, hx567_3, hx567_4⟩ := at_T40 (Kd.R_reads' HO_11.out).2.2 x58_2 p567 q567
              obtain rfl : ad565 = ad567 := (by injection e567)
              replace p567 := eq_true p567
              replace q567 := eq_true q567
              have p568 : 0 ≤ (x58_2 : Int) := od_
              have q568 : x58_2 < (l1.length : Int) := od_
              obtain ⟨ad568, e568, hx568_0, hx568_1, hx568_2, hx568_3, hx568_4⟩ := at_T40 HR1.out x58_2 p568 q568
              cases e568
              replace hx568_0 := (HB.out.cell (World.block_lt_of_cell? w _ hx568_0)).trans hx568_0
              replace hx568_1 := (HB.out.cell (World.block_lt_of_cell? w _ hx568_1)).trans hx568_1
              replace hx568_2 := (HB.out.cell (World.block_lt_of_cell? w _ hx568_2)).trans hx568_2
              replace hx568_3 := (HB.out.cell (World.block_lt_of_cell? w _ hx568_3)).trans hx568_3
              replace hx568_4 := (HB.out.cell (World.block_lt_of_cell? w _ hx568_4)).trans hx568_4
              replace p568 := eq_true p568
              replace q568 := eq_true q568
              have p569 : 0 ≤ (x58_2 : Int) := od_
              have q569 : x58_2 < (t560.length : Int) := od_
              obtain ⟨ad569, e569, hx569_0, hx569_1, hx569_2, hx569_3, hx569_4⟩ := at_T40 (Kd.R_reads' HO_11.out).2.2 x58_2 p569 q569
              obtain rfl : ad565 = ad569 := (by injection e569)
              replace p569 := eq_true p569
              replace q569 := eq_true q569
              have p570 : 0 ≤ (x58_2 : Int) := od_
              have q570 : x58_2 < (l1.length : Int) := od_
              obtain ⟨ad570, e570, hx570_0, hx570_1, hx570_2, hx570_3, hx570_4⟩ := at_T40 HR1.out x58_2 p570 q570
              obtain rfl : ad568 = ad570 := (by injection e570)
              replace hx570_0 := (HB.out.cell (World.block_lt_of_cell? w _ hx570_0)).trans hx570_0
              replace hx570_1 := (HB.out.cell (World.block_lt_of_cell? w _ hx570_1)).trans hx570_1
              replace hx570_2 := (HB.out.cell (World.block_lt_of_cell? w _ hx570_2)).trans hx570_2
              replace hx570_3 := (HB.out.cell (World.block_lt_of_cell? w _ hx570_3)).trans hx570_3
              replace hx570_4 := (HB.out.cell (World.block_lt_of_cell? w _ hx570_4)).trans hx570_4
              replace p570 := eq_true p570
              replace q570 := eq_true q570
              have p571 : 0 ≤ (x58_2 : Int) := od_
              have q571 : x58_2 < (l1.length : Int) := od_
              obtain ⟨ad571, e571, hx571_0, hx571_1, hx571_2, hx571_3, hx571_4⟩ := at_T40 HR1.out x58_2 p571 q571
              obtain rfl : ad568 = ad571 := (by injection e571)
              replace hx571_0 := (HB.out.cell (World.block_lt_of_cell? w _ hx571_0)).trans hx571_0
              replace hx571_1 := (HB.out.cell (World.block_lt_of_cell? w _ hx571_1)).trans hx571_1
              replace hx571_2 := (HB.out.cell (World.block_lt_of_cell? w _ hx571_2)).trans hx571_2
              replace hx571_3 := (HB.out.cell (World.block_lt_of_cell? w _ hx571_3)).trans hx571_3
              replace hx571_4 := (HB.out.cell (World.block_lt_of_cell? w _ hx571_4)).trans hx571_4
              replace p571 := eq_true p571
              replace q571 := eq_true q571
              have p572 : 0 ≤ (x58_2 : Int) := od_
              have q572 : x58_2 < (l0.length : Int) := od_
              obtain ⟨ad572, e572, hx572_0, hx572_1, hx572_2, hx572_3, hx572_4⟩ := at_T40 HR0.out x58_2 p572 q572
              obtain rfl : ad566 = ad572 := (by injection e572)
              replace hx572_0 := (HB.out.cell (World.block_lt_of_cell? w _ hx572_0)).trans hx572_0
              replace hx572_1 := (HB.out.cell (World.block_lt_of_cell? w _ hx572_1)).trans hx572_1
              replace hx572_2 := (HB.out.cell (World.block_lt_of_cell? w _ hx572_2)).trans hx572_2
              replace hx572_3 := (HB.out.cell (World.block_lt_of_cell? w _ hx572_3)).trans hx572_3
              replace hx572_4 := (HB.out.cell (World.block_lt_of_cell? w _ hx572_4)).trans hx572_4
              replace p572 := eq_true p572
              replace q572 := eq_true q572
              go_wp2
              repeat (go_quiet (fail); try go_wp2)
              go_ret
              exact ⟨ew_, by repeat (first | (with_reducible first | exact HB.out | apply below_alloc | apply pw_below_drewN | apply below_drew1) | exact HB.out)⟩
             ·rw [if_neg c25] at H
              have c25b0 : decide (((rd_T40 l1 x58_2).f1) < ((rd_T40 l0 x58_2).f2.f0)) = false := decide_eq_false c25
              clear c25
              by_cases c26 : ((rd_T40 l1 x58_2).f1) > ((rd_T40 l0 x58_2).f2.f1)
              ·rw [if_pos c26] at H
               have c26b0 : decide (((rd_T40 l0 x58_2).f2.f1) < ((rd_T40 l1 x58_2).f1)) = true := decide_eq_true c26
               clear c26
               obtain rfl := Option.some.inj H
               have p565 : 0 ≤ (x58_2 : Int) := od_
               have q565 : x58_2 < (t560.length : Int) := od_
               obtain ⟨ad565, e565, hx565_0, hx565_1, hx565_2, hx565_3, hx565_4⟩ := at_T40 (Kd.R_reads' HO_11.out).2.2 x58_2 p565 q565
               cases e565
               replace p565 := eq_true p565
               replace q565 := eq_true q565
               have p566 : 0 ≤ (x58_2 : Int) := od_
               have q566 : x58_2 < (l0.length : Int) := od_
               obtain ⟨ad566, e566, hx566_0, hx566_1, hx566_2, hx566_3, hx566_4⟩ := at_T40 HR0.out x58_2 p566 q566
               cases e566
               replace hx566_0 := (HB.out.cell (World.block_lt_of_cell? w _ hx566_0)).trans hx566_0
               replace hx566_1 := (HB.out.cell (World.block_lt_of_cell? w _ hx566_1)).trans hx566_1
               replace hx566_2 := (HB.out.cell (World.block_lt_of_cell? w _ hx566_2)).trans hx566_2
               replace hx566_3 := (HB.out.cell (World.block_lt_of_cell? w _ hx566_3)).trans hx566_3
               replace hx566_4 := (HB.out.cell (World.block_lt_of_cell? w _ hx566_4)).trans hx566_4
               replace p566 := eq_true p566
               replace q566 := eq_true q566
               have p567 : 0 ≤ (x58_2 : Int) := od_
               have q567 : x58_2 < (t560.length : Int) := od_
               obtain ⟨ad567, e567, hx567_0, hx567_1, hx567_2, hx567_3, hx567_4⟩ := at_T40 (Kd.R_reads' HO_11.out).2.2 x58_2 p567 q567
               obtain rfl : ad565 = ad567 := (by injection e567)
               replace p567 := eq_true p567
               replace q567 := eq_true q567
               have p568 : 0 ≤ (x58_2 : Int) := od_
               have q568 : x58_2 < (l1.length : Int) := od_
               obtain ⟨ad568, e568, hx568_0, hx568_1, hx568_2, hx568_3, hx568_4⟩ := at_T40 HR1.out x58_2 p568 q568
               cases e568
               replace hx568_0 := (HB.out.cell (World.block_lt_of_cell? w _ hx568_0)).trans hx568_0
               replace hx568_1 := (HB.out.cell (World.block_lt_of_cell? w _ hx568_1)).trans hx568_1
               replace hx568_2 := (HB.out.cell (World.block_lt_of_cell? w _ hx568_2)).trans hx568_2
               replace hx568_3 := (HB.out.cell (World.block_lt_of_cell? w _ hx568_3)).trans hx568_3
               replace hx568_4 := (HB.out.cell (World.block_lt_of_cell? w _ hx568_4)).trans hx568_4
               replace p568 := eq_true p568
               replace q568 := eq_true q568
               have p569 : 0 ≤ (x58_2 : Int) := od_
               have q569 : x58_2 < (t560.length : Int) := od_
               obtain ⟨ad569, e569, hx569_0, hx569_1, hx569_2, hx569_3, hx569_4⟩ := at_T40 (Kd.R_reads' HO_11.out).2.2 x58_2 p569 q569
               obtain rfl : ad565 = ad569 := (by injection e569)
               replace p569 := eq_true p569
               replace q569 := eq_true q569
               have p570 : 0 ≤ (x58_2 : Int) := od_
               have q570 : x58_2 < (l1.length : Int) := od_
               obtain ⟨ad570, e570, hx570_0, hx570_1, hx570_2, hx570_3, hx570_4⟩ := at_T40 HR1.out x58_2 p570 q570
               obtain rfl : ad568 = ad570 := (by injection e570)
               replace hx570_0 := (HB.out.cell (World.block_lt_of_cell? w _ hx570_0)).trans hx570_0
               replace hx570_1 := (HB.out.cell (World.block_lt_of_cell? w _ hx570_1)).trans hx570_1
               replace hx570_2 := (HB.out.cell (World.block_lt_of_cell? w _ hx570_2)).trans hx570_2
               replace hx570_3 := (HB.out.cell (World.block_lt_of_cell? w _ hx570_3)).trans hx570_3
               replace hx570_4 := (HB.out.cell (World.block_lt_of_cell? w _ hx570_4)).trans hx570_4
               replace p570 := eq_true p570
               replace q570 := eq_true q570
               have p571 : 0 ≤ (x58_2 : Int) := od_
               have q571 : x58_2 < (l1.length : Int) := od_
               obtain ⟨ad571, e571, hx571_0, hx571_1, hx571_2, hx571_3, hx571_4⟩ := at_T40 HR1.out x58_2 p571 q571
               obtain rfl : ad568 = ad571 := (by injection e571)
               replace hx571_0 := (HB.out.cell (World.block_lt_of_cell? w _ hx571_0)).trans hx571_0
               replace hx571_1 := (HB.out.cell (World.block_lt_of_cell? w _ hx571_1)).trans hx571_1
               replace hx571_2 := (HB.out.cell (World.block_lt_of_cell? w _ hx571_2)).trans hx571_2
               replace hx571_3 := (HB.out.cell (World.block_lt_of_cell? w _ hx571_3)).trans hx571_3
               replace hx571_4 := (HB.out.cell (World.block_lt_of_cell? w _ hx571_4)).trans hx571_4
               replace p571 := eq_true p571
               replace q571 := eq_true q571
               have p572 : 0 ≤ (x58_2 : Int) := od_
               have q572 : x58_2 < (l0.length : Int) := od_
               obtain ⟨ad572, e572, hx572_0, hx572_1, hx572_2, hx572_3, hx572_4⟩ := at_T40 HR0.out x58_2 p572 q572
               obtain rfl : ad566 = ad572 := (by injection e572)
               replace hx572_0 := (HB.out.cell (World.block_lt_of_cell? w _ hx572_0)).trans hx572_0
               replace hx572_1 := (HB.out.cell (World.block_lt_of_cell? w _ hx572_1)).trans hx572_1
               replace hx572_2 := (HB.out.cell (World.block_lt_of_cell? w _ hx572_2)).trans hx572_2
               replace hx572_3 := (HB.out.cell (World.block_lt_of_cell? w _ hx572_3)).trans hx572_3
               replace hx572_4 := (HB.out.cell (World.block_lt_of_cell? w _ hx572_4)).trans hx572_4
               replace p572 := eq_true p572
               replace q572 := eq_true q572
               have p573 : 0 ≤ (x58_2 : Int) := od_
               have q573 : x58_2 < (l1.length : Int) := od_
               obtain ⟨ad573, e573, hx573_0, hx573_1, hx573_2, hx573_3, hx573_4⟩ := at_T40 HR1.out x58_2 p573 q573
               obtain rfl : ad568 = ad573 := (by injection e573)
               replace hx573_0 := (HB.out.cell (World.block_lt_of_cell? w _ hx573_0)).trans hx573_0
               replace hx573_1 := (HB.out.cell (World.block_lt_of_cell? w _ hx573_1)).trans hx573_1
               replace hx573_2 := (HB.out.cell (World.block_lt_of_cell? w _ hx573_2)).trans hx573_2
               replace hx573_3 := (HB.out.cell (World.block_lt_of_cell? w _ hx573_3)).trans hx573_3
               replace hx573_4 := (HB.out.cell (World.block_lt_of_cell? w _ hx573_4)).trans hx573_4
               replace p573 := eq_true p573
               replace q573 := eq_true q573
               have p574 : 0 ≤ (x58_2 : Int) := od_
               have q574 : x58_2 < (l0.length : Int) := od_
               obtain ⟨ad574, e574, hx574_0, hx574_1, hx574_2, hx574_3, hx574_4⟩ := at_T40 HR0.out x58_2 p574 q574
               obtain rfl : ad566 = ad574 := (by injection e574)
               replace hx574_0 := (HB.out.cell (World.block_lt_of_cell? w _ hx574_0)).trans hx574_0
               replace hx574_1 := (HB.out.cell (World.block_lt_of_cell? w _ hx574_1)).trans hx574_1
               replace hx574_2 := (HB.out.cell (World.block_lt_of_cell? w _ hx574_2)).trans hx574_2
               replace hx574_3 := (HB.out.cell (World.block_lt_of_cell? w _ hx574_3)).trans hx574_3
               replace hx574_4 := (HB.out.cell (World.block_lt_of_cell? w _ hx574_4)).trans hx574_4
               replace p574 := eq_true p574
               replace q574 := eq_true q574
               go_wp2
               repeat (go_quiet (fail); try go_wp2)
               go_ret
               exact ⟨ew_, by repeat (first | (with_reducible first | exact HB.out | apply below_alloc | apply pw_below_drewN | apply below_drew1) | exact HB.out)⟩
              ·rw [if_neg c26] at H
               have c26b0 : decide (((rd_T40 l0 x58_2).f2.f1) < ((rd_T40 l1 x58_2).f1)) = false := decide_eq_false c26
               clear c26
               have H' := Aside0.mk H
               clear H
               have p565 : 0 ≤ (x58_2 : Int) := od_
               have q565 : x58_2 < (t560.length : Int) := od_
               obtain ⟨ad565, e565, hx565_0, hx565_1, hx565_2, hx565_3, hx565_4⟩ := at_T40 (Kd.R_reads' HO_11.out).2.2 x58_2 p565 q565
               cases e565
               replace p565 := eq_true p565
               replace q565 := eq_true q565
               have p566 : 0 ≤ (x58_2 : Int) := od_
               have q566 : x58_2 < (l0.length : Int) := od_
               obtain ⟨ad566, e566, hx566_0, hx566_1, hx566_2, hx566_3, hx566_4⟩ := at_T40 HR0.out x58_2 p566 q566
               cases e566
               replace hx566_0 := (HB.out.cell (World.block_lt_of_cell? w _ hx566_0)).trans hx566_0
               replace hx566_1 := (HB.out.cell (World.block_lt_of_cell? w _ hx566_1)).trans hx566_1
               replace hx566_2 := (HB.out.cell (World.block_lt_of_cell? w _ hx566_2)).trans hx566_2
               replace hx566_3 := (HB.out.cell (World.block_lt_of_cell? w _ hx566_3)).trans hx566_3
               replace hx566_4 := (HB.out.cell (World.block_lt_of_cell? w _ hx566_4)).trans hx566_4
               replace p566 := eq_true p566
               replace q566 := eq_true q566
               have p567 : 0 ≤ (x58_2 : Int) := od_
               have q567 : x58_2 < (t560.length : Int) := od_
               obtain ⟨ad567, e567, hx567_0, hx567_1, hx567_2, hx567_3, hx567_4⟩ := at_T40 (Kd.R_reads' HO_11.out).2.2 x58_2 p567 q567
               obtain rfl : ad565 = ad567 := (by injection e567)
               replace p567 := eq_true p567
               replace q567 := eq_true q567
               have p568 : 0 ≤ (x58_2 : Int) := od_
               have q568 : x58_2 < (l1.length : Int) := od_
               obtain ⟨ad568, e568, hx568_0, hx568_1, hx568_2, hx568_3, hx568_4⟩ := at_T40 HR1.out x58_2 p568 q568
               cases e568
               replace hx568_0 := (HB.out.cell (World.block_lt_of_cell? w _ hx568_0)).trans hx568_0
               replace hx568_1 := (HB.out.cell (World.block_lt_of_cell? w _ hx568_1)).trans hx568_1
               replace hx568_2 := (HB.out.cell (World.block_lt_of_cell? w _ hx568_2)).trans hx568_2
               replace hx568_3 := (HB.out.cell (World.block_lt_of_cell? w _ hx568_3)).trans hx568_3
               replace hx568_4 := (HB.out.cell (World.block_lt_of_cell? w _ hx568_4)).trans hx568_4
               replace p568 := eq_true p568
               replace q568 := eq_true q568
               have p569 : 0 ≤ (x58_2 : Int) := od_
               have q569 : x58_2 < (t560.length : Int) := od_
               obtain ⟨ad569, e569, hx569_0, hx569_1, hx569_2, hx569_3, hx569_4⟩ := at_T40 (Kd.R_reads' HO_11.out).2.2 x58_2 p569 q569
               obtain rfl : ad565 = ad569 := (by injection e569)
               replace p569 := eq_true p569
               replace q569 := eq_true q569
               have p570 : 0 ≤ (x58_2 : Int) := od_
               have q570 : x58_2 < (l1.length : Int) := od_
               obtain ⟨ad570, e570, hx570_0, hx570_1, hx570_2, hx570_3, hx570_4⟩ := at_T40 HR1.out x58_2 p570 q570
               obtain rfl : ad568 = ad570 := (by injection e570)
               replace hx570_0 := (HB.out.cell (World.block_lt_of_cell? w _ hx570_0)).trans hx570_0
               replace hx570_1 := (HB.out.cell (World.block_lt_of_cell? w _ hx570_1)).trans hx570_1
               replace hx570_2 := (HB.out.cell (World.block_lt_of_cell? w _ hx570_2)).trans hx570_2
               replace hx570_3 := (HB.out.cell (World.block_lt_of_cell? w _ hx570_3)).trans hx570_3
               replace hx570_4 := (HB.out.cell (World.block_lt_of_cell? w _ hx570_4)).trans hx570_4
               replace p570 := eq_true p570
               replace q570 := eq_true q570
               have p571 : 0 ≤ (x58_2 : Int) := od_
               have q571 : x58_2 < (l1.length : Int) := od_
               obtain ⟨ad571, e571, hx571_0, hx571_1, hx571_2, hx571_3, hx571_4⟩ := at_T40 HR1.out x58_2 p571 q571
               obtain rfl : ad568 = ad571 := (by injection e571)
               replace hx571_0 := (HB.out.cell (World.block_lt_of_cell? w _ hx571_0)).trans hx571_0
               replace hx571_1 := (HB.out.cell (World.block_lt_of_cell? w _ hx571_1)).trans hx571_1
               replace hx571_2 := (HB.out.cell (World.block_lt_of_cell? w _ hx571_2)).trans hx571_2
               replace hx571_3 := (HB.out.cell (World.block_lt_of_cell? w _ hx571_3)).trans hx571_3
               replace hx571_4 := (HB.out.cell (World.block_lt_of_cell? w _ hx571_4)).trans hx571_4
               replace p571 := eq_true p571
               replace q571 := eq_true q571
               have p572 : 0 ≤ (x58_2 : Int) := od_
               have q572 : x58_2 < (l0.length : Int) := od_
               obtain ⟨ad572, e572, hx572_0, hx572_1, hx572_2, hx572_3, hx572_4⟩ := at_T40 HR0.out x58_2 p572 q572
               obtain rfl : ad566 = ad572 := (by injection e572)
               replace hx572_0 := (HB.out.cell (World.block_lt_of_cell? w _ hx572_0)).trans hx572_0
               replace hx572_1 := (HB.out.cell (World.block_lt_of_cell? w _ hx572_1)).trans hx572_1
               replace hx572_2 := (HB.out.cell (World.block_lt_of_cell? w _ hx572_2)).trans hx572_2
               replace hx572_3 := (HB.out.cell (World.block_lt_of_cell? w _ hx572_3)).trans hx572_3
               replace hx572_4 := (HB.out.cell (World.block_lt_of_cell? w _ hx572_4)).trans hx572_4
               replace p572 := eq_true p572
               replace q572 := eq_true q572
               have p573 : 0 ≤ (x58_2 : Int) := od_
               have q573 : x58_2 < (l1.length : Int) := od_
               obtain ⟨ad573, e573, hx573_0, hx573_1, hx573_2, hx573_3, hx573_4⟩ := at_T40 HR1.out x58_2 p573 q573
               obtain rfl : ad568 = ad573 := (by injection e573)
               replace hx573_0 := (HB.out.cell (World.block_lt_of_cell? w _ hx573_0)).trans hx573_0
               replace hx573_1 := (HB.out.cell (World.block_lt_of_cell? w _ hx573_1)).trans hx573_1
               replace hx573_2 := (HB.out.cell (World.block_lt_of_cell? w _ hx573_2)).trans hx573_2
               replace hx573_3 := (HB.out.cell (World.block_lt_of_cell? w _ hx573_3)).trans hx573_3
               replace hx573_4 := (HB.out.cell (World.block_lt_of_cell? w _ hx573_4)).trans hx573_4
               replace p573 := eq_true p573
               replace q573 := eq_true q573
               have p574 : 0 ≤ (x58_2 : Int) := od_
               have q574 : x58_2 < (l0.length : Int) := od_
               obtain ⟨ad574, e574, hx574_0, hx574_1, hx574_2, hx574_3, hx574_4⟩ := at_T40 HR0.out x58_2 p574 q574
               obtain rfl : ad566 = ad574 := (by injection e574)
               replace hx574_0 := (HB.out.cell (World.block_lt_of_cell? w _ hx574_0)).trans hx574_0
               replace hx574_1 := (HB.out.cell (World.block_lt_of_cell? w _ hx574_1)).trans hx574_1
               replace hx574_2 := (HB.out.cell (World.block_lt_of_cell? w _ hx574_2)).trans hx574_2
               replace hx574_3 := (HB.out.cell (World.block_lt_of_cell? w _ hx574_3)).trans hx574_3
               replace hx574_4 := (HB.out.cell (World.block_lt_of_cell? w _ hx574_4)).trans hx574_4
               replace p574 := eq_true p574
               replace q574 := eq_true q574
               go_wp2
               repeat (go_quiet (fail); try go_wp2)
               go_roundg k2
               case measure => have := HJ6.out; have := HK2.out; omega
               case rel => exact ⟨(wrap64 (x14_2 + ((rd_T40 t560 x58_2).f1))), (wrap64 (x58_2 + 1)), sd_, sd_, H', ⟨by have := HJ6.out; have := HK2.out; omega⟩, ⟨by (with_reducible repeat (first | apply Kd.R_alloc | apply Kd.R_drewN | apply Kd.R_drew)); exact HO_11.out⟩, ⟨by repeat (first | (with_reducible first | exact HB.out | apply below_alloc | apply pw_below_drewN | apply below_drew1) | exact HB.out)⟩⟩
           ·rw [if_neg c23] at H
            have c23b0 : ((wrap64 (((rd_T40 l0 x58_2).f1) + ((rd_T40 t560 x58_2).f1))) == ((rd_T40 l1 x58_2).f1)) = false := beq_eq_false_iff_ne.mpr c23
            have c23b1 : ((wrap64 (((rd_T40 l0 x58_2).f1) + ((rd_T40 t560 x58_2).f1))) != ((rd_T40 l1 x58_2).f1)) = true := bne_iff_ne.mpr c23
            obtain rfl := Option.some.inj H
            have p565 : 0 ≤ (x58_2 : Int) := od_
            have q565 : x58_2 < (t560.length : Int) := od_
            obtain ⟨ad565, e565, hx565_0, hx565_1, hx565_2, hx565_3, hx565_4⟩ := at_T40 (Kd.R_reads' HO_11.out).2.2 x58_2 p565 q565
            cases e565
            replace p565 := eq_true p565
            replace q565 := eq_true q565
            have p566 : 0 ≤ (x58_2 : Int) := od_
            have q566 : x58_2 < (l0.length : Int) := od_
            obtain ⟨ad566, e566, hx566_0, hx566_1, hx566_2, hx566_3, hx566_4⟩ := at_T40 HR0.out x58_2 p566 q566
            cases e566
            replace hx566_0 := (HB.out.cell (World.block_lt_of_cell? w _ hx566_0)).trans hx566_0
            replace hx566_1 := (HB.out.cell (World.block_lt_of_cell? w _ hx566_1)).trans hx566_1
            replace hx566_2 := (HB.out.cell (World.block_lt_of_cell? w _ hx566_2)).trans hx566_2
            replace hx566_3 := (HB.out.cell (World.block_lt_of_cell? w _ hx566_3)).trans hx566_3
            replace hx566_4 := (HB.out.cell (World.block_lt_of_cell? w _ hx566_4)).trans hx566_4
            replace p566 := eq_true p566
            replace q566 := eq_true q566
            have p567 : 0 ≤ (x58_2 : Int) := od_
            have q567 : x58_2 < (t560.length : Int) := od_
            obtain ⟨ad567, e567, hx567_0, hx567_1, hx567_2, hx567_3, hx567_4⟩ := at_T40 (Kd.R_reads' HO_11.out).2.2 x58_2 p567 q567
            obtain rfl : ad565 = ad567 := (by injection e567)
            replace p567 := eq_true p567
            replace q567 := eq_true q567
            have p568 : 0 ≤ (x58_2 : Int) := od_
            have q568 : x58_2 < (l1.length : Int) := od_
            obtain ⟨ad568, e568, hx568_0, hx568_1, hx568_2, hx568_3, hx568_4⟩ := at_T40 HR1.out x58_2 p568 q568
            cases e568
            replace hx568_0 := (HB.out.cell (World.block_lt_of_cell? w _ hx568_0)).trans hx568_0
            replace hx568_1 := (HB.out.cell (World.block_lt_of_cell? w _ hx568_1)).trans hx568_1
            replace hx568_2 := (HB.out.cell (World.block_lt_of_cell? w _ hx568_2)).trans hx568_2
            replace hx568_3 := (HB.out.cell (World.block_lt_of_cell? w _ hx568_3)).trans hx568_3
            replace hx568_4 := (HB.out.cell (World.block_lt_of_cell? w _ hx568_4)).trans hx568_4
            replace p568 := eq_true p568
            replace q568 := eq_true q568
            go_wp2
            repeat (go_quiet (fail); try go_wp2)
            go_ret
            exact ⟨ew_, by repeat (first | (with_reducible first | exact HB.out | apply below_alloc | apply pw_below_drewN | apply below_drew1) | exact HB.out)⟩
          ·rw [if_neg c22] at H
           exact absurd H (by simp)
         ·rw [if_neg c21] at H
          exact absurd H (by simp)
        ·rw [if_neg c20] at H
         exact absurd H (by simp)
       ·rw [if_neg c19] at H
        exact absurd H (by simp)
      ·rw [if_neg c18] at H
       have c18b0 : decide (x58_2 < (t560.length : Int)) = false := decide_eq_false c18
       clear c18
       obtain rfl := Option.some.inj H
       go_wp2
       repeat (go_quiet (fail); try go_wp2)
       go_ret
       exact ⟨ew_, by repeat (first | (with_reducible first | exact HB.out | apply below_alloc | apply pw_below_drewN | apply below_drew1) | exact HB.out)⟩
end
end Go.Proofs.Ythjjabcbngffoaa.P
end
section
namespace Go.Proofs.FlowTree
def sm (f : Nat → Int) (ks : List Nat) : Int := (ks.map f).foldl (· + ·) 0
theorem foldl_add (l : List Int) : ∀ a : Int, l.foldl (· + ·) a = a + l.foldl (· + ·) 0 := by
 induction l with
 | nil => intro a; simp
 | cons x l ih => intro a; rw [List.foldl_cons, List.foldl_cons, ih (a + x), ih (0 + x)]; omega
theorem sm_nil (f : Nat → Int) : sm f [] = 0 := rfl
theorem sm_cons (f : Nat → Int) (k : Nat) (ks : List Nat) : sm f (k :: ks) = f k + sm f ks := by
 unfold sm
 rw [List.map_cons, List.foldl_cons, foldl_add]; omega
theorem sm_congr {f g : Nat → Int} {ks : List Nat} (h : ∀ k ∈ ks, f k = g k) : sm f ks = sm g ks := by
 induction ks with
 | nil => rfl
 | cons k ks ih => rw [sm_cons, sm_cons, h k (by simp), ih (fun j hj => h j (by simp [hj]))]
theorem sm_le {f g : Nat → Int} {ks : List Nat} (h : ∀ k ∈ ks, f k ≤ g k) : sm f ks ≤ sm g ks := by
 induction ks with
 | nil => exact Int.le_refl _
 | cons k ks ih => rw [sm_cons, sm_cons]; have := h k (by simp); have := ih (fun j hj => h j (by simp [hj])); omega
theorem sm_bound {f : Nat → Int} {ks : List Nat} {a b : Int} (h : ∀ k ∈ ks, a ≤ f k ∧ f k ≤ b) : a * ks.length ≤ sm f ks ∧ sm f ks ≤ b * ks.length := by
 induction ks with
 | nil => simp [sm_nil]
 | cons k ks ih =>
  rw [sm_cons]
  have h1 := h k (by simp)
  have h2 := ih (fun j hj => h j (by simp [hj]))
  simp only [List.length_cons, Int.natCast_add, Int.natCast_one, Int.mul_add, Int.mul_one]
  omega
theorem sm_add (f g : Nat → Int) (ks : List Nat) : sm (fun k => f k + g k) ks = sm f ks + sm g ks := by
 induction ks with
 | nil => rfl
 | cons k ks ih => rw [sm_cons, sm_cons, sm_cons, ih]; omega
theorem sm_nonneg {f : Nat → Int} {ks : List Nat} (h : ∀ k ∈ ks, 0 ≤ f k) : 0 ≤ sm f ks := by
 induction ks with
 | nil => exact Int.le_refl _
 | cons k ks ih => rw [sm_cons]; have := h k (by simp); have := ih (fun j hj => h j (by simp [hj])); omega
theorem sm_append (f : Nat → Int) (a b : List Nat) : sm f (a ++ b) = sm f a + sm f b := by
 induction a with
 | nil => simp [sm_nil]
 | cons x a ih => rw [List.cons_append, sm_cons, sm_cons, ih]; omega
theorem sm_split (f : Nat → Int) {ks : List Nat} {k : Nat} (hk : k ∈ ks) : ∃ a b, ks = a ++ k :: b ∧ sm f ks = f k + sm f (a ++ b) := by
 obtain ⟨a, b, rfl⟩ := List.append_of_mem hk
 exact ⟨a, b, rfl, by rw [sm_append, sm_append, sm_cons]; omega⟩
theorem fill (lo hi : Nat → Int) (ks : List Nat) (hn : ks.Nodup) (h : ∀ k ∈ ks, lo k ≤ hi k) : ∀ s, sm lo ks ≤ s → s ≤ sm hi ks → ∃ c : Nat → Int, (∀ k ∈ ks, lo k ≤ c k ∧ c k ≤ hi k) ∧ sm c ks = s := by
 induction ks with
 | nil => intro s h1 h2; exact ⟨fun _ => 0, (fun k hk => by cases hk), (by rw [sm_nil] at *; omega)⟩
 | cons k ks ih =>
  intro s h1 h2
  rw [sm_cons] at h1 h2
  have hk := h k (by simp)
  have hle := sm_le (fun j hj => h j (List.mem_cons_of_mem _ hj))
  rw [List.nodup_cons] at hn
  have key : ∃ v, lo k ≤ v ∧ v ≤ hi k ∧ sm lo ks ≤ s - v ∧ s - v ≤ sm hi ks := by
   by_cases hc : s - lo k ≤ sm hi ks
   ·exact ⟨lo k, by omega, by omega, by omega, by omega⟩
   ·exact ⟨s - sm hi ks, by omega, by omega, by omega, by omega⟩
  obtain ⟨v, hv1, hv2, hv3, hv4⟩ := key
  obtain ⟨c, hc, hs⟩ := ih hn.2 (fun j hj => h j (List.mem_cons_of_mem _ hj)) (s - v) hv3 hv4
  refine ⟨fun j => if j = k then v else c j, ?_, ?_⟩
  ·intro j hj
   rcases List.mem_cons.1 hj with rfl | hj
   ·simp only [if_true]; exact ⟨hv1, hv2⟩
   ·have : j ≠ k := fun e => hn.1 (e ▸ hj)
    simp only [this, if_false]; exact hc j hj
  ·rw [sm_cons]
   simp only [if_true]
   rw [sm_congr (g := c) (fun j hj => by have : j ≠ k := fun e => hn.1 (e ▸ hj); simp [this]), hs]; omega
structure Net where
 n : Nat
 kid : Nat → List Nat
 loss : Nat → Int
structure Net.Ok (T : Net) : Prop where
 lt : ∀ i k, k ∈ T.kid i → i < k ∧ k < T.n
 nodup : ∀ i, (T.kid i).Nodup
 one : ∀ i j k, k ∈ T.kid i → k ∈ T.kid j → i = j
 loss0 : ∀ i, i < T.n → 0 ≤ T.loss i
def Net.eq (T : Net) (x : Nat → Int) (i : Nat) : Prop := T.kid i ≠ [] → 0 ≤ x i - sm x (T.kid i) ∧ x i - sm x (T.kid i) ≤ T.loss i
def Sol (T : Net) (lo hi : Nat → Int) (x : Nat → Int) : Prop := (∀ i, i < T.n → lo i ≤ x i ∧ x i ≤ hi i) ∧ ∀ i, i < T.n → T.eq x i
theorem eq_congr {T : Net} {x y : Nat → Int} {i : Nat} (h0 : x i = y i) (h : ∀ k ∈ T.kid i, x k = y k) (hx : T.eq x i) : T.eq y i := by
 intro hk
 have := hx hk
 rw [sm_congr h, h0] at this
 exact this
theorem extend (T : Net) (hT : T.Ok) (lo hi : Nat → Int) (hne : ∀ i, i < T.n → lo i ≤ hi i) (hup : ∀ i, i < T.n → T.kid i ≠ [] → sm lo (T.kid i) ≤ lo i ∧ hi i ≤ sm hi (T.kid i) + T.loss i) :
  ∀ (d m : Nat), m + d = T.n → ∀ x : Nat → Int, (∀ i, i < T.n → lo i ≤ x i ∧ x i ≤ hi i) → (∀ i, i < m → T.eq x i) →
   ∃ y, Sol T lo hi y ∧ ∀ j, (∀ i, m ≤ i → j ∉ T.kid i) → y j = x j := by
 intro d
 induction d with
 | zero =>
  intro m hm x hx he
  exact ⟨x, ⟨hx, fun i hi => he i (by omega)⟩, fun _ _ => rfl⟩
 | succ d ih =>
  intro m hm x hx he
  have hmn : m < T.n := by omega
  have key : ∃ x', (∀ i, i < T.n → lo i ≤ x' i ∧ x' i ≤ hi i) ∧ (∀ i, i < m + 1 → T.eq x' i) ∧ ∀ j, j ∉ T.kid m → x' j = x j := by
   by_cases hk : T.kid m = []
   ·refine ⟨x, hx, fun i hi => ?_, fun _ _ => rfl⟩
    by_cases h : i < m
    ·exact he i h
    ·rw [show i = m by omega]; intro h'; exact absurd hk h'
   ·have h1 := hup m hmn hk
    have h2 := hx m hmn
    have hle : sm lo (T.kid m) ≤ sm hi (T.kid m) := sm_le (fun k hk' => hne k (hT.lt m k hk').2)
    have hl0 := hT.loss0 m hmn
    have hs : ∃ s, sm lo (T.kid m) ≤ s ∧ s ≤ sm hi (T.kid m) ∧ 0 ≤ x m - s ∧ x m - s ≤ T.loss m := by
     by_cases hc : x m ≤ sm hi (T.kid m)
     ·exact ⟨x m, by omega, by omega, by omega, by omega⟩
     ·exact ⟨sm hi (T.kid m), by omega, by omega, by omega, by omega⟩
    obtain ⟨s, hs1, hs2, hs3, hs4⟩ := hs
    obtain ⟨c, hc, hcs⟩ := fill lo hi (T.kid m) (hT.nodup m) (fun k hk' => hne k (hT.lt m k hk').2) s hs1 hs2
    refine ⟨fun j => if j ∈ T.kid m then c j else x j, ?_, ?_, ?_⟩
    ·intro i hi'
     by_cases h : i ∈ T.kid m
     ·simp only [h, if_true]; exact hc i h
     ·simp only [h, if_false]; exact hx i hi'
    ·intro i hi'
     by_cases h : i < m
     ·refine eq_congr (x := x) ?_ ?_ (he i h)
      ·have : i ∉ T.kid m := fun hm' => by have := (hT.lt m i hm').1; omega
       simp [this]
      ·intro k hk'
       have : k ∉ T.kid m := fun hm' => by have := hT.one i m k hk' hm'; omega
       simp [this]
     ·have e : i = m := by omega
      subst e
      intro _
      have h3 : i ∉ T.kid i := fun hm' => by have := (hT.lt i i hm').1; omega
      rw [sm_congr (g := c) (fun k hk' => by simp [hk'])]
      simp only [h3, if_false]
      rw [hcs]
      exact ⟨hs3, hs4⟩
    ·intro j hj
     simp [hj]
  obtain ⟨x', hx', he', hk'⟩ := key
  obtain ⟨y, hy, hyx⟩ := ih (m + 1) (by omega) x' hx' he'
  refine ⟨y, hy, fun j hj => ?_⟩
  rw [hyx j (fun i hi' => hj i (by omega)), hk' j (hj m (Nat.le_refl _))]
theorem exact (T : Net) (hT : T.Ok) (lo hi dl dh : Nat → Int) (hne : ∀ i, i < T.n → lo i ≤ hi i)
  (hup : ∀ i, i < T.n → T.kid i ≠ [] → sm lo (T.kid i) ≤ lo i ∧ hi i ≤ sm hi (T.kid i) + T.loss i)
  (hsub : ∀ i, i < T.n → lo i ≤ dl i ∧ dl i ≤ dh i ∧ dh i ≤ hi i)
  (hdn : ∀ i, i < T.n → ∀ k ∈ T.kid i, dl i - T.loss i - (sm hi (T.kid i) - hi k) ≤ dl k ∧ dh k ≤ dh i - (sm lo (T.kid i) - lo k)) :
  ∀ (k : Nat), k < T.n → ∀ v, dl k ≤ v → v ≤ dh k → ∃ x, Sol T lo hi x ∧ x k = v := by
 intro k
 induction k using Nat.strongRecOn with
 | ind k ih =>
  intro hk v hv1 hv2
  by_cases hp : ∃ i, i < T.n ∧ k ∈ T.kid i
  ·obtain ⟨i, hi', hki⟩ := hp
   have hik := (hT.lt i k hki).1
   have hne' : T.kid i ≠ [] := fun h => by rw [h] at hki; cases hki
   have h1 := hdn i hi' k hki
   have h2 := hsub i hi'
   have h3 := hup i hi' hne'
   have h4 := hsub k hk
   have hl0 := hT.loss0 i hi'
   obtain ⟨a, b, hab, hlo⟩ := sm_split lo hki
   have hhi : sm hi (T.kid i) = hi k + sm hi (a ++ b) := by rw [hab, sm_append, sm_append, sm_cons]; omega
   have hnd : (a ++ b).Nodup ∧ k ∉ a ++ b := by
    have := hT.nodup i
    rw [hab] at this
    rw [List.nodup_append] at this
    obtain ⟨ha, hb, hd⟩ := this
    rw [List.nodup_cons] at hb
    refine ⟨List.nodup_append.2 ⟨ha, hb.2, fun x hx y hy => hd x hx y (List.mem_cons_of_mem _ hy)⟩, fun h => ?_⟩
    rcases List.mem_append.1 h with h | h
    ·exact hd k h k (by simp) rfl
    ·exact hb.1 h
   have hmem : ∀ j ∈ a ++ b, j ∈ T.kid i := by
    intro j hj
    rw [hab]
    rcases List.mem_append.1 hj with h | h
    ·exact List.mem_append.2 (.inl h)
    ·exact List.mem_append.2 (.inr (List.mem_cons_of_mem _ h))
   have hle : sm lo (a ++ b) ≤ sm hi (a ++ b) := sm_le (fun j hj => hne j (hT.lt i j (hmem j hj)).2)
   have hw : ∃ w s, dl i ≤ w ∧ w ≤ dh i ∧ sm lo (a ++ b) ≤ s ∧ s ≤ sm hi (a ++ b) ∧ 0 ≤ w - (v + s) ∧ w - (v + s) ≤ T.loss i := by
    by_cases hc : dl i ≤ sm lo (a ++ b) + v
    ·exact ⟨sm lo (a ++ b) + v, sm lo (a ++ b), by omega, by omega, by omega, by omega, by omega, by omega⟩
    ·by_cases hc2 : dl i - v ≤ sm hi (a ++ b)
     ·exact ⟨dl i, dl i - v, by omega, by omega, by omega, by omega, by omega, by omega⟩
     ·exact ⟨dl i, sm hi (a ++ b), by omega, by omega, by omega, by omega, by omega, by omega⟩
   obtain ⟨w, s, hw1, hw2, hs1, hs2, hs3, hs4⟩ := hw
   obtain ⟨y, hy, hyi⟩ := ih i hik hi' w hw1 hw2
   obtain ⟨c, hc, hcs⟩ := fill lo hi (a ++ b) hnd.1 (fun j hj => hne j (hT.lt i j (hmem j hj)).2) s hs1 hs2
   let c' : Nat → Int := fun j => if j = k then v else c j
   have hc' : ∀ j ∈ T.kid i, lo j ≤ c' j ∧ c' j ≤ hi j := by
    intro j hj
    by_cases h : j = k
    ·subst h; simp only [c', if_true]; omega
    ·simp only [c', h, if_false]
     refine hc j ?_
     rw [hab] at hj
     rcases List.mem_append.1 hj with h' | h'
     ·exact List.mem_append.2 (.inl h')
     ·rcases List.mem_cons.1 h' with h' | h'
      ·exact absurd h' h
      ·exact List.mem_append.2 (.inr h')
   have hcs' : sm c' (T.kid i) = v + s := by
    have : sm c' (T.kid i) = c' k + sm c' (a ++ b) := by rw [hab, sm_append, sm_append, sm_cons]; omega
    rw [this, sm_congr (f := c') (g := c) (fun j hj => by have : j ≠ k := fun e => hnd.2 (e ▸ hj); simp [c', this]), hcs]
    simp [c']
   obtain ⟨z, hz, hzx⟩ := extend T hT lo hi hne hup (T.n - (i + 1)) (i + 1) (by omega) (fun j => if j ∈ T.kid i then c' j else y j)
    (fun j hj => by
     by_cases h : j ∈ T.kid i
     ·simp only [h, if_true]; exact hc' j h
     ·simp only [h, if_false]; exact hy.1 j hj)
    (fun j hj => by
     by_cases h : j < i
     ·refine eq_congr (x := y) ?_ ?_ (hy.2 j (by omega))
      ·have : j ∉ T.kid i := fun hm' => by have := (hT.lt i j hm').1; omega
       simp [this]
      ·intro q hq
       have : q ∉ T.kid i := fun hm' => by have := hT.one j i q hq hm'; omega
       simp [this]
     ·have e : j = i := by omega
      subst e
      intro _
      have h3 : j ∉ T.kid j := fun hm' => by have := (hT.lt j j hm').1; omega
      rw [sm_congr (g := c') (fun q hq => by simp [hq])]
      simp only [h3, if_false]
      rw [hcs', hyi]
      exact ⟨hs3, hs4⟩)
   refine ⟨z, hz, ?_⟩
   rw [hzx k (fun j hj hk' => by have := hT.one i j k hki hk'; omega)]
   simp [hki, c']
  ·have h4 := hsub k hk
   obtain ⟨z, hz, hzx⟩ := extend T hT lo hi hne hup T.n 0 (by omega) (fun j => if j = k then v else lo j)
    (fun j hj => by
     by_cases h : j = k
     ·subst h; simp only [if_true]; omega
     ·simp only [h, if_false]; exact ⟨Int.le_refl _, hne j hj⟩)
    (fun j hj => absurd hj (Nat.not_lt_zero _))
   refine ⟨z, hz, ?_⟩
   rw [hzx k (fun j _ hk' => hp ⟨j, by have := hT.lt j k hk'; omega, hk'⟩)]
   simp
end Go.Proofs.FlowTree
end
section
namespace Go.Proofs.Ythjjabcbngffoaa.P
open Go.RowKit Go.Proofs.YthjjabcbngffoaaW.PrintWords Go.Proofs.YthjjabcbngffoaaW.PrintLast Go.Proofs.YthjjabcbngffoaaW.PrintMore Go.Proofs.YthjjabcbngffoaaH Go.Proofs.FlowTree
abbrev CH := S40
abbrev RGE := S38
theorem right_lo {c t v : Int} (ht : 1 ≤ t) : 2 * t * rightV c t v ≤ 2 * (c * v) + t := by
 unfold rightV
 exact Int.mul_ediv_self_le (by omega)
theorem right_mono {c t v v' : Int} (hc : 0 ≤ c) (ht : 1 ≤ t) (h : v ≤ v') : rightV c t v ≤ rightV c t v' := by
 unfold rightV
 have := Int.mul_le_mul_of_nonneg_left h hc
 exact Int.ediv_le_ediv (by omega) (by omega)
theorem right_bd {c t v : Int} (hc : 0 ≤ c) (ht : 1 ≤ t) (h0 : 0 ≤ v) (h : v ≤ t) : 0 ≤ rightV c t v ∧ rightV c t v ≤ c := by
 have h1 := Int.mul_nonneg hc h0
 have h2 := Int.mul_le_mul_of_nonneg_left h hc
 constructor
 ·unfold rightV
  exact Int.ediv_nonneg (by omega) (by omega)
 ·have : rightV c t v < c + 1 := by
   unfold rightV
   refine Int.ediv_lt_of_lt_mul (by omega) ?_
   have : (c + 1) * (2 * t) = 2 * (c * t) + 2 * t := by rw [Int.add_mul, Int.one_mul, ← Int.mul_assoc, Int.mul_comm c 2, Int.mul_assoc]
   omega
  omega
abbrev cc (bs : List CH) (j : Nat) : CH := rd_T40 bs (j : Int)
abbrev qq (l : List RGE) (j : Nat) : RGE := rd_T38 l (j : Int)
theorem cc_set (bs : List CH) (i j : Nat) (y : CH) (hi : i < bs.length) : cc (bs.set i y) j = if i = j then y else cc bs j := by
 simp only [cc, rd_T40, List.getD_eq_getElem?_getD, Int.toNat_natCast, List.getElem?_set]
 by_cases e : i = j
 ·subst e; simp [hi]
 ·simp [e]
theorem qq_map (f : RGE → RGE) (l : List RGE) (j : Nat) (h : j < l.length) : qq (l.map f) j = f (qq l j) := by
 simp [qq, rd_T38, List.getD_eq_getElem?_getD, h]
theorem qq_mem (l : List RGE) (j : Nat) (h : j < l.length) : qq l j ∈ l := by
 simp [qq, rd_T38, List.getD_eq_getElem?_getD, h]
theorem foldl_rng {α : Type} (g : α → Nat → α) (x : α) (n : Nat) : (List.range (n + 1)).foldl g x = g ((List.range n).foldl g x) n := by
 rw [List.range_succ, List.foldl_append]; rfl
def PartsOk (c t : Int) (l : List RGE) : Prop := 0 ≤ c ∧ c ≤ 1000000000 ∧ 1 ≤ t ∧ t ≤ 1000000000 ∧ l.length ≤ 200 ∧ ∀ j, j < l.length → 0 ≤ (qq l j).f0 ∧ (qq l j).f0 ≤ (qq l j).f1 ∧ (qq l j).f1 ≤ t
theorem outR_iff (t : Int) (r : RGE) : outR t r = false ↔ 0 ≤ r.f0 ∧ r.f0 ≤ r.f1 ∧ r.f1 ≤ t := by
 simp only [outR, Bool.or_eq_false_iff, decide_eq_false_iff_not]
 omega
theorem parts_iff (c t : Int) (l : List RGE) : (c < 0 ∨ 1000000000 < c ∨ t < 1 ∨ 1000000000 < t ∨ 200 < l.length ∨ l.any (outR t) = true) ↔ ¬ PartsOk c t l := by
 have hany : l.any (outR t) = false ↔ ∀ j, j < l.length → 0 ≤ (qq l j).f0 ∧ (qq l j).f0 ≤ (qq l j).f1 ∧ (qq l j).f1 ≤ t := by
  rw [List.any_eq_false]
  constructor
  ·intro h j hj
   exact (outR_iff t _).1 (by have := h _ (qq_mem l j hj); simpa using this)
  ·intro h x hx
   obtain ⟨j, hj, rfl⟩ := List.mem_iff_getElem.1 hx
   have e : qq l j = l[j] := by simp [qq, rd_T38, List.getD_eq_getElem?_getD, hj]
   have := (outR_iff t (qq l j)).2 (h j hj)
   rw [e] at this
   simp [this]
 constructor
 ·rintro h ⟨h1, h2, h3, h4, h5, h6⟩
  rcases h with h | h | h | h | h | h
  ·omega
  ·omega
  ·omega
  ·omega
  ·omega
  ·rw [hany.2 h6] at h; cases h
 ·intro h
  by_cases a1 : c < 0
  ·exact .inl a1
  by_cases a2 : 1000000000 < c
  ·exact .inr (.inl a2)
  by_cases a3 : t < 1
  ·exact .inr (.inr (.inl a3))
  by_cases a4 : 1000000000 < t
  ·exact .inr (.inr (.inr (.inl a4)))
  by_cases a5 : 200 < l.length
  ·exact .inr (.inr (.inr (.inr (.inl a5))))
  refine .inr (.inr (.inr (.inr (.inr ?_))))
  cases hx : l.any (outR t) with
  | true => rfl
  | false => exact absurd ⟨by omega, by omega, by omega, by omega, by omega, hany.1 hx⟩ h
theorem boundsC_ok {c t : Int} {l : List RGE} (h : PartsOk c t l) : boundsC c t l = (l.map (chgR c t), 0) := by
 unfold boundsC
 rw [if_neg (fun hh => (parts_iff c t l).1 hh h)]
theorem boundsC_no {c t : Int} {l : List RGE} (h : ¬ PartsOk c t l) : boundsC c t l = ([], 1) := by
 unfold boundsC
 rw [if_pos ((parts_iff c t l).2 h)]
section
variable {c t : Int} {l : List RGE}
def bLo (c t : Int) (l : List RGE) (j : Nat) : Int := rightV c t (qq l j).f0
def bHi (c t : Int) (l : List RGE) (j : Nat) : Int := rightV c t (qq l j).f1
theorem b_bd (h : PartsOk c t l) (j : Nat) (hj : j < l.length) : 0 ≤ bLo c t l j ∧ bLo c t l j ≤ bHi c t l j ∧ bHi c t l j ≤ c := by
 obtain ⟨h1, h2, h3, h4, h5, h6⟩ := h
 have := h6 j hj
 exact ⟨(right_bd h1 h3 (by omega) (by omega)).1, right_mono h1 h3 (by omega), (right_bd h1 h3 (by omega) (by omega)).2⟩
theorem wrap_id' {n : Int} (h1 : -9223372036854775808 ≤ n) (h2 : n ≤ 9223372036854775807) : wrap64 n = n := by unfold wrap64; omega
structure Form (homes : List Int) (c t : Int) (l : List RGE) (j : Nat) (b : CH) : Prop where
 home : b.f0 = rd homes (j : Int)
 lo : b.f2.f0 = bLo c t l j
 hi : b.f2.f1 = bHi c t l j
 sure : b.f3 = (bLo c t l j == bHi c t l j)
 ge : bLo c t l j ≤ b.f1
 le : b.f1 ≤ bHi c t l j
theorem bill_form (homes : List Int) (h : PartsOk c t l) (j : Nat) (hj : j < l.length) : Form homes c t l j (billOf (rd homes (j : Int)) (qq (l.map (chgR c t)) j)) ∧ (billOf (rd homes (j : Int)) (qq (l.map (chgR c t)) j)).f1 = (bLo c t l j + bHi c t l j) / 2 := by
 have hb := b_bd h j hj
 have hc := h.2.1
 rw [qq_map _ _ _ hj]
 have e : (billOf (rd homes (j : Int)) (chgR c t (qq l j))).f1 = (bLo c t l j + bHi c t l j) / 2 := by
  show wrap64 (Int.tdiv (wrap64 (bLo c t l j + bHi c t l j)) 2) = _
  rw [wrap_id' (n := bLo c t l j + bHi c t l j) (by omega) (by omega), Int.tdiv_eq_ediv_of_nonneg (by omega), wrap_id' (by omega) (by omega)]
 refine ⟨⟨rfl, rfl, rfl, rfl, ?_, ?_⟩, e⟩
 ·rw [e]; omega
 ·rw [e]; omega
theorem bills_at (homes : List Int) (bs : List RGE) (n : Nat) : ∀ i, i ≤ n → ∀ j, j < n → cc (billsN homes bs n i) j = if j < i then billOf (rd homes (j : Int)) (qq bs j) else z40 := by
 intro i
 induction i with
 | zero =>
  intro _ j hj
  simp [billsN, cc, rd_T40, List.getD_eq_getElem?_getD, List.getElem?_replicate, hj]
 | succ i ih =>
  intro hi j hj
  have e : billsN homes bs n (i + 1) = (billsN homes bs n i).set i (billOf (rd homes (i : Int)) (qq bs i)) := foldl_rng _ _ _
  rw [e, cc_set _ _ _ _ (by rw [billsN_len]; omega)]
  by_cases h : i = j
  ·subst h; rw [if_pos rfl, if_pos (by omega)]
  ·rw [if_neg h, ih (by omega) j hj]
   by_cases h2 : j < i
   ·rw [if_pos h2, if_pos (by omega)]
   ·rw [if_neg h2, if_neg (by omega)]
theorem sum_at (h : PartsOk c t l) : ∀ i, i ≤ l.length → sumN (l.map (chgR c t)) i = sm (fun j => (bLo c t l j + bHi c t l j) / 2) (List.range i) ∧ 0 ≤ sumN (l.map (chgR c t)) i ∧ sumN (l.map (chgR c t)) i ≤ 1000000000 * i := by
 intro i
 induction i with
 | zero => intro _; exact ⟨rfl, Int.le_refl _, by simp [sumN]⟩
 | succ i ih =>
  intro hi
  obtain ⟨h1, h2, h3⟩ := ih (by omega)
  have hb := b_bd h i (by omega)
  have hc := h.2.1
  have hn := h.2.2.2.2.1
  have e : sumN (l.map (chgR c t)) (i + 1) = wrap64 (sumN (l.map (chgR c t)) i + (billOf 0 (qq (l.map (chgR c t)) i)).f1) := foldl_rng _ _ _
  have e2 : (billOf 0 (qq (l.map (chgR c t)) i)).f1 = (bLo c t l i + bHi c t l i) / 2 := (bill_form [] h i (by omega)).2
  rw [e, e2, wrap_id' (by omega) (by omega)]
  refine ⟨?_, by omega, by omega⟩
  rw [List.range_succ, sm_append, sm_cons, sm_nil, h1]
  omega
theorem least_at (h : PartsOk c t l) : ∀ i, i ≤ l.length → leastN l i = sm (fun j => (qq l j).f0) (List.range i) ∧ 0 ≤ leastN l i ∧ leastN l i ≤ 1000000000 * i := by
 intro i
 induction i with
 | zero => intro _; exact ⟨rfl, Int.le_refl _, by simp [leastN]⟩
 | succ i ih =>
  intro hi
  obtain ⟨h1, h2, h3⟩ := ih (by omega)
  have hb := h.2.2.2.2.2 i (by omega)
  have ht := h.2.2.2.1
  have hn := h.2.2.2.2.1
  have e : leastN l (i + 1) = wrap64 (leastN l i + (qq l i).f0) := foldl_rng _ _ _
  rw [e, wrap_id' (by omega) (by omega)]
  refine ⟨?_, by omega, by omega⟩
  rw [List.range_succ, sm_append, sm_cons, sm_nil, h1]
  omega
theorem sm_upd (f g : Nat → Int) (i : Nat) (d : Int) (hg : ∀ j, j ≠ i → g j = f j) (hi : g i = f i + d) : ∀ n, sm g (List.range n) = sm f (List.range n) + if i < n then d else 0 := by
 intro n
 induction n with
 | zero => simp [sm_nil]
 | succ n ih =>
  rw [List.range_succ, sm_append, sm_append, sm_cons, sm_cons, sm_nil, sm_nil, ih]
  by_cases e : n = i
  ·subst e
   rw [hi, if_neg (Nat.lt_irrefl _), if_pos (Nat.lt_succ_self _)]; omega
  ·rw [hg n e]
   by_cases h : i < n
   ·rw [if_pos h, if_pos (by omega)]; omega
   ·rw [if_neg h, if_neg (by omega)]; omega
structure LowAt (homes : List Int) (c t : Int) (l : List RGE) (k : Nat) (p : List CH × Int) : Prop where
 len : p.1.length = l.length
 form : ∀ j, j < l.length → Form homes c t l j (cc p.1 j)
 sum : p.2 = sm (fun j => (cc p.1 j).f1) (List.range l.length)
 bd : 0 ≤ p.2 ∧ p.2 ≤ 200000000000
 low : c < p.2 → ∀ j, j < l.length → l.length ≤ j + k → (cc p.1 j).f1 = bLo c t l j
 mid : c ≤ p.2 ∨ p.2 = sm (fun j => (bLo c t l j + bHi c t l j) / 2) (List.range l.length)
theorem low_start (homes : List Int) (h : PartsOk c t l) : LowAt homes c t l 0 (billsN homes (l.map (chgR c t)) l.length l.length, sumN (l.map (chgR c t)) l.length) := by
 have hs := sum_at h l.length (Nat.le_refl _)
 have hn := h.2.2.2.2.1
 have hat : ∀ j, j < l.length → cc (billsN homes (l.map (chgR c t)) l.length l.length) j = billOf (rd homes (j : Int)) (qq (l.map (chgR c t)) j) := fun j hj => by
  rw [bills_at homes _ _ _ (Nat.le_refl _) j hj, if_pos hj]
 refine ⟨billsN_len _ _ _ _, fun j hj => ?_, ?_, ⟨hs.2.1, by have := hs.2.2; show sumN _ _ ≤ _; omega⟩, fun _ j h1 h2 => by omega, .inr hs.1⟩
 ·show Form homes c t l j (cc (billsN homes (l.map (chgR c t)) l.length l.length) j)
  rw [hat j hj]
  exact (bill_form homes h j hj).1
 ·show sumN _ _ = _
  rw [hs.1]
  refine sm_congr (fun j hj => ?_)
  have hj' := List.mem_range.1 hj
  show _ = (cc (billsN homes (l.map (chgR c t)) l.length l.length) j).f1
  rw [hat j hj']
  exact (bill_form homes h j hj').2.symm
theorem mx_max' (a b : Int) : mx a b = max a b := by unfold mx; split <;> omega
theorem mn_min' (a b : Int) : mn a b = min a b := by unfold mn; split <;> omega
theorem sm_cents {homes : List Int} (h : PartsOk c t l) {bs : List CH} (hf : ∀ j, j < l.length → Form homes c t l j (cc bs j)) : 0 ≤ sm (fun j => (cc bs j).f1) (List.range l.length) ∧ sm (fun j => (cc bs j).f1) (List.range l.length) ≤ 200000000000 := by
 have hn := h.2.2.2.2.1
 have hc := h.2.1
 have := sm_bound (f := fun j => (cc bs j).f1) (ks := List.range l.length) (a := 0) (b := 1000000000) (fun j hj => by
  have hj' := List.mem_range.1 hj
  have h1 := hf j hj'
  have h2 := b_bd h j hj'
  have := h1.ge
  have := h1.le
  show 0 ≤ (cc bs j).f1 ∧ (cc bs j).f1 ≤ 1000000000
  omega)
 rw [List.length_range] at this
 omega
theorem low_step {homes : List Int} (h : PartsOk c t l) {k : Nat} (hk : k < l.length) {p : List CH × Int} (hp : LowAt homes c t l k p) :
  LowAt homes c t l (k + 1) (lowStep c p (l.length - 1 - k)) ∧ (lowBy (wrap64 (p.2 - c)) (cc p.1 (l.length - 1 - k)).f1 (cc p.1 (l.length - 1 - k)).f2.f0 = max 0 (min (p.2 - c) ((cc p.1 (l.length - 1 - k)).f1 - bLo c t l (l.length - 1 - k)))) ∧
   lowStep c p (l.length - 1 - k) = (p.1.set (l.length - 1 - k) ⟨(cc p.1 (l.length - 1 - k)).f0, (cc p.1 (l.length - 1 - k)).f1 - max 0 (min (p.2 - c) ((cc p.1 (l.length - 1 - k)).f1 - bLo c t l (l.length - 1 - k))), (cc p.1 (l.length - 1 - k)).f2, (cc p.1 (l.length - 1 - k)).f3⟩, p.2 - max 0 (min (p.2 - c) ((cc p.1 (l.length - 1 - k)).f1 - bLo c t l (l.length - 1 - k)))) := by
 obtain ⟨i, hi⟩ : ∃ i, i = l.length - 1 - k := ⟨_, rfl⟩
 rw [← hi]
 have hil : i < l.length := by omega
 have hf := hp.form i hil
 have hb := b_bd h i hil
 have hc0 := h.1
 have hc := h.2.1
 have hs := hp.bd
 have g1 := hf.ge
 have g2 := hf.le
 have e1 : lowBy (wrap64 (p.2 - c)) (cc p.1 i).f1 (cc p.1 i).f2.f0 = max 0 (min (p.2 - c) ((cc p.1 i).f1 - bLo c t l i)) := by
  unfold lowBy
  rw [mx_max', mn_min', hf.lo, wrap_id' (n := p.2 - c) (by omega) (by omega), wrap_id' (n := (cc p.1 i).f1 - bLo c t l i) (by omega) (by omega)]
 obtain ⟨d, hd⟩ : ∃ d, d = max 0 (min (p.2 - c) ((cc p.1 i).f1 - bLo c t l i)) := ⟨_, rfl⟩
 rw [← hd] at e1 ⊢
 have e2 : lowStep c p i = (p.1.set i ⟨(cc p.1 i).f0, (cc p.1 i).f1 - d, (cc p.1 i).f2, (cc p.1 i).f3⟩, p.2 - d) := by
  show (p.1.set i ⟨(cc p.1 i).f0, wrap64 ((cc p.1 i).f1 - lowBy (wrap64 (p.2 - c)) (cc p.1 i).f1 (cc p.1 i).f2.f0), (cc p.1 i).f2, (cc p.1 i).f3⟩, wrap64 (p.2 - lowBy (wrap64 (p.2 - c)) (cc p.1 i).f1 (cc p.1 i).f2.f0)) = _
  rw [e1, wrap_id' (n := (cc p.1 i).f1 - d) (by omega) (by omega), wrap_id' (n := p.2 - d) (by omega) (by omega)]
 refine ⟨?_, e1, e2⟩
 rw [e2]
 have hset : ∀ j, cc (p.1.set i ⟨(cc p.1 i).f0, (cc p.1 i).f1 - d, (cc p.1 i).f2, (cc p.1 i).f3⟩) j = if i = j then ⟨(cc p.1 i).f0, (cc p.1 i).f1 - d, (cc p.1 i).f2, (cc p.1 i).f3⟩ else cc p.1 j := fun j => cc_set _ _ _ _ (by rw [hp.len]; exact hil)
 have hform : ∀ j, j < l.length → Form homes c t l j (cc (p.1.set i ⟨(cc p.1 i).f0, (cc p.1 i).f1 - d, (cc p.1 i).f2, (cc p.1 i).f3⟩) j) := fun j hj => by
  rw [hset j]
  by_cases e : i = j
  ·subst e
   rw [if_pos rfl]
   exact ⟨hf.home, hf.lo, hf.hi, hf.sure, by show bLo c t l i ≤ (cc p.1 i).f1 - d; omega, by show (cc p.1 i).f1 - d ≤ bHi c t l i; omega⟩
  ·rw [if_neg e]; exact hp.form j hj
 have hsum : p.2 - d = sm (fun j => (cc (p.1.set i ⟨(cc p.1 i).f0, (cc p.1 i).f1 - d, (cc p.1 i).f2, (cc p.1 i).f3⟩) j).f1) (List.range l.length) := by
  rw [sm_upd (fun j => (cc p.1 j).f1) _ i (-d) (fun j hj => by show (cc _ j).f1 = _; rw [hset j, if_neg (fun e => hj e.symm)]) (by show (cc _ i).f1 = _; rw [hset i, if_pos rfl]; show (cc p.1 i).f1 - d = _; omega) l.length, if_pos hil, ← hp.sum]
  omega
 refine ⟨by show (p.1.set _ _).length = _; rw [List.length_set, hp.len], hform, hsum, ?_, ?_, ?_⟩
 ·show 0 ≤ p.2 - d ∧ p.2 - d ≤ _
  rw [hsum]
  exact sm_cents h hform
 ·intro hlt j hj hjk
  have hlt' : c < p.2 - d := hlt
  show (cc (p.1.set _ _) j).f1 = _
  rw [hset j]
  by_cases e : i = j
  ·subst e
   rw [if_pos rfl]
   show (cc p.1 i).f1 - d = _
   omega
  ·rw [if_neg e]
   exact hp.low (by omega) j hj (by omega)
 ·show c ≤ p.2 - d ∨ p.2 - d = _
  by_cases hlt : c < p.2
  ·exact .inl (by omega)
  ·have h0 : p.2 - d = p.2 := by omega
   rw [h0]
   exact hp.mid
theorem low_all (homes : List Int) (h : PartsOk c t l) : ∀ k, k ≤ l.length → LowAt homes c t l k (lowAll c (downTo l.length k) (billsN homes (l.map (chgR c t)) l.length l.length, sumN (l.map (chgR c t)) l.length)) := by
 intro k
 induction k with
 | zero => intro _; exact low_start homes h
 | succ k ih =>
  intro hk
  have h1 := ih (by omega)
  have e : ∀ q, lowAll c (downTo l.length (k + 1)) q = lowStep c (lowAll c (downTo l.length k) q) (l.length - 1 - k) := fun q => by
   unfold lowAll
   rw [downTo_succ, List.foldl_append]
   rfl
  rw [e]
  exact (low_step h (by omega) h1).1
theorem lows_sum (h : PartsOk c t l) : ∀ n, n ≤ l.length → 2 * t * sm (bLo c t l) (List.range n) ≤ 2 * (c * sm (fun j => (qq l j).f0) (List.range n)) + t * n := by
 intro n
 induction n with
 | zero => intro _; simp [sm_nil]
 | succ n ih =>
  intro hn
  have h1 := ih (by omega)
  have h2 := right_lo (c := c) (v := (qq l n).f0) h.2.2.1
  rw [List.range_succ, sm_append, sm_append, sm_cons, sm_cons, sm_nil, sm_nil, Int.add_zero, Int.add_zero, Int.mul_add, Int.mul_add, Int.natCast_add, Int.mul_add]
  have e : bLo c t l n = rightV c t (qq l n).f0 := rfl
  have e3 : t * ((n : Int) + ((1 : Nat) : Int)) = t * n + t := by rw [Int.mul_add]; simp
  rw [e, e3]
  omega
inductive ShareIs (c t : Int) (homes : List Int) (l : List RGE) : List CH × Int × Int → Prop
 | arg : ¬ (PartsOk c t l ∧ homes.length = l.length ∧ homesB 0 homes = true) → ShareIs c t homes l ([], 0, 1)
 | flow : PartsOk c t l → homes.length = l.length → homesB 0 homes = true → t < leastN l l.length → ShareIs c t homes l ([], 0, 30)
 | ok (p : List CH × Int) : PartsOk c t l → homes.length = l.length → homesB 0 homes = true → ¬ t < leastN l l.length → LowAt homes c t l l.length p →
   p = lowAll c (downTo l.length l.length) (billsN homes (l.map (chgR c t)) l.length l.length, sumN (l.map (chgR c t)) l.length) → ShareIs c t homes l (p.1, c - p.2, 0)
theorem shareC_is (c t : Int) (homes : List Int) (l : List RGE) : ShareIs c t homes l (shareC c t homes l) := by
 unfold shareC
 by_cases h : PartsOk c t l
 case neg =>
  rw [boundsC_no h, if_neg (by decide)]
  exact .arg (fun hh => h hh.1)
 rw [boundsC_ok h, if_pos rfl]
 by_cases hb : homes.length ≠ l.length ∨ homesB 0 homes = false
 ·rw [if_pos hb]
  refine .arg (fun hh => ?_)
  rcases hb with hb | hb
  ·exact hb hh.2.1
  ·rw [hh.2.2] at hb; cases hb
 rw [if_neg hb]
 have h1 : homes.length = l.length := Classical.byContradiction fun hn => hb (.inl hn)
 have h2 : homesB 0 homes = true := by
  cases hx : homesB 0 homes with
  | true => rfl
  | false => exact absurd (.inr hx) hb
 by_cases hl : t < leastN l l.length
 ·rw [if_pos hl]
  exact .flow h h1 h2 hl
 rw [if_neg hl]
 have hL := low_all homes h l.length (Nat.le_refl _)
 obtain ⟨p, hp⟩ : ∃ p, p = lowAll c (downTo l.length l.length) (billsN homes (l.map (chgR c t)) l.length l.length, sumN (l.map (chgR c t)) l.length) := ⟨_, rfl⟩
 show ShareIs c t homes l ((lowAll c (downTo l.length l.length) (billsN homes (l.map (chgR c t)) l.length l.length, sumN (l.map (chgR c t)) l.length)).1, wrap64 (c - (lowAll c (downTo l.length l.length) (billsN homes (l.map (chgR c t)) l.length l.length, sumN (l.map (chgR c t)) l.length)).2), 0)
 rw [← hp] at hL ⊢
 have hbd := hL.bd
 have hc := h.1
 have hc1 := h.2.1
 rw [wrap_id' (by omega) (by omega)]
 exact .ok p h h1 h2 hl hL hp
theorem house_ge {homes : List Int} (h : PartsOk c t l) (hl : ¬ t < leastN l l.length) {p : List CH × Int} (hp : LowAt homes c t l l.length p) : -2 * (c - p.2) ≤ (l.length : Int) := by
 by_cases hlt : c < p.2
 case neg => omega
 have hlow := hp.low hlt
 have hs : p.2 = sm (bLo c t l) (List.range l.length) := by
  rw [hp.sum]
  exact sm_congr (fun j hj => hlow j (List.mem_range.1 hj) (by omega))
 have h1 := lows_sum h l.length (Nat.le_refl _)
 have h2 := (least_at h l.length (Nat.le_refl _)).1
 have ht := h.2.2.1
 have h3 : c * sm (fun j => (qq l j).f0) (List.range l.length) ≤ c * t := Int.mul_le_mul_of_nonneg_left (by rw [← h2]; omega) h.1
 have h4 : t * (2 * p.2) ≤ t * (2 * c + l.length) := by
  rw [Int.mul_add, ← Int.mul_assoc, Int.mul_comm t 2, hs, ← Int.mul_assoc t 2 c, Int.mul_comm t 2, Int.mul_assoc 2 t c, Int.mul_comm t c]
  omega
 have := Int.le_of_mul_le_mul_left h4 (by omega)
 omega
end
end Go.Proofs.Ythjjabcbngffoaa.P
end
section
namespace Go.Proofs.Ythjjabcbngffoaa.P
open Go.RowKit Go.Proofs.YthjjabcbngffoaaW.PrintWords Go.Proofs.YthjjabcbngffoaaW.PrintLast Go.Proofs.YthjjabcbngffoaaW.PrintMore
attribute [local go_sem] max2_int min2_int max_two min_two max_three min_three max_four min_four
set_option linter.unusedVariables false
set_option linter.unusedSimpArgs false
set_option maxHeartbeats 8000000
set_option maxRecDepth 100000
section
attribute [local go_sem high] eqA38
def cohousingref28_Same.l0 : Nat → List (S38) → List (S38) → Int → Option (Bool)
 | 0, _, _, _ => none
 | k + 1, x0, x1, x5 => if x5 < (x0.length : Int) then (if 0 ≤ x5 then (if x5 < (x1.length : Int) then (if (!(((rd_T38 x0 x5).f0) == ((rd_T38 x1 x5).f0)) || (!(((rd_T38 x0 x5).f1) == ((rd_T38 x1 x5).f1)))) = true then (some false) else (cohousingref28_Same.l0 k x0 x1 (wrap64 (x5 + 1)))) else (none)) else (none)) else (some true)
def cohousingref28_Same.f (k : Nat) (l0 : List (S38)) (l1 : List (S38)) : Option (Bool) := if (l0.length : Int) = (l1.length : Int) then (cohousingref28_Same.l0 k l0 l1 0) else (some false)
end
section
def cohousingref28_empty.l0 : Nat → List (S38) → Int → Option (Bool)
 | 0, _, _ => none
 | k + 1, x0, x3 => if x3 < (x0.length : Int) then (if 0 ≤ x3 then (if ((rd_T38 x0 x3).f0) > ((rd_T38 x0 x3).f1) then (some true) else (cohousingref28_empty.l0 k x0 (wrap64 (x3 + 1)))) else (none)) else (some false)
def cohousingref28_empty.f (k : Nat) (l0 : List (S38)) : Option (Bool) := cohousingref28_empty.l0 k l0 0
end
section
def cohousingref28_below.l0 : Nat → List (S63) → Int → List Int → Int → Option (List Int)
 | 0, _, _, _, _ => none
 | k + 1, x0, x1, x5, x6 => if x6 < (x0.length : Int) then (if 0 ≤ x6 then (if 0 ≤ x1 then (if x1 < (x0.length : Int) then (if ((rd_T63 x0 x6).f1) = ((rd_T63 x0 x1).f0) then (if x5.length < 17592186044416 then (cohousingref28_below.l0 k x0 x1 (x5 ++ [x6]) (wrap64 (x6 + 1))) else (none)) else (cohousingref28_below.l0 k x0 x1 x5 (wrap64 (x6 + 1)))) else (none)) else (none)) else (none)) else (some x5)
def cohousingref28_below.f (k : Nat) (l0 : List (S63)) (a1 : Int) : Option (List Int) := cohousingref28_below.l0 k l0 a1 ([] : List Int) (wrap64 (a1 + 1))
end
section
def cohousingref28_narrow.f (a0_0 : Int) (a0_1 : Int) (a1 : Int) (a2 : Int) : Option (Int × Int) := some (mx a0_0 a1, mn a0_1 a2)
end
section
mutual
def cohousingref28_equation.l0 : Nat → List (S63) → List (S38) → Int → List Int → Int → Int → Int → Option ((List (S38)))
 | 0, _, _, _, _, _, _, _ => none
 | k + 1, x0, x1, x2, x3, x9, x10, x11 => if x11 < (x3.length : Int) then (if 0 ≤ x11 then (if 0 ≤ (rd x3 x11) then (if (rd x3 x11) < (x1.length : Int) then (cohousingref28_equation.l0 k x0 x1 x2 x3 (wrap64 (x9 + ((rd_T38 x1 (rd x3 x11)).f0))) (wrap64 (x10 + ((rd_T38 x1 (rd x3 x11)).f1))) (wrap64 (x11 + 1))) else (none)) else (none)) else (none)) else (if 0 ≤ x2 then (if x2 < (x1.length : Int) then (if x2 < (x0.length : Int) then ((cohousingref28_narrow.f ((rd_T38 x1 x2).f0) ((rd_T38 x1 x2).f1) x9 (wrap64 (x10 + ((rd_T63 x0 x2).f2)))).bind fun bt290 => (cohousingref28_equation.l1 k x0 x1 x2 x9 x10 ([] : List (S38)) 0 bt290.1 bt290.2)) else (none)) else (none)) else (none))
def cohousingref28_equation.l1 : Nat → List (S63) → List (S38) → Int → Int → Int → List (S38) → Int → Int → Int → Option ((List (S38)))
 | 0, _, _, _, _, _, _, _, _, _ => none
 | k + 1, x0, x1, x2, x9, x10, x13, x14, x293000, x293001 => if x14 < (x1.length : Int) then (if 0 ≤ x14 then (if x14 = x2 then (if x14 > x2 then (if x14 < (x0.length : Int) then (if 0 ≤ x2 then (if x2 < (x0.length : Int) then (if ((rd_T63 x0 x14).f1) = ((rd_T63 x0 x2).f0) then ((cohousingref28_narrow.f x293000 x293001 (wrap64 ((wrap64 (x293000 - ((rd_T63 x0 x2).f2))) - (wrap64 (x10 - x293001)))) (wrap64 (x293001 - (wrap64 (x9 - x293000))))).bind fun bt298 => (if x13.length < 8796093022208 then (cohousingref28_equation.l1 k x0 x1 x2 x9 x10 (x13 ++ [(⟨bt298.1, bt298.2⟩ : S38)]) (wrap64 (x14 + 1)) x293000 x293001) else (none))) else (if x13.length < 8796093022208 then (cohousingref28_equation.l1 k x0 x1 x2 x9 x10 (x13 ++ [(⟨x293000, x293001⟩ : S38)]) (wrap64 (x14 + 1)) x293000 x293001) else (none))) else (none)) else (none)) else (none)) else (if x13.length < 8796093022208 then (cohousingref28_equation.l1 k x0 x1 x2 x9 x10 (x13 ++ [(⟨x293000, x293001⟩ : S38)]) (wrap64 (x14 + 1)) x293000 x293001) else (none))) else (if x14 > x2 then (if x14 < (x0.length : Int) then (if 0 ≤ x2 then (if x2 < (x0.length : Int) then (if ((rd_T63 x0 x14).f1) = ((rd_T63 x0 x2).f0) then ((cohousingref28_narrow.f ((rd_T38 x1 x14).f0) ((rd_T38 x1 x14).f1) (wrap64 ((wrap64 (x293000 - ((rd_T63 x0 x2).f2))) - (wrap64 (x10 - ((rd_T38 x1 x14).f1))))) (wrap64 (x293001 - (wrap64 (x9 - ((rd_T38 x1 x14).f0)))))).bind fun bt312 => (if x13.length < 8796093022208 then (cohousingref28_equation.l1 k x0 x1 x2 x9 x10 (x13 ++ [(⟨bt312.1, bt312.2⟩ : S38)]) (wrap64 (x14 + 1)) x293000 x293001) else (none))) else (if x13.length < 8796093022208 then (cohousingref28_equation.l1 k x0 x1 x2 x9 x10 (x13 ++ [(⟨(rd_T38 x1 x14).f0, (rd_T38 x1 x14).f1⟩ : S38)]) (wrap64 (x14 + 1)) x293000 x293001) else (none))) else (none)) else (none)) else (none)) else (if x13.length < 8796093022208 then (cohousingref28_equation.l1 k x0 x1 x2 x9 x10 (x13 ++ [(⟨(rd_T38 x1 x14).f0, (rd_T38 x1 x14).f1⟩ : S38)]) (wrap64 (x14 + 1)) x293000 x293001) else (none)))) else (none)) else (some x13)
end
def cohousingref28_equation.f (k : Nat) (l0 : List (S63)) (l1 : List (S38)) (a2 : Int) (l3 : List Int) : Option ((List (S38))) := cohousingref28_equation.l0 k l0 l1 a2 l3 0 0 0
end
section
def cohousingref28_once.l0 : Nat → List (S63) → List (S38) → Int → Option ((List (S38)))
 | 0, _, _, _ => none
 | k + 1, x0, x1, x5 => if x5 ≥ 0 then ((cohousingref28_below.f k x0 x5).bind fun t323 => (if (t323.length : Int) > 0 then ((cohousingref28_empty.f k x1).bind fun t326 => (if t326 = true then (cohousingref28_once.l0 k x0 x1 (wrap64 (x5 - 1))) else ((cohousingref28_equation.f k x0 x1 x5 t323).bind fun t327 => (cohousingref28_once.l0 k x0 t327 (wrap64 (x5 - 1)))))) else (cohousingref28_once.l0 k x0 x1 (wrap64 (x5 - 1))))) else (some x1)
def cohousingref28_once.f (k : Nat) (l0 : List (S63)) (l1 : List (S38)) : Option ((List (S38))) := cohousingref28_once.l0 k l0 l1 (wrap64 ((l0.length : Int) - 1))
end
section
def cohousingref28_bounds.l0 : Nat → List (S63) → List (S38) → Option ((List (S38)) × Bool)
 | 0, _, _ => none
 | k + 1, x0, x1 => (cohousingref28_once.f k x0 x1).bind fun t330 => ((cohousingref28_empty.f k t330).bind fun t333 => (if t333 = true then (some (([] : List (S38)), false)) else ((cohousingref28_Same.f k t330 x1).bind fun t334 => (if t334 = true then (some (t330, true)) else (cohousingref28_bounds.l0 k x0 t330)))))
def cohousingref28_bounds.f (k : Nat) (l0 : List (S63)) (l1 : List (S38)) : Option ((List (S38)) × Bool) := cohousingref28_bounds.l0 k l0 l1
end
end Go.Proofs.Ythjjabcbngffoaa.P
end
section
namespace Go.Proofs.Ythjjabcbngffoaa.P
open Go.RowKit Go.Proofs.YthjjabcbngffoaaW.PrintWords Go.Proofs.YthjjabcbngffoaaW.PrintLast Go.Proofs.YthjjabcbngffoaaW.PrintMore Go.Proofs.YthjjabcbngffoaaH Go.Proofs.FlowTree
abbrev idP (l : List S63) (i : Nat) : Int := (rd_T63 l i).f0
abbrev abP (l : List S63) (i : Nat) : Int := (rd_T63 l i).f1
abbrev loP (l : List S63) (i : Nat) : Int := (rd_T63 l i).f2
def okP (l : List S63) (i : Nat) : Prop := 1 ≤ idP l i ∧ (0 < i → idP l (i - 1) < idP l i) ∧ (0 ≤ loP l i ∧ loP l i ≤ 1000000000) ∧ (abP l i ≠ 0 → ∃ j, j < i ∧ idP l j = abP l i)
def kidsAt (l : List S63) (m i : Nat) : List Nat := (List.range m).filter (fun k => decide (i < k) && decide (abP l k = idP l i))
def netT (l : List S63) : Net := { n := l.length, kid := kidsAt l l.length, loss := loP l }
theorem kidsAt_mem {l : List S63} {m i k : Nat} : k ∈ kidsAt l m i ↔ k < m ∧ i < k ∧ abP l k = idP l i := by
 simp [kidsAt]
theorem kidsAt_succ (l : List S63) (m i : Nat) : kidsAt l (m + 1) i = kidsAt l m i ++ (if i < m ∧ abP l m = idP l i then [m] else []) := by
 unfold kidsAt
 rw [List.range_succ, List.filter_append]
 congr 1
 by_cases h : i < m ∧ abP l m = idP l i
 ·rw [if_pos h, List.filter_cons_of_pos (by simp [h])]; rfl
 ·rw [if_neg h, List.filter_cons_of_neg (by simpa using h)]; rfl
theorem asc_of {l : List S63} {m : Nat} (h : ∀ i, i < m → okP l i) : ∀ d i j, j = i + d + 1 → j < m → idP l i < idP l j := by
 intro d
 induction d with
 | zero =>
  intro i j e hj
  have := (h j hj).2.1 (by omega)
  rwa [show j - 1 = i by omega] at this
 | succ d ih =>
  intro i j e hj
  have h1 := ih i (j - 1) (by omega) (by omega)
  have h2 := (h j hj).2.1 (by omega)
  omega
theorem asc {l : List S63} {m : Nat} (h : ∀ i, i < m → okP l i) {i j : Nat} (hij : i < j) (hj : j < m) : idP l i < idP l j := asc_of h (j - i - 1) i j (by omega) hj
theorem id_inj {l : List S63} {m : Nat} (h : ∀ i, i < m → okP l i) {i j : Nat} (hi : i < m) (hj : j < m) (e : idP l i = idP l j) : i = j := by
 rcases Nat.lt_trichotomy i j with h1 | h1 | h1
 ·have := asc h h1 hj; omega
 ·exact h1
 ·have := asc h h1 hi; omega
theorem isVol_iff (n : Int) : isVol n = true ↔ 0 ≤ n ∧ n ≤ 1000000000 := by simp [isVol]
structure OpenAt (l : List S63) (m : Nat) (kids : List (List Int)) (at_ : Int → Option Int) : Prop where
 len : kids.length = l.length
 kid : ∀ j, j < l.length → rdK kids j = (kidsAt l m j).map Int.ofNat
 has : ∀ id j, at_ id = some j → ∃ n : Nat, j = n ∧ n < m ∧ idP l n = id
 all : ∀ n, n < m → at_ (idP l n) = some (n : Int)
theorem rdK_set (kids : List (List Int)) (i j : Nat) (x : List Int) (hi : i < kids.length) : rdK (kids.set i x) j = if i = j then x else rdK kids j := by
 simp only [rdK, List.getD_eq_getElem?_getD, Int.toNat_natCast, List.getElem?_set]
 by_cases h : i = j
 ·subst h; simp [hi]
 ·simp [h]
theorem bad_iff (l : List S63) (m : Nat) (kids : List (List Int)) (at_ : Int → Option Int) (h : OpenAt l m kids at_) : badP l m (at_ (abP l m)).isSome = false ↔ okP l m := by
 have hasiff : (at_ (abP l m)).isSome = true ↔ ∃ j, j < m ∧ idP l j = abP l m := by
  constructor
  ·intro hs
   obtain ⟨j, hj⟩ := Option.isSome_iff_exists.1 hs
   obtain ⟨n, _, hn, e⟩ := h.has _ _ hj
   exact ⟨n, hn, e⟩
  ·rintro ⟨j, hj, e⟩
   rw [← e, h.all j hj]
   rfl
 have hm1 : (0 : Int) < (m : Int) → ((m : Int) - 1) = ((m - 1 : Nat) : Int) := by omega
 unfold badP okP
 simp only [idP, loP, abP] at *
 constructor
 ·intro hb
  simp only [Bool.or_eq_false_iff, Bool.and_eq_false_iff, decide_eq_false_iff_not, Bool.not_eq_false', isVol_iff, bne_eq_false_iff_eq, Bool.not_eq_false'] at hb
  obtain ⟨⟨⟨h1, h2⟩, h3⟩, h4⟩ := hb
  refine ⟨by omega, fun hm => ?_, h3, fun ha => ?_⟩
  ·rcases h2 with h2 | h2
   ·omega
   ·rw [hm1 (by omega)] at h2; omega
  ·rcases h4 with h4 | h4
   ·exact absurd h4 ha
   ·exact hasiff.1 h4
 ·rintro ⟨h1, h2, h3, h4⟩
  simp only [Bool.or_eq_false_iff, Bool.and_eq_false_iff, decide_eq_false_iff_not, Bool.not_eq_false', isVol_iff, bne_eq_false_iff_eq, Bool.not_eq_false']
  refine ⟨⟨⟨by omega, ?_⟩, h3⟩, ?_⟩
  ·by_cases hm : 0 < m
   ·refine .inr ?_
    rw [hm1 (by omega)]
    have := h2 hm
    omega
   ·exact .inl (by omega)
  ·by_cases ha : abP l m = 0
   ·exact .inl ha
   ·exact .inr (hasiff.2 (h4 ha))
theorem open_step (l : List S63) (m : Nat) (hm : m < l.length) (kids : List (List Int)) (at_ : Int → Option Int) (h : OpenAt l m kids at_) (hok : ∀ i, i < m + 1 → okP l i) :
  OpenAt l (m + 1) (addKid kids (at_ (abP l m)) m) (setI at_ (idP l m) m) := by
 refine ⟨(addKid_len _ _ _).trans h.len, fun j hj => ?_, fun id j hj => ?_, fun n hn => ?_⟩
 ·rw [kidsAt_succ, List.map_append]
  cases ha : at_ (abP l m) with
  | none =>
   have hno : ¬ (j < m ∧ abP l m = idP l j) := by
    rintro ⟨h1, h2⟩
    rw [h2, h.all j h1] at ha
    cases ha
   rw [if_neg hno]
   simp only [addKid, List.map_nil, List.append_nil]
   exact h.kid j hj
  | some a =>
   obtain ⟨n, rfl, hn, hid⟩ := h.has _ _ ha
   have hnl : n < kids.length := by rw [h.len]; omega
   simp only [addKid]
   rw [Int.toNat_natCast, rdK_set _ _ _ _ hnl]
   by_cases e : n = j
   ·subst e
    rw [if_pos rfl, if_pos ⟨hn, hid.symm⟩, h.kid n hj]
    rfl
   ·rw [if_neg e, if_neg (fun hh => e (id_inj hok (by omega) (by omega) (hid.trans hh.2))), h.kid j hj]
    simp
 ·unfold setI at hj
  split at hj
  ·rename_i e
   injection hj with hj
   exact ⟨m, hj.symm, by omega, e.symm⟩
  ·obtain ⟨n, e, hn, hid⟩ := h.has _ _ hj
   exact ⟨n, e, by omega, hid⟩
 ·unfold setI
  by_cases e : n = m
  ·subst e; rw [if_pos rfl]
  ·rw [if_neg (fun hh => e (id_inj hok (by omega) (by omega) hh)), h.all n (by omega)]
theorem openL_spec (l : List S63) : ∀ (k m : Nat) (kids : List (List Int)) (at_ : Int → Option Int), m + k = l.length → OpenAt l m kids at_ → (∀ i, i < m → okP l i) →
  (∀ r, openL l k kids at_ m = some r → (∀ i, i < l.length → okP l i) ∧ r.length = l.length ∧ ∀ j, j < l.length → rdK r j = (kidsAt l l.length j).map Int.ofNat) ∧ ((∀ i, i < l.length → okP l i) → ∃ r, openL l k kids at_ m = some r) := by
 intro k
 induction k with
 | zero =>
  intro m kids at_ hm h hok
  have e : m = l.length := by omega
  subst e
  refine ⟨fun r hr => ?_, fun _ => ⟨kids, rfl⟩⟩
  simp only [openL, Option.some.injEq] at hr
  subst hr
  exact ⟨hok, h.len, h.kid⟩
 | succ k ih =>
  intro m kids at_ hm h hok
  have hb := bad_iff l m kids at_ h
  simp only [openL]
  cases hbad : badP l m (at_ (abP l m)).isSome with
  | true =>
   have hno : ¬ okP l m := fun ho => by rw [hb.2 ho] at hbad; cases hbad
   rw [if_pos rfl]
   exact ⟨(fun r hr => by cases hr), fun ho => absurd (ho m (by omega)) hno⟩
  | false =>
   have hyes := hb.1 hbad
   rw [if_neg (by decide)]
   have hok' : ∀ i, i < m + 1 → okP l i := fun i hi => by
    by_cases h' : i < m
    ·exact hok i h'
    ·rw [show i = m by omega]; exact hyes
   have := ih (m + 1) (addKid kids (at_ (abP l m)) m) (setI at_ (idP l m) m) (by omega) (open_step l m (by omega) kids at_ h hok') hok'
   rw [show ((m + 1 : Nat) : Int) = (m : Int) + 1 from by omega] at this
   exact this
theorem openAt0 (l : List S63) : OpenAt l 0 (List.replicate l.length []) (fun _ => none) := by
 refine ⟨by simp, fun j hj => ?_, (fun id j hj => by cases hj), fun n hn => absurd hn (Nat.not_lt_zero _)⟩
 simp [rdK, kidsAt, List.getD_eq_getElem?_getD, hj]
def okL (l : List S63) : Prop := ∀ i, i < l.length → okP l i
theorem openK_some {l : List S63} {kids : List (List Int)} (h : openK l = some kids) : okL l ∧ ∀ j, j < l.length → rdK kids j = (kidsAt l l.length j).map Int.ofNat := by
 have := (openL_spec l l.length 0 _ _ (by omega) (openAt0 l) (fun i hi => absurd hi (Nat.not_lt_zero _))).1 kids h
 exact ⟨this.1, this.2.2⟩
theorem openK_of {l : List S63} (h : okL l) : ∃ kids, openK l = some kids :=
 (openL_spec l l.length 0 _ _ (by omega) (openAt0 l) (fun i hi => absurd hi (Nat.not_lt_zero _))).2 h
theorem netT_ok {l : List S63} (h : okL l) : (netT l).Ok := by
 refine ⟨fun i k hk => ?_, fun i => ?_, fun i j k hi hj => ?_, fun i hi => (h i hi).2.2.1.1⟩
 ·have := kidsAt_mem.1 hk; exact ⟨this.2.1, this.1⟩
 ·exact List.Nodup.sublist List.filter_sublist List.nodup_range
 ·have h1 := kidsAt_mem.1 hi
  have h2 := kidsAt_mem.1 hj
  exact id_inj h (show i < l.length by omega) (show j < l.length by omega) (h1.2.2.symm.trans h2.2.2)
end Go.Proofs.Ythjjabcbngffoaa.P
end
section
namespace Go.Proofs.Ythjjabcbngffoaa.P
open Go.RowKit Go.Proofs.YthjjabcbngffoaaW.PrintWords Go.Proofs.YthjjabcbngffoaaW.PrintLast Go.Proofs.YthjjabcbngffoaaW.PrintMore Go.Proofs.YthjjabcbngffoaaH Go.Proofs.FlowTree
abbrev IV := S85
abbrev PI := S63
abbrev rv (r : List IV) (i : Nat) : IV := rd_T85 r i
def Lo (r : List IV) (i : Nat) : Int := (rv r i).f0
def Hi (r : List IV) (i : Nat) : Int := (rv r i).f1
def Vol (n : Nat) (lo hi : Nat → Int) : Prop := ∀ i, i < n → 0 ≤ lo i ∧ lo i ≤ hi i ∧ hi i ≤ 1000000000
theorem rv_set (r : List IV) (i j : Nat) (y : IV) (hi : i < r.length) : rv (r.set i y) j = if i = j then y else rv r j := by
 simp only [rv, rd_T85, List.getD_eq_getElem?_getD, Int.toNat_natCast, List.getElem?_set]
 by_cases h : i = j
 ·subst h; simp [hi]
 ·simp [h]
theorem wrap_id {n : Int} (h1 : -9223372036854775808 ≤ n) (h2 : n ≤ 9223372036854775807) : wrap64 n = n := by unfold wrap64; omega
theorem total_fold (φ : IV → Int) (xs : List IV) : ∀ s : Int, 0 ≤ s → s + 1000000000 * xs.length ≤ 1000000000000 → (∀ x ∈ xs, 0 ≤ φ x ∧ φ x ≤ 1000000000) → xs.foldl (fun s x => wrap64 (s + φ x)) s = (xs.map φ).foldl (· + ·) s := by
 induction xs with
 | nil => intro s _ _ _; rfl
 | cons x xs ih =>
  intro s h0 h1 h
  have hx := h x (by simp)
  simp only [List.length_cons, Int.natCast_add, Int.natCast_one, Int.mul_add, Int.mul_one] at h1
  have hl : (0 : Int) ≤ 1000000000 * xs.length := by omega
  rw [List.foldl_cons, List.map_cons, List.foldl_cons, wrap_id (by omega) (by omega)]
  exact ih (s + φ x) (by omega) (by omega) (fun y hy => h y (List.mem_cons_of_mem _ hy))
theorem total_eq (φ : IV → Int) (r : List IV) (ks : List Nat) (hl : ks.length ≤ 200) (h : ∀ k ∈ ks, 0 ≤ φ (rv r k) ∧ φ (rv r k) ≤ 1000000000) : totalF φ (ks.map (fun k => rv r k)) = sm (fun k => φ (rv r k)) ks := by
 unfold totalF sm
 rw [total_fold φ _ 0 (Int.le_refl _) (by rw [List.length_map]; omega) (by
  intro x hx
  obtain ⟨k, hk, rfl⟩ := List.mem_map.1 hx
  exact h k hk), List.map_map]
 rfl
theorem kids_len (l : List PI) (i : Nat) : (kidsAt l l.length i).length ≤ l.length := by
 unfold kidsAt
 exact Nat.le_trans (List.length_filter_le _ _) (by simp)
section
variable {l : List PI} {kids : List (List Int)}
theorem below_eq (hk : ∀ j, j < l.length → rdK kids j = (kidsAt l l.length j).map Int.ofNat) (r : List IV) (i : Nat) (hi : i < l.length) : belowI kids r i = (kidsAt l l.length i).map (fun k => rv r k) := by
 unfold belowI
 rw [hk i hi, List.map_map]
 rfl
theorem cutI_f0 (x : IV) (a b : Int) : (cutI x a b).f0 = max x.f0 a := by simp only [cutI, mx]; split <;> omega
theorem cutI_f1 (x : IV) (a b : Int) : (cutI x a b).f1 = min x.f1 b := by simp only [cutI, mn]; split <;> omega
structure UpAt (l : List PI) (r : List IV) (m : Nat) (u : List IV) : Prop where
 len : u.length = l.length
 old : ∀ j, j < m → rv u j = rv r j
 now : (∃ j, m ≤ j ∧ j < l.length ∧ Hi u j < Lo u j) ∧ (¬ ∃ x, Sol (netT l) (Lo r) (Hi r) x) ∨
  (∀ j, m ≤ j → j < l.length → (0 ≤ Lo u j ∧ Lo u j ≤ Hi u j ∧ Hi u j ≤ 1000000000 ∧ Lo r j ≤ Lo u j ∧ Hi u j ≤ Hi r j) ∧ (kidsAt l l.length j ≠ [] → sm (Lo u) (kidsAt l l.length j) ≤ Lo u j ∧ Hi u j ≤ sm (Hi u) (kidsAt l l.length j) + loP l j)) ∧
  (∀ x, Sol (netT l) (Lo r) (Hi r) x → ∀ j, m ≤ j → j < l.length → Lo u j ≤ x j ∧ x j ≤ Hi u j)
theorem up_step (hok : okL l) (hn : l.length ≤ 200) (hk : ∀ j, j < l.length → rdK kids j = (kidsAt l l.length j).map Int.ofNat) {r u : List IV} (hv : Vol l.length (Lo r) (Hi r)) {i : Nat} (hi : i < l.length) (h : UpAt l r (i + 1) u) :
  UpAt l r i (upStep l kids u i) := by
 have hil : i < u.length := by rw [h.len]; exact hi
 have hlo : (rd_T63 l i).f2 = loP l i := rfl
 unfold upStep
 rw [below_eq hk u i hi, List.length_map, hlo]
 by_cases hne : kidsAt l l.length i = []
 ·rw [hne]
  simp only [List.length_nil, Nat.lt_irrefl, if_false]
  refine ⟨h.len, fun j hj => h.old j (by omega), ?_⟩
  have e : rv u i = rv r i := h.old i (by omega)
  rcases h.now with ⟨⟨j, h1, h2, h3⟩, hs⟩ | ⟨ha, hs⟩
  ·exact .inl ⟨⟨j, by omega, h2, h3⟩, hs⟩
  ·refine .inr ⟨fun j h1 h2 => ?_, fun x hx j h1 h2 => ?_⟩
   ·by_cases hj : i + 1 ≤ j
    ·exact ha j hj h2
    ·have e2 : j = i := by omega
     subst e2
     have h4 := hv j h2
     refine ⟨?_, fun hc => absurd hne hc⟩
     simp only [Lo, Hi, e] at *
     omega
   ·by_cases hj : i + 1 ≤ j
    ·exact hs x hx j hj h2
    ·have e2 : j = i := by omega
     subst e2
     have h4 := hx.1 j h2
     simp only [Lo, Hi, e] at *
     exact h4
 ·have hpos : 0 < (kidsAt l l.length i).length := List.length_pos_iff.2 hne
  rw [if_pos hpos, Int.toNat_natCast]
  have hset : ∀ y j, rv (u.set i y) j = if i = j then y else rv u j := fun y j => rv_set u i j y hil
  have hkid : ∀ k ∈ kidsAt l l.length i, i + 1 ≤ k ∧ k < l.length := fun k hk' => by have := kidsAt_mem.1 hk'; exact ⟨by omega, by omega⟩
  rcases h.now with ⟨⟨j, h1, h2, h3⟩, hs⟩ | ⟨ha, hs⟩
  ·refine ⟨by rw [List.length_set]; exact h.len, fun j hj => by rw [hset, if_neg (by omega)]; exact h.old j (by omega), .inl ⟨⟨j, by omega, h2, ?_⟩, hs⟩⟩
   simp only [Lo, Hi, hset, if_neg (show ¬ i = j by omega)] at *
   exact h3
  ·have hL : totalF S85.f0 ((kidsAt l l.length i).map (fun k => rv u k)) = sm (Lo u) (kidsAt l l.length i) := by
    rw [total_eq _ _ _ (Nat.le_trans (kids_len l i) hn) (fun k hk' => by have := (ha k (hkid k hk').1 (hkid k hk').2).1; simp only [Lo, Hi] at this; omega)]
    rfl
   have hH : totalF S85.f1 ((kidsAt l l.length i).map (fun k => rv u k)) = sm (Hi u) (kidsAt l l.length i) := by
    rw [total_eq _ _ _ (Nat.le_trans (kids_len l i) hn) (fun k hk' => by have := (ha k (hkid k hk').1 (hkid k hk').2).1; simp only [Lo, Hi] at this; omega)]
    rfl
   have bH := sm_bound (f := Hi u) (ks := kidsAt l l.length i) (a := 0) (b := 1000000000) (fun k hk' => by have := (ha k (hkid k hk').1 (hkid k hk').2).1; omega)
   have bL := sm_bound (f := Lo u) (ks := kidsAt l l.length i) (a := 0) (b := 1000000000) (fun k hk' => by have := (ha k (hkid k hk').1 (hkid k hk').2).1; omega)
   have bl := kids_len l i
   have bo := (hok i hi).2.2.1
   rw [hL, hH, wrap_id (by omega) (by omega)]
   obtain ⟨y, hy⟩ : ∃ y, y = cutI (rd_T85 u i) (sm (Lo u) (kidsAt l l.length i)) (sm (Hi u) (kidsAt l l.length i) + loP l i) := ⟨_, rfl⟩
   rw [← hy]
   have hy0 : y.f0 = max (Lo u i) (sm (Lo u) (kidsAt l l.length i)) := by rw [hy, cutI_f0]; rfl
   have hy1 : y.f1 = min (Hi u i) (sm (Hi u) (kidsAt l l.length i) + loP l i) := by rw [hy, cutI_f1]; rfl
   have er : rv u i = rv r i := h.old i (by omega)
   have hri := hv i hi
   have hrl : Lo u i = Lo r i := by simp only [Lo, er]
   have hrh : Hi u i = Hi r i := by simp only [Hi, er]
   have hsol : ∀ x, Sol (netT l) (Lo r) (Hi r) x → y.f0 ≤ x i ∧ x i ≤ y.f1 := by
    intro x hx
    have h1 := hx.1 i hi
    have h2 := hx.2 i hi hne
    have h3 : sm (Lo u) (kidsAt l l.length i) ≤ sm x (kidsAt l l.length i) := sm_le (fun k hk' => (hs x hx k (hkid k hk').1 (hkid k hk').2).1)
    have h4 : sm x (kidsAt l l.length i) ≤ sm (Hi u) (kidsAt l l.length i) := sm_le (fun k hk' => (hs x hx k (hkid k hk').1 (hkid k hk').2).2)
    simp only [netT] at h2
    omega
   have old' : ∀ j, j < i → rv (u.set i y) j = rv r j := fun j hj => by rw [hset, if_neg (by omega)]; exact h.old j (by omega)
   have hne' : ∀ j, i ≠ j → Lo (u.set i y) j = Lo u j ∧ Hi (u.set i y) j = Hi u j := fun j hj => ⟨by simp only [Lo, hset, if_neg hj], by simp only [Hi, hset, if_neg hj]⟩
   have hi0 : Lo (u.set i y) i = y.f0 ∧ Hi (u.set i y) i = y.f1 := ⟨by simp only [Lo, hset, if_true], by simp only [Hi, hset, if_true]⟩
   have hkn : ∀ j, i ≤ j → ∀ k ∈ kidsAt l l.length j, i ≠ k := fun j hj k hk' => by have := kidsAt_mem.1 hk'; omega
   refine ⟨by rw [List.length_set]; exact h.len, old', ?_⟩
   by_cases hem : y.f0 ≤ y.f1
   ·refine .inr ⟨fun j h1 h2 => ?_, fun x hx j h1 h2 => ?_⟩
    ·have hsL : sm (Lo (u.set i y)) (kidsAt l l.length j) = sm (Lo u) (kidsAt l l.length j) := sm_congr (fun k hk' => (hne' k (hkn j h1 k hk')).1)
     have hsH : sm (Hi (u.set i y)) (kidsAt l l.length j) = sm (Hi u) (kidsAt l l.length j) := sm_congr (fun k hk' => (hne' k (hkn j h1 k hk')).2)
     rw [hsL, hsH]
     by_cases hj : i + 1 ≤ j
     ·rw [(hne' j (by omega)).1, (hne' j (by omega)).2]
      exact ha j hj h2
     ·have e2 : j = i := by omega
      subst e2
      rw [hi0.1, hi0.2]
      exact ⟨by omega, fun _ => by omega⟩
    ·by_cases hj : i + 1 ≤ j
     ·rw [(hne' j (by omega)).1, (hne' j (by omega)).2]
      exact hs x hx j hj h2
     ·have e2 : j = i := by omega
      subst e2
      rw [hi0.1, hi0.2]
      exact hsol x hx
   ·refine .inl ⟨⟨i, Nat.le_refl _, hi, by rw [hi0.1, hi0.2]; omega⟩, fun ⟨x, hx⟩ => ?_⟩
    have := hsol x hx
    omega
theorem up_fold (hok : okL l) (hn : l.length ≤ 200) (hk : ∀ j, j < l.length → rdK kids j = (kidsAt l l.length j).map Int.ofNat) {r : List IV} (hl : r.length = l.length) (hv : Vol l.length (Lo r) (Hi r)) :
  ∀ d, d ≤ l.length → UpAt l r (l.length - d) ((downTo l.length d).foldl (fun r (j : Nat) => upStep l kids r j) r) := by
 intro d
 induction d with
 | zero => intro _; exact ⟨hl, fun _ _ => rfl, .inr ⟨fun j h1 h2 => by omega, fun x _ j h1 h2 => by omega⟩⟩
 | succ d ih =>
  intro hd
  rw [downTo_succ, List.foldl_append]
  have h := ih (by omega)
  have e : l.length - d = (l.length - 1 - d) + 1 := by omega
  rw [e] at h
  have := up_step hok hn hk hv (i := l.length - 1 - d) (by omega) h
  rw [show l.length - (d + 1) = l.length - 1 - d by omega]
  exact this
theorem up_spec (hok : okL l) (hn : l.length ≤ 200) (hk : ∀ j, j < l.length → rdK kids j = (kidsAt l l.length j).map Int.ofNat) {r : List IV} (hl : r.length = l.length) (hv : Vol l.length (Lo r) (Hi r)) : UpAt l r 0 (upF l kids r) := by
 have := up_fold hok hn hk hl hv l.length (Nat.le_refl _)
 rw [Nat.sub_self] at this
 exact this
end
end Go.Proofs.Ythjjabcbngffoaa.P
end
