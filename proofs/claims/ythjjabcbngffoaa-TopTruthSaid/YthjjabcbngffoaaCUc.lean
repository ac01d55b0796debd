/- Part 3 of the base that the seat's proofs share: words, walks and plain laws. -/
import Derived.ArgAppend
import Derived.Below
import Derived.BigQuiet
import Derived.ChangeOld
import Derived.ChangeSlices
import Derived.Deep.AppendLies
import Derived.Deep.CutBlock
import Derived.Deep.DeepCutAuto
import Derived.Deep.Draws
import Derived.Deep.LoopGhost
import Derived.Deep.OwnRows
import Derived.Deep.QuietTactic
import Derived.Deep.RegionHeld3
import Derived.Deep.Slices
import Derived.KernelRfl
import Derived.Laws.BitsLemmas
import Derived.Laws.BytesArg
import Derived.Laws.IdiomCopy
import Derived.Laws.MakeOwn
import Derived.Laws.OwnMore
import Derived.Laws.Rows
import Derived.Laws.Slices
import Derived.Laws.StructEq
import Derived.Lib.AppendStr
import Derived.Lib.ConvBytes
import Derived.LoopIn
import Derived.LoopNIn
import Derived.Maps.AppendAt
import Derived.Maps.Own
import Derived.OpenShut
import Derived.OrdersHeld
import Derived.OwnWalk
import Derived.OwnWalkIn
import Derived.ProofKit
import Derived.RangeFuncBound
import Derived.RangeFuncCalls
import Derived.RangeFuncLeaves
import Derived.RangeFuncNested
import Derived.RowKit
import Derived.RowKit3
import Derived.ShutString
import Derived.SizedLaws
import Derived.Sort.CutIn
import Derived.Stop.RegionWithIn
import Derived.Tactics
import Derived.TacticsInMore
import Derived.Test.YthjjabcbngffoaaProg
import Derived.WalkKit
import Derived.WideLaws
import Derived.Test.YthjjabcbngffoaaCUb
set_option linter.unusedVariables false
set_option linter.unusedSimpArgs false
section
namespace Go.Proofs.Ythjjabcbngffoaa.P
open Go.RowKit Go.Proofs.YthjjabcbngffoaaW.PrintWords Go.Proofs.YthjjabcbngffoaaW.PrintLast Go.Proofs.YthjjabcbngffoaaW.PrintMore
attribute [local go_sem] max2_int min2_int max_two min_two max_three min_three max_four min_four
set_option linter.unusedVariables false
set_option linter.unusedSimpArgs false
set_option maxHeartbeats 8000000
set_option maxRecDepth 100000
section
open Go.Proofs.YthjjabcbngffoaaH
def mapVB (m : Int → Bool) : Int → Option Value := fun k => if m k then some (.bool true) else none
theorem mapVB_set (m : Int → Bool) (k : Int) : ∀ x, setM (mapVB m) k (.bool true) x = mapVB (fun k' => if k' = k then true else m k') x := by
 intro x
 unfold setM mapVB
 by_cases h : x = k <;> simp [h]
theorem mapVB_get (m : Int → Bool) (k : Int) : (mapVB m k).getD (.bool false) = .bool (m k) := by
 unfold mapVB
 cases m k <;> rfl
def abvB (l : List S63) (n : Nat) (k : Int) : Bool := (List.range n).any (fun j => decide (k = (rd_T63 l j).f1))
theorem abvB_succ (l : List S63) (n : Nat) : (fun k' => if k' = (rd_T63 l n).f1 then true else abvB l n k') = abvB l (n + 1) := by
 funext k
 unfold abvB
 rw [List.range_succ, List.any_append]
 by_cases h : k = (rd_T63 l n).f1 <;> simp [h]
def rootsN (l : List S63) (n : Nat) : Int := (List.range n).foldl (fun s (j : Nat) => if (rd_T63 l j).f1 = 0 then wrap64 (s + 1) else s) 0
def totN (l : List S63) (bs : List S38) (n : Nat) : S38 := (List.range n).foldl (fun t (j : Nat) => if (rd_T63 l j).f1 = 0 then ⟨(rd_T38 bs j).f0, (rd_T38 bs j).f1⟩ else t) ⟨0, 0⟩
def partsN (l : List S63) (bs : List S38) (n : Nat) : List S38 := (List.range n).foldl (fun ps (j : Nat) => if abvB l l.length (rd_T63 l j).f0 = true then ps else ps ++ [⟨(rd_T38 bs j).f0, (rd_T38 bs j).f1⟩]) []
theorem partsN_len (l : List S63) (bs : List S38) (n : Nat) : (partsN l bs n).length ≤ n := by
 unfold partsN
 induction n with
 | zero => simp
 | succ n ih =>
  rw [foldl_range_succ]
  split
  ·omega
  ·rw [List.length_append]; simp; omega
def networkC (c : Int) (l : List S63) (known : List S38) (homes : List Int) : List S40 × Int × Int :=
 if (boundsR l known).2 = 0 then
  if c < 0 ∨ 1000000000 < c ∨ rootsN l l.length ≠ 1 ∨ homes.length ≠ (partsN l (boundsR l known).1 l.length).length ∨ homesB 0 homes = false then ([], 0, 1)
  else if (totN l (boundsR l known).1 l.length).f0 ≠ (totN l (boundsR l known).1 l.length).f1 ∨ (totN l (boundsR l known).1 l.length).f0 = 0 then ([], 0, 3)
  else shareC c (totN l (boundsR l known).1 l.length).f0 homes (partsN l (boundsR l known).1 l.length)
 else ([], 0, (boundsR l known).2)
def charges_Network.f (a0 : Int) (l1 : List S63) (l2 : List S38) (l3 : List Int) : Option (List S40 × Int × Int) := if l1.length ≤ 5864062014805 ∧ l2.length ≤ 140737488355328 then some (networkC a0 l1 l2 l3) else none
theorem boundsR_two (l : List S63) (r : List S38) : (boundsR l r).2 ≠ 0 ∧ (boundsR l r).1 = [] ∨ (boundsR l r).2 = 0 ∧ l.length ≤ 200 ∧ (boundsR l r).1.length = l.length := by
 unfold boundsR
 cases hk : netOk l with
 | none => exact .inl ⟨by simp, rfl⟩
 | some kids =>
  have hl : l.length ≤ 200 := by
   unfold netOk at hk
   split at hk
   ·assumption
   ·cases hk
  simp only []
  split
  ·rename_i hb
   split
   ·refine .inr ⟨rfl, hl, ?_⟩
    rw [List.length_map, boundsF_len, List.length_map]
    simp [belongsB] at hb
    exact hb.1
   ·exact .inl ⟨by simp, rfl⟩
  ·exact .inl ⟨by simp, rfl⟩
theorem R_farT {e base g : Nat} {w : World} {A : Option Addr} {n c : Nat} {xs : List S38} (h : Kd.R k38 e w base (fun _ => True) (.slice A n c) xs) (hne : some g ≠ (Value.slice A n c).ownBlock) (j : Nat) (u : Value) : Kd.R k38 e (w.setCell ⟨g, j, none⟩ u) base (fun _ => True) (.slice A n c) xs :=
 Kd.R_mono (Kd.R_far (p := ⟨g, j, none⟩) (Kd.R_far1 h rfl hne) (fun _ hk => hk.2) u) (fun _ _ => trivial)
set_option maxHeartbeats 16000000 in
theorem charges_Network.calls (a0 : Int) (A1 : Option Addr) (c1 : Nat) (l1 : List (S63)) (A2 : Option Addr) (c2 : Nat) (l2 : List (S38)) (A3 : Option Addr) (c3 : Nat) (l3 : List Int) (r1 : List (S40)) (r2 r3 : Int) (w : World) (hr1 : Kd.C k63 w A1 l1.length l1) (hc1 : l1.length ≤ c1) (hr2 : Kd.C k38 w A2 l2.length l2) (hc2 : l2.length ≤ c2) (hr3 : Kd.C (Kd.int .i64) w A3 l3.length l3) (hc3 : l3.length ≤ c3) (h : charges_Network.f a0 l1 l2 l3 = some (r1, r2, r3)) :
  Calls Try.prog 19 #[.int .i64 a0, .slice A1 l1.length c1, .slice A2 l2.length c2, .slice A3 l3.length c3] w fun e w' => ∃ v0_ : Value, e = .returned (.tuple #[v0_, .int .i64 r2, .int .i64 r3]) ∧ Kd.R k40 40 w' w.heap.size (fun _ => True) v0_ r1 ∧ Below w.heap.size w w' := by
 have hu38 := Try.underlying38
 have hu63 := Try.underlying63
 unfold charges_Network.f at h
 by_cases hsz : l1.length ≤ 5864062014805 ∧ l2.length ≤ 140737488355328
 case neg =>
  rw [if_neg hsz] at h
  cases h
 rw [if_pos hsz] at h
 injection h with h
 have HR1 := Aside0.mk hr1
 have HC1 := Aside0.mk hc1
 have HR2 := Aside0.mk hr2
 have HC2 := Aside0.mk hc2
 have HR3 := Aside0.mk hr3
 have HC3 := Aside0.mk hc3
 have HB := Aside0.mk (Below.refl w.heap.size w)
 obtain ⟨bs, hbs⟩ : ∃ bs, bs = (boundsR l1 l2).1 := ⟨_, rfl⟩
 obtain ⟨be, hbe⟩ : ∃ be, be = (boundsR l1 l2).2 := ⟨_, rfl⟩
 have HE := Aside0.mk (show flow_Bounds.f l1 l2 = some (bs, be) by unfold flow_Bounds.f; rw [if_pos hsz, hbs, hbe])
 have hmm := @run_makeMap Try.prog
 clear hr1 hc1 hr2 hc2 hr3 hc3 hsz
 rcases boundsR_two l1 l2 with ⟨hne, hnil⟩ | ⟨h0, h200, hlen⟩
 ·have e : networkC a0 l1 l2 l3 = ([], 0, be) := by unfold networkC; rw [if_neg hne, hbe]
  rw [e] at h
  injection h with e1 e2
  injection e2 with e2 e3
  subst e1
  subst e2
  subst e3
  rw [← hbe] at hne
  have n1 : (be == 0) = false := beq_eq_false_iff_ne.2 hne
  have n2 : (be != 0) = true := bne_iff_ne.2 hne
  clear e hne hnil hbs hbe
  go_enter Try.func19, Try.ntmps19
  go_wp2_with (first | (go_at_call 25; (with_reducible refine (flow_Bounds.calls A1 c1 l1 A2 c2 l2 _ _ _ (Kd.C_below HR1.out HB.out) HC1.out (Kd.C_below HR2.out HB.out) HC2.out HE.out).mono ?_); rintro e w2 ⟨v2, rfl, hR_, hb_⟩; have n0_ := Aside0.mk (below_step HB.out hb_); obtain ⟨Ab, cb, rfl⟩ := Kd.R_slice hR_; have HRB := Aside0.mk (Kd.R_lower hR_ (below_size HB.out)); clear HB hb_ hR_; have HB := n0_; clear n0_))
  go_ret3
  exact ⟨_, rfl, Kd.R_nil _ _ _ _ _, HB.out⟩
 ·rw [← hbe] at h0
  rw [← hbs] at hlen
  subst h0
  have HNET := Aside0.mk (show networkC a0 l1 l2 l3 = (if a0 < 0 ∨ 1000000000 < a0 ∨ rootsN l1 l1.length ≠ 1 ∨ l3.length ≠ (partsN l1 bs l1.length).length ∨ homesB 0 l3 = false then ([], 0, 1) else if (totN l1 bs l1.length).f0 ≠ (totN l1 bs l1.length).f1 ∨ (totN l1 bs l1.length).f0 = 0 then ([], 0, 3) else shareC a0 (totN l1 bs l1.length).f0 l3 (partsN l1 bs l1.length)) by unfold networkC; rw [if_pos hbe.symm, ← hbs])
  rw [HNET.out] at h
  have HH := Aside0.mk h
  have HBL := Aside0.mk hlen
  have H200 := Aside0.mk h200
  clear h hlen h200 HNET hbs hbe
  go_enter Try.func19, Try.ntmps19
  go_wp2_with (first | (go_at_call 25; (with_reducible refine (flow_Bounds.calls A1 c1 l1 A2 c2 l2 _ _ _ (Kd.C_below HR1.out HB.out) HC1.out (Kd.C_below HR2.out HB.out) HC2.out HE.out).mono ?_); rintro e w2 ⟨v2, rfl, hR_, hb_⟩; have n0_ := Aside0.mk (below_step HB.out hb_); obtain ⟨Ab, cb, rfl⟩ := Kd.R_slice hR_; rw [HBL.out] at hR_; rw [HBL.out]; have HRB := Aside0.mk (Kd.R_lower hR_ (below_size HB.out)); clear HB hb_ hR_; have HB := n0_; clear n0_))
  obtain ⟨gm, hgm⟩ : ∃ gm, gm = w2.heap.size := ⟨_, rfl⟩
  obtain ⟨gt, hgt⟩ : ∃ gt, gt = w2.heap.size + 1 := ⟨_, rfl⟩
  obtain ⟨w4, hw4⟩ : ∃ w4, w4 = (w2.alloc (Obj.map #[] 0)).alloc (Obj.cells #[Value.int .i64 0, Value.int .i64 0] 38) := ⟨_, rfl⟩
  rw [← hw4, ← hgt, ← hgm]
  have hb4 : Below w2.heap.size w2 w4 := by rw [hw4]; exact below_alloc (below_alloc (Below.refl _ _) _) _
  have BT4 := Aside0.mk (show w4.heap[gt]? = some (.cells #[.int .i64 0, .int .i64 0] 38 (0, 0)) by rw [hw4, hgt]; have := blk_new (w2.alloc (Obj.map #[] 0)) (.cells #[Value.int .i64 0, Value.int .i64 0] 38); rwa [World.size_alloc] at this)
  have HM4 := Aside0.mk (show MapI w4 gm (mapVB (abvB l1 0)) by rw [hw4, hgm]; exact ((MapI.made w2).alloc _).eq (fun k => rfl))
  have HRB4 := Aside0.mk (Kd.R_below HRB.out hb4)
  have HB4 := Aside0.mk (below_step HB.out hb4)
  have GT := Aside0.mk (show w.heap.size ≤ gt by have := below_size HB.out; omega)
  have GM := Aside0.mk (show w.heap.size ≤ gm by have := below_size HB.out; omega)
  have NTB := Aside0.mk (show some gt ≠ (Value.slice Ab l1.length cb).ownBlock from fun e => by have := Kd.R_lt HRB.out _ e.symm; omega)
  clear hw4 hb4 hgm hgt HRB HB
  go_loopg [14, 33] l1.length (fun kq v14 v33 wr => ∃ (n : Nat) (q : Int) (t : S38), v14 = .int .i64 q ∧ v33 = .int .i64 n ∧ Aside0 (kq + n = l1.length) ∧ Aside0 (q = rootsN l1 n) ∧ Aside0 (t = totN l1 bs n) ∧ Aside0 (MapI wr gm (mapVB (abvB l1 n))) ∧ Aside0 (wr.heap[gt]? = some (.cells #[.int .i64 t.f0, .int .i64 t.f1] 38 (0, 0)))
   ∧ Aside0 (Kd.R k38 38 wr w.heap.size (fun _ => True) (.slice Ab l1.length cb) bs) ∧ Aside0 (Below w.heap.size w wr))
  case atStart => exact ⟨0, _, ⟨0, 0⟩, rfl, rfl, ⟨by omega⟩, ⟨rfl⟩, ⟨rfl⟩, HM4, BT4, HRB4, HB4⟩
  case round =>
   clear HM4 BT4 HRB4 HB4
   obtain ⟨n, q, t, rfl, rfl, HK, HQ, HT, HM, BT, HRB, HB⟩ := hrel
   by_cases hlt : n < l1.length
   ·obtain ⟨i, hi⟩ : ∃ i : Int, i = (n : Int) := ⟨_, rfl⟩
    rw [← hi]
    have HI2 := Aside0.mk (show 0 ≤ i ∧ i < l1.length ∧ i = (n : Int) from ⟨by omega, by omega, hi⟩)
    have d7 : decide (i < (l1.length : Int)) = true := decide_eq_true HI2.out.2.1
    have ci2 : (0 ≤ i) = True := eq_true HI2.out.1
    have ci3 : (i < l1.length) = True := eq_true HI2.out.2.1
    obtain ⟨adp, ep, hx0, hx1, hx2⟩ := at_T63 (Kd.C_below HR1.out HB.out) i HI2.out.1 HI2.out.2.1
    subst ep
    obtain ⟨p, hp⟩ : ∃ p, p = rd_T63 l1 i := ⟨_, rfl⟩
    rw [← hp] at hx0 hx1 hx2
    have HP := Aside0.mk hp
    have hz1 : i + 1 ≤ 9223372036854775807 := by have := HI2.out; have := H200.out; omega
    have hz2 : -9223372036854775808 ≤ i + 1 := by have := HI2.out; omega
    clear hi hlt hp
    have HB0 := Aside0.mk (Below.refl wr.heap.size wr)
    go_upto_region 10 with (first | ((with_reducible refine gate_dst (N := 17) rfl ?_); refine box_event ?hg (N := 17) ?hd (cs := #[.int .i64 0, .int .i64 0, .int .i64 0]) (t := 63) ?hr ?_; (case hd => rfl); (case hg => rfl); (case hr => first | (go_simp; done) | (go_simp; rfl)); intro gp hg_P w9 hbox_ hb_; have n0_ := Aside0.mk (below_step HB0.out hb_); have BP := Aside0.mk hbox_; have GP := Aside0.mk (show wr.heap.size ≤ gp by rw [hg_P]; exact below_size HB0.out); have EP := Aside0.mk hg_P; have hcp0 : w9.cell? ⟨gp, 0, none⟩ = some (.int .i64 0) := (blk_cell hbox_ 0).trans rfl; have hfp0 := blk_frozen hbox_ 0; have hcp1 : w9.cell? ⟨gp, 1, none⟩ = some (.int .i64 0) := (blk_cell hbox_ 1).trans rfl; have hfp1 := blk_frozen hbox_ 1; have hcp2 : w9.cell? ⟨gp, 2, none⟩ = some (.int .i64 0) := (blk_cell hbox_ 2).trans rfl; have hfp2 := blk_frozen hbox_ 2; clear HB0 hg_P hbox_ hb_; have HB0 := n0_; clear n0_))
    obtain ⟨w10, hw10⟩ : ∃ w10, w10 = ((w9.setCell ⟨gp, 0, none⟩ (.int .i64 p.f0)).setCell ⟨gp, 1, none⟩ (.int .i64 p.f1)).setCell ⟨gp, 2, none⟩ (.int .i64 p.f2) := ⟨_, rfl⟩
    rw [← hw10]
    have BP10 := Aside0.mk (show w10.heap[gp]? = some (.cells #[.int .i64 p.f0, .int .i64 p.f1, .int .i64 p.f2] 63 (0, 0)) by rw [hw10]; exact blk_put3 BP.out _ _ _)
    have HB10 := Aside0.mk (show Below wr.heap.size wr w10 by rw [hw10]; exact below_put3 HB0.out GP.out _ _ _)
    clear hw10 BP HB0 hcp0 hcp1 hcp2 hfp0 hfp1 hfp2 hx0 hx1 hx2
    have hcp1 : w10.cell? ⟨gp, 1, none⟩ = some (.int .i64 p.f1) := (blk_cell BP10.out 1).trans rfl
    have HM10 := Aside0.mk (HM.out.below HB10.out)
    go_upto_region 11 with (first | ((with_reducible refine gate_ (op := .mapUpdate 77 (.tmp 38) (.tmp 40) (.const (.bool true))) rfl ?_); refine wpList_storeI _ rfl (.tmp 38) (.tmp 40) (.const (.bool true)) 77 rfl 3 4 Try.underlying77 Try.underlying3 gm (mapVB (abvB l1 n)) rfl HM10.out p.f1 rfl (.bool true) rfl ?_; intro w11 hm9 hg9; have HM11 := Aside0.mk (hm9.eq (mapVB_set _ _)); have HG11 := Aside0.mk hg9; clear hm9 hg9))
    have hnt : some gt ≠ some gm := HM10.out.ne_blk (blk_below BT.out HB10.out)
    have BT11 := Aside0.mk (blk_grown (blk_below BT.out HB10.out) HG11.out hnt)
    have BP11 := Aside0.mk (blk_grown BP10.out HG11.out (HM10.out.ne_blk BP10.out))
    have HRB11 := Aside0.mk (R_map (Kd.R_below HRB.out HB10.out) HM10.out HG11.out)
    have HB11 := Aside0.mk (grown_below (below_step HB.out HB10.out) HG11.out (fun k e => by cases e; exact GM.out))
    have ei : i.toNat = n := by have := HI2.out; omega
    have ec : ((n : Nat) : Int) = i := by have := HI2.out; omega
    have HN1 := Aside0.mk (show (fun k' => if k' = p.f1 then true else abvB l1 n k') = abvB l1 (n + 1) by rw [HP.out, ← ec]; exact abvB_succ l1 n)
    have HPF := Aside0.mk (show (rd_T63 l1 n).f1 = p.f1 by rw [HP.out, ec])
    have HE2 := Aside0.mk (And.intro ei ec)
    clear hnt ei ec hcp1
    have hcp1 : w11.cell? ⟨gp, 1, none⟩ = some (.int .i64 p.f1) := (blk_cell BP11.out 1).trans rfl
    by_cases hz : p.f1 = 0
    ·have z1 : (p.f1 == 0) = true := beq_iff_eq.2 hz
     have HZ := Aside0.mk hz
     obtain ⟨adb, eb, hy0, hy1⟩ := at_T38 (Kd.R_reads' HRB11.out).2.2 i HI2.out.1 (by have := HI2.out; have := HBL.out; omega)
     subst eb
     obtain ⟨y0, hy0'⟩ : ∃ y0, y0 = (rd_T38 bs i).f0 := ⟨_, rfl⟩
     obtain ⟨y1, hy1'⟩ : ∃ y1, y1 = (rd_T38 bs i).f1 := ⟨_, rfl⟩
     rw [← hy0'] at hy0
     rw [← hy1'] at hy1
     have HY := Aside0.mk (And.intro hy0' hy1')
     have hct0 : w11.cell? ⟨gt, 0, none⟩ = some (.int .i64 t.f0) := (blk_cell BT11.out 0).trans rfl
     have hct1 : w11.cell? ⟨gt, 1, none⟩ = some (.int .i64 t.f1) := (blk_cell BT11.out 1).trans rfl
     have hft0 := blk_frozen BT11.out 0
     have hft1 := blk_frozen BT11.out 1
     clear hz hy0' hy1'
     go_wp2
     go_roundg (gk - 1)
     case measure => have := HK.out; have := HI2.out; omega
     case rel =>
      refine ⟨n + 1, _, ⟨y0, y1⟩, rfl, ?_, ⟨by have := HK.out; have := HI2.out; omega⟩, ⟨?_⟩, ⟨?_⟩, ⟨?_⟩, ⟨blk_put2 BT11.out _ _⟩, ⟨R_farT (R_farT HRB11.out NTB.out 0 _) NTB.out 1 _⟩, ⟨below_put2 HB11.out GT.out _ _⟩⟩
      ·have := HI2.out
       first | (rw [show ((n + 1 : Nat) : Int) = i + 1 from by omega]; done) | (simp; omega)
      ·unfold rootsN
       rw [foldl_range_succ, HPF.out, if_pos HZ.out]
       show _ = wrap64 (rootsN l1 n + 1)
       rw [← HQ.out]
      ·unfold totN
       rw [foldl_range_succ, HPF.out, if_pos HZ.out, HE2.out.2, HY.out.1, HY.out.2]
      ·rw [← HN1.out]
       exact (HM11.out.move (Below.heap_setCell _ _ _ _ (fun e => HM11.out.ne_blk BT11.out (by rw [e])))).move (Below.heap_setCell _ _ _ _ (fun e => HM11.out.ne_blk BT11.out (by rw [e])))
    ·have z1 : (p.f1 == 0) = false := beq_eq_false_iff_ne.2 hz
     have HZ := Aside0.mk hz
     clear hz
     go_wp2
     go_roundg (gk - 1)
     case measure => have := HK.out; have := HI2.out; omega
     case rel =>
      refine ⟨n + 1, _, t, rfl, ?_, ⟨by have := HK.out; have := HI2.out; omega⟩, ⟨?_⟩, ⟨?_⟩, ⟨?_⟩, BT11, HRB11, HB11⟩
      ·have := HI2.out
       first | (rw [show ((n + 1 : Nat) : Int) = i + 1 from by omega]; done) | (simp; omega)
      ·unfold rootsN
       rw [foldl_range_succ, HPF.out, if_neg HZ.out]
       exact HQ.out
      ·unfold totN
       rw [foldl_range_succ, HPF.out, if_neg HZ.out]
       exact HT.out
      ·rw [← HN1.out]
       exact HM11.out
   ·have d7 : decide ((n : Int) < (l1.length : Int)) = false := decide_eq_false (by omega)
    have d7' : decide (n < l1.length) = false := decide_eq_false hlt
    have hnl : n = l1.length := by have := HK.out; omega
    rw [hnl] at HQ HT HM
    clear hlt hnl
    go_wp2
    have HPT0 := Aside0.mk (show Kd.R k38 38 wr w.heap.size (fun k_ => some k_ ≠ (Value.slice Ab l1.length cb).ownBlock ∧ k_ ≠ gt) (.slice none 0 0) ([] : List S38) from Kd.R_nil _ _ _ _ _)
    go_loopg [18, 53] l1.length (fun kq v18 v53 wr => ∃ (n : Nat) (ps : List S38), v53 = .int .i64 n ∧ Aside0 (kq + n = l1.length) ∧ Aside0 (ps = partsN l1 bs n) ∧ Aside0 (Kd.R k38 38 wr w.heap.size (fun k_ => some k_ ≠ (Value.slice Ab l1.length cb).ownBlock ∧ k_ ≠ gt) v18 ps) ∧ Aside0 (MapI wr gm (mapVB (abvB l1 l1.length))) ∧ Aside0 (wr.heap[gt]? = some (.cells #[.int .i64 t.f0, .int .i64 t.f1] 38 (0, 0)))
     ∧ Aside0 (Kd.R k38 38 wr w.heap.size (fun _ => True) (.slice Ab l1.length cb) bs) ∧ Aside0 (Below w.heap.size w wr))
    case atStart => exact ⟨0, _, rfl, ⟨by omega⟩, ⟨rfl⟩, HPT0, HM, BT, HRB, HB⟩
    case round =>
     clear HPT0 HM BT HRB HB
     obtain ⟨n, ps, rfl, HK, HPS, HRP, HM, BT, HRB, HB⟩ := hrel
     by_cases hlt : n < l1.length
     ·obtain ⟨i, hi⟩ : ∃ i : Int, i = (n : Int) := ⟨_, rfl⟩
      rw [← hi]
      have HI2 := Aside0.mk (show 0 ≤ i ∧ i < l1.length ∧ i = (n : Int) from ⟨by omega, by omega, hi⟩)
      have d7 : decide (i < (l1.length : Int)) = true := decide_eq_true HI2.out.2.1
      have ci2 : (0 ≤ i) = True := eq_true HI2.out.1
      have ci3 : (i < l1.length) = True := eq_true HI2.out.2.1
      obtain ⟨adp, ep, hx0, hx1, hx2⟩ := at_T63 (Kd.C_below HR1.out HB.out) i HI2.out.1 HI2.out.2.1
      subst ep
      obtain ⟨p, hp⟩ : ∃ p, p = rd_T63 l1 i := ⟨_, rfl⟩
      rw [← hp] at hx0 hx1 hx2
      have HP := Aside0.mk hp
      have hz1 : i + 1 ≤ 9223372036854775807 := by have := HI2.out; have := H200.out; omega
      have hz2 : -9223372036854775808 ≤ i + 1 := by have := HI2.out; omega
      clear hi hlt hp
      have HB0 := Aside0.mk (Below.refl wr.heap.size wr)
      go_upto_region 19 with (first | ((with_reducible refine gate_dst (N := 20) rfl ?_); refine box_event ?hg (N := 20) ?hd (cs := #[.int .i64 0, .int .i64 0, .int .i64 0]) (t := 63) ?hr ?_; (case hd => rfl); (case hg => rfl); (case hr => first | (go_simp; done) | (go_simp; rfl)); intro gp hg_P w9 hbox_ hb_; have n0_ := Aside0.mk (below_step HB0.out hb_); have BP := Aside0.mk hbox_; have GP := Aside0.mk (show wr.heap.size ≤ gp by rw [hg_P]; exact below_size HB0.out); have EP := Aside0.mk hg_P; have hcp0 : w9.cell? ⟨gp, 0, none⟩ = some (.int .i64 0) := (blk_cell hbox_ 0).trans rfl; have hfp0 := blk_frozen hbox_ 0; have hcp1 : w9.cell? ⟨gp, 1, none⟩ = some (.int .i64 0) := (blk_cell hbox_ 1).trans rfl; have hfp1 := blk_frozen hbox_ 1; have hcp2 : w9.cell? ⟨gp, 2, none⟩ = some (.int .i64 0) := (blk_cell hbox_ 2).trans rfl; have hfp2 := blk_frozen hbox_ 2; clear HB0 hg_P hbox_ hb_; have HB0 := n0_; clear n0_))
      obtain ⟨w10, hw10⟩ : ∃ w10, w10 = ((w9.setCell ⟨gp, 0, none⟩ (.int .i64 p.f0)).setCell ⟨gp, 1, none⟩ (.int .i64 p.f1)).setCell ⟨gp, 2, none⟩ (.int .i64 p.f2) := ⟨_, rfl⟩
      rw [← hw10]
      have BP10 := Aside0.mk (show w10.heap[gp]? = some (.cells #[.int .i64 p.f0, .int .i64 p.f1, .int .i64 p.f2] 63 (0, 0)) by rw [hw10]; exact blk_put3 BP.out _ _ _)
      have HB10 := Aside0.mk (show Below wr.heap.size wr w10 by rw [hw10]; exact below_put3 HB0.out GP.out _ _ _)
      clear hw10 BP HB0 hcp0 hcp1 hcp2 hfp0 hfp1 hfp2 hx0 hx1 hx2
      have hcp0 : w10.cell? ⟨gp, 0, none⟩ = some (.int .i64 p.f0) := (blk_cell BP10.out 0).trans rfl
      have HM10 := Aside0.mk (HM.out.below HB10.out)
      have BT10 := Aside0.mk (blk_below BT.out HB10.out)
      have HRB10 := Aside0.mk (Kd.R_below HRB.out HB10.out)
      have HRP10 := Aside0.mk (Kd.R_below HRP.out HB10.out)
      have HBB10 := Aside0.mk (below_step HB.out HB10.out)
      have ei : i.toNat = n := by have := HI2.out; omega
      have ec : ((n : Nat) : Int) = i := by have := HI2.out; omega
      have HPF := Aside0.mk (show (rd_T63 l1 n).f0 = p.f0 by rw [HP.out, ec])
      have HE2 := Aside0.mk (And.intro ei ec)
      clear ei ec
      cases hab : abvB l1 l1.length p.f0 with
      | true =>
       have HAB := Aside0.mk hab
       clear hab
       go_wp2_with (first | ((with_reducible refine gate_ (op := .lookup 77 (.tmp 58) (.tmp 60) false) rfl ?_); refine wpList_lookI _ rfl (.tmp 58) (.tmp 60) 77 false rfl 3 4 Try.underlying77 Try.underlying3 (Try.zeroValue4 _) gm (mapVB (abvB l1 l1.length)) rfl HM10.out p.f0 rfl ?_; rw [if_neg (by decide), mapVB_get, HAB.out]))
       go_roundg (gk - 1)
       case measure => have := HK.out; have := HI2.out; omega
       case rel =>
        refine ⟨n + 1, ps, ?_, ⟨by have := HK.out; have := HI2.out; omega⟩, ⟨?_⟩, HRP10, HM10, BT10, HRB10, HBB10⟩
        ·have := HI2.out
         first | (rw [show ((n + 1 : Nat) : Int) = i + 1 from by omega]; done) | (simp; omega)
        ·unfold partsN
         rw [foldl_range_succ, HPF.out, if_pos HAB.out]
         exact HPS.out
      | false =>
       have HAB := Aside0.mk hab
       clear hab
       obtain ⟨adb, eb, hy0, hy1⟩ := at_T38 (Kd.R_reads' HRB10.out).2.2 i HI2.out.1 (by have := HI2.out; have := HBL.out; omega)
       subst eb
       obtain ⟨y0, hy0'⟩ : ∃ y0, y0 = (rd_T38 bs i).f0 := ⟨_, rfl⟩
       obtain ⟨y1, hy1'⟩ : ∃ y1, y1 = (rd_T38 bs i).f1 := ⟨_, rfl⟩
       rw [← hy0'] at hy0
       rw [← hy1'] at hy1
       have HY := Aside0.mk (And.intro hy0' hy1')
       have HPL := Aside0.mk (show ps.length ≤ 200 by have h1 := partsN_len l1 bs n; rw [HPS.out]; have := HI2.out; have := H200.out; omega)
       clear hy0' hy1'
       go_wp2_with (first | ((with_reducible refine gate_ (op := .lookup 77 (.tmp 58) (.tmp 60) false) rfl ?_); refine wpList_lookI _ rfl (.tmp 58) (.tmp 60) 77 false rfl 3 4 Try.underlying77 Try.underlying3 (Try.zeroValue4 _) gm (mapVB (abvB l1 l1.length)) rfl HM10.out p.f0 rfl ?_; rw [if_neg (by decide), mapVB_get, HAB.out]) | ((with_reducible refine gate_builtin (b := .append) (xs := #[.tmp 63, .tmp 68]) rfl ?_); at_builtin; refine Kd.R_append k38 (w0 := w) w.heap.size rfl (.tmp 63) (.tmp 68) 23 38 (.agg #[(.int .i64 0), (.int .i64 0)]) 16 rfl Try.underlying23 info38 rfl (by decide) (by omega) _ ps (⟨y0, y1⟩ : S38) [.int .i64 y0, .int .i64 y1] (fun k_ => some k_ ≠ (Value.slice (some adb) l1.length cb).ownBlock ∧ k_ ≠ gt) (fun _ => False) rfl rfl (k38_mkM _ _ _ (⟨y0, y1⟩ : S38)) (fun _ hk => hk.elim) (fun k_ hk_ => ⟨fun e_ => by have := Kd.R_lt HRB10.out k_ e_.symm; omega, fun e_ => by have := blk_lt BT10.out; omega⟩) HRP10.out HBB10.out (below_size HBB10.out) (by have := HPL.out; omega) ?_; intro v9 w12 ho_ hb_ hg_ hat_; have HRP12 := Aside0.mk ho_; have HRB12 := Aside0.mk (Kd.R_grown2 HRB10.out rfl hg_ (fun k_ hk_ => (HRP10.out.1 k_ hk_).1)); have BT12 := Aside0.mk (blk_grown BT10.out hg_ (fun e_ => (HRP10.out.1 gt e_.symm).2 rfl)); have HM12 := Aside0.mk (HM10.out.kept hg_ (HM10.out.ne_row HRP10.out)); have HBB12 := Aside0.mk hb_; clear ho_ hb_ hg_ hat_))
       go_roundg (gk - 1)
       case measure => have := HK.out; have := HI2.out; omega
       case rel =>
        refine ⟨n + 1, _, ?_, ⟨by have := HK.out; have := HI2.out; omega⟩, ⟨?_⟩, HRP12, HM12, BT12, HRB12, HBB12⟩
        ·have := HI2.out
         first | (rw [show ((n + 1 : Nat) : Int) = i + 1 from by omega]; done) | (simp; omega)
        ·unfold partsN
         rw [foldl_range_succ, HPF.out, if_neg (by rw [HAB.out]; decide), HE2.out.2, HY.out.1, HY.out.2]
         show _ = partsN l1 bs n ++ _
         rw [← HPS.out]
     ·have d7 : decide ((n : Int) < (l1.length : Int)) = false := decide_eq_false (by omega)
      have d7' : decide (n < l1.length) = false := decide_eq_false hlt
      have hnl : n = l1.length := by have := HK.out; omega
      rw [hnl] at HPS
      clear hlt hnl
      obtain ⟨Ap, cp, ep⟩ := Kd.R_slice HRP.out
      subst ep
      have hct0 : wr.cell? ⟨gt, 0, none⟩ = some (.int .i64 t.f0) := (blk_cell BT.out 0).trans rfl
      have hct1 : wr.cell? ⟨gt, 1, none⟩ = some (.int .i64 t.f1) := (blk_cell BT.out 1).trans rfl
      have HH2 := HH.out
      rw [← HQ.out, ← HT.out, ← HPS.out] at HH2
      by_cases b1 : a0 < 0
      ·rw [if_pos (.inl b1)] at HH2
       cases HH2
       have e1 : decide (a0 < 0) = true := decide_eq_true b1
       clear b1
       go_wp2
       go_ret3
       exact ⟨_, rfl, Kd.R_nil _ _ _ _ _, HB.out⟩
      have e1 : decide (a0 < 0) = false := decide_eq_false b1
      by_cases b2 : 1000000000 < a0
      ·rw [if_pos (.inr (.inl b2))] at HH2
       cases HH2
       have e2 : decide (1000000000 < a0) = true := decide_eq_true b2
       clear b1 b2
       go_wp2
       go_ret3
       exact ⟨_, rfl, Kd.R_nil _ _ _ _ _, HB.out⟩
      have e2 : decide (1000000000 < a0) = false := decide_eq_false b2
      by_cases b3 : q = 1
      case neg =>
       rw [if_pos (.inr (.inr (.inl b3)))] at HH2
       cases HH2
       have e3 : (q == 1) = false := beq_eq_false_iff_ne.2 b3
       have e3' : (q != 1) = true := bne_iff_ne.2 b3
       clear b1 b2 b3
       go_wp2
       go_ret3
       exact ⟨_, rfl, Kd.R_nil _ _ _ _ _, HB.out⟩
      have e3 : (q == 1) = true := beq_iff_eq.2 b3
      have e3' : (q != 1) = false := by rw [bne_eq_false_iff_eq]; exact b3
      by_cases b4 : l3.length = ps.length
      case neg =>
       rw [if_pos (.inr (.inr (.inr (.inl b4))))] at HH2
       cases HH2
       have e4 : ((l3.length : Int) == (ps.length : Int)) = false := beq_eq_false_iff_ne.2 (by omega)
       have e4' : ((l3.length : Int) != (ps.length : Int)) = true := by rw [bne_iff_ne]; omega
       clear b1 b2 b3 b4
       go_wp2
       go_ret3
       exact ⟨_, rfl, Kd.R_nil _ _ _ _ _, HB.out⟩
      have e4 : ((l3.length : Int) == (ps.length : Int)) = true := beq_iff_eq.2 (by omega)
      have e4' : ((l3.length : Int) != (ps.length : Int)) = false := by rw [bne_eq_false_iff_eq]; omega
      have HN3 := Aside0.mk (show l3.length ≤ 140737488355328 by have h1 := partsN_len l1 bs l1.length; rw [← HPS.out] at h1; have := H200.out; omega)
      cases hh : homesB 0 l3 with
      | false =>
       rw [if_pos (.inr (.inr (.inr (.inr hh))))] at HH2
       cases HH2
       have HHO := Aside0.mk hh
       clear b1 b2 b3 b4 hh
       go_wp2_with (first | (go_at_call 35; (with_reducible refine (homes_any A3 c3 l3 _ _ (Kd.C_below HR3.out HB.out) HC3.out HN3.out HHO.out).mono ?_); rintro e w13 ⟨rfl, hdr⟩; have hb_ := hdr.below; have n0_ := Aside0.mk (below_step HB.out hb_); have HRP := Aside0.mk (Kd.R_below HRP.out hb_); replace hct0 := (hb_.cell (World.block_lt_of_cell? _ _ hct0)).trans hct0; replace hct1 := (hb_.cell (World.block_lt_of_cell? _ _ hct1)).trans hct1; clear HB hb_ hdr; have HB := n0_; clear n0_))
       go_ret3
       exact ⟨_, rfl, Kd.R_nil _ _ _ _ _, HB.out⟩
      | true =>
      rw [if_neg (by rw [hh]; rintro (h_ | h_ | h_ | h_ | h_) <;> first | exact absurd h_ (by assumption) | exact h_ b3 | exact h_ b4 | cases h_)] at HH2
      have HHO := Aside0.mk hh
      clear b1 b2 b3 b4 hh
      by_cases b5 : t.f0 = t.f1
      case neg =>
       rw [if_pos (.inl b5)] at HH2
       cases HH2
       have e5 : (t.f0 == t.f1) = false := beq_eq_false_iff_ne.2 b5
       have e5' : (t.f0 != t.f1) = true := bne_iff_ne.2 b5
       clear b5
       go_wp2_with (first | (go_at_call 35; (with_reducible refine (homes_any A3 c3 l3 _ _ (Kd.C_below HR3.out HB.out) HC3.out HN3.out HHO.out).mono ?_); rintro e w13 ⟨rfl, hdr⟩; have hb_ := hdr.below; have n0_ := Aside0.mk (below_step HB.out hb_); have HRP := Aside0.mk (Kd.R_below HRP.out hb_); replace hct0 := (hb_.cell (World.block_lt_of_cell? _ _ hct0)).trans hct0; replace hct1 := (hb_.cell (World.block_lt_of_cell? _ _ hct1)).trans hct1; clear HB hb_ hdr; have HB := n0_; clear n0_))
       go_ret3
       exact ⟨_, rfl, Kd.R_nil _ _ _ _ _, HB.out⟩
      have e5 : (t.f0 == t.f1) = true := beq_iff_eq.2 b5
      have e5' : (t.f0 != t.f1) = false := by rw [bne_eq_false_iff_eq]; exact b5
      by_cases b6 : t.f0 = 0
      ·rw [if_pos (.inr b6)] at HH2
       cases HH2
       have e6 : (t.f0 == 0) = true := beq_iff_eq.2 b6
       clear b5 b6
       go_wp2_with (first | (go_at_call 35; (with_reducible refine (homes_any A3 c3 l3 _ _ (Kd.C_below HR3.out HB.out) HC3.out HN3.out HHO.out).mono ?_); rintro e w13 ⟨rfl, hdr⟩; have hb_ := hdr.below; have n0_ := Aside0.mk (below_step HB.out hb_); have HRP := Aside0.mk (Kd.R_below HRP.out hb_); replace hct0 := (hb_.cell (World.block_lt_of_cell? _ _ hct0)).trans hct0; replace hct1 := (hb_.cell (World.block_lt_of_cell? _ _ hct1)).trans hct1; clear HB hb_ hdr; have HB := n0_; clear n0_))
       go_ret3
       exact ⟨_, rfl, Kd.R_nil _ _ _ _ _, HB.out⟩
      have e6 : (t.f0 == 0) = false := beq_eq_false_iff_ne.2 b6
      rw [if_neg (fun h_ => h_.elim (fun x_ => x_ b5) b6)] at HH2
      have HSH := Aside0.mk (show charges_Share.f a0 t.f0 l3 ps = some (r1, r2, r3) from congrArg some HH2)
      clear b5 b6 HH2
      go_wp2_with (first | (go_at_call 35; (with_reducible refine (homes_any A3 c3 l3 _ _ (Kd.C_below HR3.out HB.out) HC3.out HN3.out HHO.out).mono ?_); rintro e w13 ⟨rfl, hdr⟩; have hb_ := hdr.below; have n0_ := Aside0.mk (below_step HB.out hb_); have HRP := Aside0.mk (Kd.R_below HRP.out hb_); replace hct0 := (hb_.cell (World.block_lt_of_cell? _ _ hct0)).trans hct0; replace hct1 := (hb_.cell (World.block_lt_of_cell? _ _ hct1)).trans hct1; clear HB hb_ hdr; have HB := n0_; clear n0_) | (go_at_call 16; (with_reducible refine (charges_Share.calls a0 t.f0 A3 c3 l3 Ap cp ps _ _ _ _ (Kd.C_below HR3.out HB.out) HC3.out (Kd.R_reads' HRP.out).2.2 (Kd.R_reads' HRP.out).2.1 HSH.out).mono ?_); rintro e w14 ⟨v14, rfl, hR_, hb_⟩; have n0_ := Aside0.mk (below_step HB.out hb_); have HRS := Aside0.mk (Kd.R_lower hR_ (below_size HB.out)); clear HB hb_ hR_; have HB := n0_; clear n0_))
      go_ret3
      exact ⟨_, rfl, HRS.out, HB.out⟩
end
section
def cohousingref02_Amount.f (a0 : Int) : Option (Bool) := if a0 ≥ (-1000000000) then (some (decide (a0 ≤ 1000000000))) else (some false)
theorem cohousingref02_Amount.calls (a0 : Int) (r : Bool) (w : World) (h : cohousingref02_Amount.f a0 = some r) :
  Calls Try.prog 63 #[.int .i64 a0] w fun e w' => e = .returned (.bool r) ∧ Drawn0 w w' := by
 have H : (if a0 ≥ (-1000000000) then (some (decide (a0 ≤ 1000000000))) else (some false)) = some r := h
 clear h
 by_cases c2 : a0 ≥ (-1000000000)
 ·rw [if_pos c2] at H
  have c2b0 : decide ((-1000000000) ≤ a0) = true := decide_eq_true c2
  clear c2
  obtain rfl := Option.some.inj H
  go_enter Try.func63, Try.ntmps63
  go_wp2
  go_ret
  exact ⟨by first | rfl | (simp; done) | (simp [*]; done), by repeat (first | exact Drawn0.refl _ | apply Drawn0.step)⟩
 ·rw [if_neg c2] at H
  have c2b0 : decide ((-1000000000) ≤ a0) = false := decide_eq_false c2
  clear c2
  obtain rfl := Option.some.inj H
  go_enter Try.func63, Try.ntmps63
  go_wp2
  go_ret
  exact ⟨by first | rfl | (simp; done) | (simp [*]; done), by repeat (first | exact Drawn0.refl _ | apply Drawn0.step)⟩
end
section
theorem eqA94 (d : Nat) (w : World) (x0 y0 : Int) (x1 y1 : Int) :
  (Op.equalIn (d + 2) 94 (.agg #[.int .i64 x0, .int .i64 x1]) (.agg #[.int .i64 y0, .int .i64 y1])).run Try.prog w = .ok (x0 == y0 && (x1 == y1)) w := by
 refine eqA_of Try.underlying94 (by kernel_rfl) ?_
 refine eqf_cons (by rfl) (by go_simp; rfl) (by go_simp; rfl) (by go_simp) ?_
 exact eqf_last (by rfl) (by go_simp; rfl) (by go_simp; rfl) (by go_simp)
end
section
def cohousingref01_common.l0 : Nat → Int → Int → Option (Int)
 | 0, _, _ => none
 | k + 1, x0, x1 => if x1 = 0 then (some x0) else (cohousingref01_common.l0 k x1 (Int.tmod x0 x1))
def cohousingref01_common.f (k : Nat) (a0 : Int) (a1 : Int) : Option (Int) := cohousingref01_common.l0 k a0 a1
theorem cohousingref01_common.calls (k : Nat) (a0 : Int) (a1 : Int) (r : Int) (w : World) (h : cohousingref01_common.f k a0 a1 = some r) :
  Calls Try.prog 92 #[.int .u64 a0, .int .u64 a1] w fun e w' => e = .returned (.int .u64 r) ∧ Drawn0 w w' := by
 have H : (cohousingref01_common.l0 k a0 a1) = some r := h
 clear h
 have H' := Aside0.mk H
 clear H
 go_enter Try.func92, Try.ntmps92
 go_wp2
 go_loopg [0, 1] k (fun kq v0 v1 w' => ∃ (x0_1 : Int) (x1_1 : Int), v0 = .int .u64 x0_1 ∧ v1 = .int .u64 x1_1 ∧ Aside0 (cohousingref01_common.l0 kq x0_1 x1_1 = some r) ∧ Aside0 (kq ≤ k) ∧ Drawn0 w w')
 case atStart => exact ⟨(a0), (a1), sd_, sd_, H', ⟨Nat.le_refl _⟩, by repeat (first | exact Drawn0.refl _ | apply Drawn0.step)⟩
 case round =>
  clear H'
  try clear p2
  obtain ⟨x0_1, x1_1, rfl, rfl, HA, HK1, ⟨m1, rfl⟩⟩ := hrel
  cases gk with
  | zero => exact absurd HA.out (by simp [cohousingref01_common.l0])
  | succ k1 =>
   have H := HA.out
   clear HA
   simp only [cohousingref01_common.l0] at H
   by_cases c3 : x1_1 = 0
   ·rw [if_pos c3] at H
    have c3b0 : (x1_1 == 0) = true := beq_iff_eq.mpr c3
    have c3b1 : (x1_1 != 0) = false := bne_eq_false_iff_eq.mpr c3
    clear c3
    obtain rfl := Option.some.inj H
    go_wp2
    go_ret
    exact ⟨by first | rfl | (simp; done) | (simp [*]; done), by repeat (first | exact Drawn0.refl _ | apply Drawn0.step)⟩
   ·rw [if_neg c3] at H
    have c3b0 : (x1_1 == 0) = false := beq_eq_false_iff_ne.mpr c3
    have c3b1 : (x1_1 != 0) = true := bne_iff_ne.mpr c3
    have H' := Aside0.mk H
    clear H
    go_wp2
    go_roundg k1
    case measure => have := HK1.out; omega
    case rel => exact ⟨(x1_1), (Int.tmod x0_1 x1_1), sd_, sd_, H', ⟨by have := HK1.out; omega⟩, by repeat (first | exact Drawn0.refl _ | apply Drawn0.step)⟩
end
section
def cohousingref01_size.f (a0 : Int) : Option (Int) := if a0 < 0 then (some (IntKind.u64.wrap ((IntKind.u64.wrap (wrap64 (-(wrap64 (a0 + 1))))) + 1))) else (some (IntKind.u64.wrap (a0)))
theorem cohousingref01_size.calls (a0 : Int) (r : Int) (w : World) (h : cohousingref01_size.f a0 = some r) :
  Calls Try.prog 93 #[.int .i64 a0] w fun e w' => e = .returned (.int .u64 r) ∧ Drawn0 w w' := by
 have H : (if a0 < 0 then (some (IntKind.u64.wrap ((IntKind.u64.wrap (wrap64 (-(wrap64 (a0 + 1))))) + 1))) else (some (IntKind.u64.wrap (a0)))) = some r := h
 clear h
 by_cases c2 : a0 < 0
 ·rw [if_pos c2] at H
  have c2b0 : decide (a0 < 0) = true := decide_eq_true c2
  clear c2
  obtain rfl := Option.some.inj H
  go_enter Try.func93, Try.ntmps93
  go_wp2
  go_ret
  exact ⟨by first | rfl | (simp; done) | (simp [*]; done), by repeat (first | exact Drawn0.refl _ | apply Drawn0.step)⟩
 ·rw [if_neg c2] at H
  have c2b0 : decide (a0 < 0) = false := decide_eq_false c2
  clear c2
  obtain rfl := Option.some.inj H
  go_enter Try.func93, Try.ntmps93
  go_wp2
  go_ret
  exact ⟨by first | rfl | (simp; done) | (simp [*]; done), by repeat (first | exact Drawn0.refl _ | apply Drawn0.step)⟩
end
section
def cohousingref01_Make.j0 : Nat → Int → Int → Int → Int → Bool → Option (Int × Int × Int)
 | 0, _, _, _, _, _ => none
 | k + 1, x0, x1, x7, x8, x30 => if x30 = true then (some (0, 0, 3)) else (if ((decide (x0 < 0)) != (decide (x1 < 0))) = true then (some (wrap64 (-(wrap64 (x7))), wrap64 (x8), 0)) else (some (wrap64 (x7), wrap64 (x8), 0)))
def cohousingref01_Make.f (k : Nat) (a0 : Int) (a1 : Int) : Option (Int × Int × Int) := if a1 = 0 then (some (0, 0, 7)) else ((cohousingref01_size.f a0).bind fun t195 => ((cohousingref01_size.f a1).bind fun t196 => ((cohousingref01_common.f k t195 t196).bind fun t197 => ((cohousingref01_size.f a0).bind fun t198 => (if t197 = 0 then (none) else ((cohousingref01_size.f a1).bind fun t199 => (if (IntKind.u64.wrap (Int.tdiv t198 t197)) > 1000000000 then (cohousingref01_Make.j0 k a0 a1 (IntKind.u64.wrap (Int.tdiv t198 t197)) (IntKind.u64.wrap (Int.tdiv t199 t197)) true) else (cohousingref01_Make.j0 k a0 a1 (IntKind.u64.wrap (Int.tdiv t198 t197)) (IntKind.u64.wrap (Int.tdiv t199 t197)) (decide ((IntKind.u64.wrap (Int.tdiv t199 t197)) > 1000000000))))))))))
theorem cohousingref01_Make.calls (k : Nat) (a0 : Int) (a1 : Int) (r1 : Int) (r2 : Int) (r3 : Int) (w : World) (h : cohousingref01_Make.f k a0 a1 = some (r1, r2, r3)) :
  Calls Try.prog 79 #[.int .i64 a0, .int .i64 a1] w fun e w' => e = .returned (.tuple #[.agg #[.int .i64 r1, .int .i64 r2], .int .i64 r3]) ∧ Below w.heap.size w w' := by
 have hu94 := Try.underlying94
 have HB := Aside0.mk (Below.refl w.heap.size w)
 have H : (if a1 = 0 then (some (0, 0, 7)) else ((cohousingref01_size.f a0).bind fun t195 => ((cohousingref01_size.f a1).bind fun t196 => ((cohousingref01_common.f k t195 t196).bind fun t197 => ((cohousingref01_size.f a0).bind fun t198 => (if t197 = 0 then (none) else ((cohousingref01_size.f a1).bind fun t199 => (if (IntKind.u64.wrap (Int.tdiv t198 t197)) > 1000000000 then (cohousingref01_Make.j0 k a0 a1 (IntKind.u64.wrap (Int.tdiv t198 t197)) (IntKind.u64.wrap (Int.tdiv t199 t197)) true) else (cohousingref01_Make.j0 k a0 a1 (IntKind.u64.wrap (Int.tdiv t198 t197)) (IntKind.u64.wrap (Int.tdiv t199 t197)) (decide ((IntKind.u64.wrap (Int.tdiv t199 t197)) > 1000000000))))))))))) = some (r1, r2, r3) := h
 clear h
 by_cases c3 : a1 = 0
 ·rw [if_pos c3] at H
  have c3b0 : (a1 == 0) = true := beq_iff_eq.mpr c3
  have c3b1 : (a1 != 0) = false := bne_eq_false_iff_eq.mpr c3
  clear c3
  simp only [Option.some.injEq, Prod.mk.injEq] at H
  obtain ⟨rfl, rfl, rfl⟩ := H
  go_enter Try.func79, Try.ntmps79
  go_wp2_with (first | ((with_reducible refine gate_dst (N := 4) rfl ?_); refine box_event ?hg (N := 4) ?hd (cs := #[.int .i64 0, .int .i64 0]) (t := 94) ?hr ?_; (case hd => rfl); (case hg => rfl); (case hr => first | (go_simp; done) | (go_simp; rfl)); intro gb194 hg w4 hbox hb; have n0_ := Aside0.mk (below_step (bb_ HB) hb); have n1_ := Aside0.mk (hbox); have n2_ := Aside0.mk ((by rw [hg]; exact (below_size (bb_ HB)) : w.heap.size ≤ gb194)); have n3_ := Aside0.mk ((by rw [hg]; exact (below_size (bb_ HB)) : w.heap.size ≤ gb194)); clear HB; have HB := n0_; have BK194 := n1_; have GW194 := n2_; have GE194 := n3_; clear n0_ n1_ n2_ n3_; clear hb hbox hg; have hcz5_0 : w4.cell? ⟨gb194, 0, none⟩ = some (.int .i64 0) := (blk_cell BK194.out 0).trans rfl; have hcz5_1 : w4.cell? ⟨gb194, 1, none⟩ = some (.int .i64 0) := (blk_cell BK194.out 1).trans rfl; have hfz5_0 := blk_frozen BK194.out 0; have hfz5_1 := blk_frozen BK194.out 1))
  refine bodyPost_ret (results_ct rfl _ _ gb194 94 #[.int .i64 0, .int .i64 0] (0, 0) _ rfl (by (with_reducible repeat (first | refine blk_drewN ?_ _ | refine blk_drew ?_ | refine blk_alloc ?_ _)); refine blk_put (cs := #[.int .i64 0, .int .i64 0]) ?_ 1 _ rfl; (with_reducible repeat (first | refine blk_drewN ?_ _ | refine blk_drew ?_ | refine blk_alloc ?_ _)); refine blk_put (cs := #[.int .i64 0, .int .i64 0]) ?_ 0 _ rfl; (with_reducible repeat (first | refine blk_drewN ?_ _ | refine blk_drew ?_ | refine blk_alloc ?_ _)); exact BK194.out) Try.underlying94 rfl (by kernel_rfl)) rfl ?_
  exact ⟨ew_, by repeat (first | (with_reducible first | exact HB.out | apply below_alloc | apply pw_below_drewN | apply below_drew1 | refine below_set ?_ GE194.out) | exact HB.out)⟩
 ·rw [if_neg c3] at H
  have c3b0 : (a1 == 0) = false := beq_eq_false_iff_ne.mpr c3
  have c3b1 : (a1 != 0) = true := bne_iff_ne.mpr c3
  replace H := Option.bind_eq_some_iff.mp H
  obtain ⟨t195, A60, H⟩ := H
  replace H : ((cohousingref01_size.f a1).bind fun t196 => ((cohousingref01_common.f k t195 t196).bind fun t197 => ((cohousingref01_size.f a0).bind fun t198 => (if t197 = 0 then (none) else ((cohousingref01_size.f a1).bind fun t199 => (if (IntKind.u64.wrap (Int.tdiv t198 t197)) > 1000000000 then (cohousingref01_Make.j0 k a0 a1 (IntKind.u64.wrap (Int.tdiv t198 t197)) (IntKind.u64.wrap (Int.tdiv t199 t197)) true) else (cohousingref01_Make.j0 k a0 a1 (IntKind.u64.wrap (Int.tdiv t198 t197)) (IntKind.u64.wrap (Int.tdiv t199 t197)) (decide ((IntKind.u64.wrap (Int.tdiv t199 t197)) > 1000000000))))))))) = some (r1, r2, r3) := H
  have A6 := Aside0.mk A60
  clear A60
  replace H := Option.bind_eq_some_iff.mp H
  obtain ⟨t196, A70, H⟩ := H
  replace H : ((cohousingref01_common.f k t195 t196).bind fun t197 => ((cohousingref01_size.f a0).bind fun t198 => (if t197 = 0 then (none) else ((cohousingref01_size.f a1).bind fun t199 => (if (IntKind.u64.wrap (Int.tdiv t198 t197)) > 1000000000 then (cohousingref01_Make.j0 k a0 a1 (IntKind.u64.wrap (Int.tdiv t198 t197)) (IntKind.u64.wrap (Int.tdiv t199 t197)) true) else (cohousingref01_Make.j0 k a0 a1 (IntKind.u64.wrap (Int.tdiv t198 t197)) (IntKind.u64.wrap (Int.tdiv t199 t197)) (decide ((IntKind.u64.wrap (Int.tdiv t199 t197)) > 1000000000)))))))) = some (r1, r2, r3) := H
  have A7 := Aside0.mk A70
  clear A70
  replace H := Option.bind_eq_some_iff.mp H
  obtain ⟨t197, A80, H⟩ := H
  replace H : ((cohousingref01_size.f a0).bind fun t198 => (if t197 = 0 then (none) else ((cohousingref01_size.f a1).bind fun t199 => (if (IntKind.u64.wrap (Int.tdiv t198 t197)) > 1000000000 then (cohousingref01_Make.j0 k a0 a1 (IntKind.u64.wrap (Int.tdiv t198 t197)) (IntKind.u64.wrap (Int.tdiv t199 t197)) true) else (cohousingref01_Make.j0 k a0 a1 (IntKind.u64.wrap (Int.tdiv t198 t197)) (IntKind.u64.wrap (Int.tdiv t199 t197)) (decide ((IntKind.u64.wrap (Int.tdiv t199 t197)) > 1000000000))))))) = some (r1, r2, r3) := H
  have A8 := Aside0.mk A80
  clear A80
  replace H := Option.bind_eq_some_iff.mp H
  obtain ⟨t198, A90, H⟩ := H
  replace H : (if t197 = 0 then (none) else ((cohousingref01_size.f a1).bind fun t199 => (if (IntKind.u64.wrap (Int.tdiv t198 t197)) > 1000000000 then (cohousingref01_Make.j0 k a0 a1 (IntKind.u64.wrap (Int.tdiv t198 t197)) (IntKind.u64.wrap (Int.tdiv t199 t197)) true) else (cohousingref01_Make.j0 k a0 a1 (IntKind.u64.wrap (Int.tdiv t198 t197)) (IntKind.u64.wrap (Int.tdiv t199 t197)) (decide ((IntKind.u64.wrap (Int.tdiv t199 t197)) > 1000000000)))))) = some (r1, r2, r3) := H
  have A9 := Aside0.mk A90
  clear A90
  by_cases c10 : t197 = 0
  ·rw [if_pos c10] at H
   exact absurd H (by simp)
  ·rw [if_neg c10] at H
   have c10b0 : (t197 == 0) = false := beq_eq_false_iff_ne.mpr c10
   have c10b1 : (t197 != 0) = true := bne_iff_ne.mpr c10
   replace H := Option.bind_eq_some_iff.mp H
   obtain ⟨t199, A110, H⟩ := H
   replace H : (if (IntKind.u64.wrap (Int.tdiv t198 t197)) > 1000000000 then (cohousingref01_Make.j0 k a0 a1 (IntKind.u64.wrap (Int.tdiv t198 t197)) (IntKind.u64.wrap (Int.tdiv t199 t197)) true) else (cohousingref01_Make.j0 k a0 a1 (IntKind.u64.wrap (Int.tdiv t198 t197)) (IntKind.u64.wrap (Int.tdiv t199 t197)) (decide ((IntKind.u64.wrap (Int.tdiv t199 t197)) > 1000000000)))) = some (r1, r2, r3) := H
   have A11 := Aside0.mk A110
   clear A110
   have HC12 := Aside0.mk H
   clear H
   go_enter Try.func79, Try.ntmps79
   go_upto_region 6 with (first | ((with_reducible refine gate_dst (N := 4) rfl ?_); refine box_event ?hg (N := 4) ?hd (cs := #[.int .i64 0, .int .i64 0]) (t := 94) ?hr ?_; (case hd => rfl); (case hg => rfl); (case hr => first | (go_simp; done) | (go_simp; rfl)); intro gb194 hg w13 hbox hb; have n0_ := Aside0.mk (below_step (bb_ HB) hb); have n1_ := Aside0.mk (hbox); have n2_ := Aside0.mk ((by rw [hg]; exact (below_size (bb_ HB)) : w.heap.size ≤ gb194)); have n3_ := Aside0.mk ((by rw [hg]; exact (below_size (bb_ HB)) : w.heap.size ≤ gb194)); clear HB; have HB := n0_; have BK194 := n1_; have GW194 := n2_; have GE194 := n3_; clear n0_ n1_ n2_ n3_; clear hb hbox hg) | ((with_reducible refine gate_callee (f := 93) rfl ?_); refine gl_ (some 13) Try.func93 #[.int .i64 a0] ?_; (with_reducible refine (cohousingref01_size.calls a0 t195 _ A6.out).mono ?_); rintro e w' ⟨rfl, ⟨nd, rfl⟩⟩; refine ⟨_, rfl, ?_⟩) | ((with_reducible refine gate_callee (f := 93) rfl ?_); refine gl_ (some 15) Try.func93 #[.int .i64 a1] ?_; (with_reducible refine (cohousingref01_size.calls a1 t196 _ A7.out).mono ?_); rintro e w' ⟨rfl, ⟨nd, rfl⟩⟩; refine ⟨_, rfl, ?_⟩) | ((with_reducible refine gate_callee (f := 92) rfl ?_); refine gl_ (some 16) Try.func92 #[.int .u64 t195, .int .u64 t196] ?_; (with_reducible refine (cohousingref01_common.calls k t195 t196 t197 _ A8.out).mono ?_); rintro e w' ⟨rfl, ⟨nd, rfl⟩⟩; refine ⟨_, rfl, ?_⟩) | ((with_reducible refine gate_callee (f := 93) rfl ?_); refine gl_ (some 18) Try.func93 #[.int .i64 a0] ?_; (with_reducible refine (cohousingref01_size.calls a0 t198 _ A9.out).mono ?_); rintro e w' ⟨rfl, ⟨nd, rfl⟩⟩; refine ⟨_, rfl, ?_⟩) | ((with_reducible refine gate_callee (f := 93) rfl ?_); refine gl_ (some 22) Try.func93 #[.int .i64 a1] ?_; (with_reducible refine (cohousingref01_size.calls a1 t199 _ A11.out).mono ?_); rintro e w' ⟨rfl, ⟨nd, rfl⟩⟩; refine ⟨_, rfl, ?_⟩))
   (try simp only [Act.put, sI_, s0_, sS_])
   go_cut [30] (fun v30 wc => ∃ (kq : Nat) (x30_11 : Bool), v30 = .bool x30_11 ∧ Aside0 (cohousingref01_Make.j0 kq a0 a1 (IntKind.u64.wrap (Int.tdiv t198 t197)) (IntKind.u64.wrap (Int.tdiv t199 t197)) x30_11 = some (r1, r2, r3)) ∧ Aside0 (kq ≤ k) ∧ Aside0 (wc.heap[gb194]? = some (.cells #[.int .i64 0, .int .i64 0] 94 (0, 0))) ∧ Aside0 (Below w.heap.size w wc))
   case first =>
    have H := HC12.out
    clear HC12
    by_cases c14 : (IntKind.u64.wrap (Int.tdiv t198 t197)) > 1000000000
    ·rw [if_pos c14] at H
     have c14b0 : decide (1000000000 < (IntKind.u64.wrap (Int.tdiv t198 t197))) = true := decide_eq_true c14
     clear c14
     (first | rw [c14b0] | (simp only [i64_w, i32_w]; rw [c14b0]) | skip)
     have H' := Aside0.mk H
     clear H
     go_wp2
     go_meet
     case rel => exact ⟨_, (true), sd_, H', ⟨by first | omega | exact Nat.le_refl _⟩, ⟨by (with_reducible repeat (first | refine blk_drewN ?_ _ | refine blk_drew ?_ | refine blk_alloc ?_ _)); exact BK194.out⟩, ⟨by repeat (first | (with_reducible first | exact HB.out | apply below_alloc | apply pw_below_drewN | apply below_drew1 | refine below_set ?_ GE194.out) | exact HB.out)⟩⟩
    ·rw [if_neg c14] at H
     have c14b0 : decide (1000000000 < (IntKind.u64.wrap (Int.tdiv t198 t197))) = false := decide_eq_false c14
     clear c14
     (first | rw [c14b0] | (simp only [i64_w, i32_w]; rw [c14b0]) | skip)
     have H' := Aside0.mk H
     clear H
     go_wp2
     go_meet
     case rel => exact ⟨_, (decide ((IntKind.u64.wrap (Int.tdiv t199 t197)) > 1000000000)), sd_, H', ⟨by first | omega | exact Nat.le_refl _⟩, ⟨by (with_reducible repeat (first | refine blk_drewN ?_ _ | refine blk_drew ?_ | refine blk_alloc ?_ _)); exact BK194.out⟩, ⟨by repeat (first | (with_reducible first | exact HB.out | apply below_alloc | apply pw_below_drewN | apply below_drew1 | refine below_set ?_ GE194.out) | exact HB.out)⟩⟩
   case rest =>
    clear HC12
    try clear c1
    try clear p2
    try clear c3
    try clear c3b0
    try clear c3b1
    try clear c7
    try clear c9
    try clear c10
    try clear c10b0
    try clear c10b1
    try clear c14
    try clear c14b0
    try clear hcz5_0
    try clear hcz5_1
    try clear hfz5_0
    try clear hfz5_1
    obtain ⟨kq, x30_11, rfl, HA, HJ11, BK194, HB⟩ := hcut
    cases kq with
    | zero => exact absurd HA.out (by simp [cohousingref01_Make.j0])
    | succ kj11 =>
     have H := HA.out
     clear HA
     simp only [cohousingref01_Make.j0] at H
     by_cases c15 : x30_11 = true
     ·subst c15
      have H1 : (some (0, 0, 3)) = some (r1, r2, r3) := by rw [if_pos rfl] at H; exact H
      clear H
      have H := H1
      clear H1
      simp only [Option.some.injEq, Prod.mk.injEq] at H
      obtain ⟨rfl, rfl, rfl⟩ := H
      have hcz16_0 : wc.cell? ⟨gb194, 0, none⟩ = some (.int .i64 0) := (blk_cell BK194.out 0).trans rfl
      have hcz16_1 : wc.cell? ⟨gb194, 1, none⟩ = some (.int .i64 0) := (blk_cell BK194.out 1).trans rfl
      have hfz16_0 := blk_frozen BK194.out 0
      have hfz16_1 := blk_frozen BK194.out 1
      go_wp2
      refine bodyPost_ret (results_ct rfl _ _ gb194 94 #[.int .i64 0, .int .i64 0] (0, 0) _ rfl (by (with_reducible repeat (first | refine blk_drewN ?_ _ | refine blk_drew ?_ | refine blk_alloc ?_ _)); refine blk_put (cs := #[.int .i64 0, .int .i64 0]) ?_ 1 _ rfl; (with_reducible repeat (first | refine blk_drewN ?_ _ | refine blk_drew ?_ | refine blk_alloc ?_ _)); refine blk_put (cs := #[.int .i64 0, .int .i64 0]) ?_ 0 _ rfl; (with_reducible repeat (first | refine blk_drewN ?_ _ | refine blk_drew ?_ | refine blk_alloc ?_ _)); exact BK194.out) Try.underlying94 rfl (by kernel_rfl)) rfl ?_
      exact ⟨ew_, by repeat (first | (with_reducible first | exact HB.out | apply below_alloc | apply pw_below_drewN | apply below_drew1 | refine below_set ?_ GE194.out) | exact HB.out)⟩
     ·replace c15 := Bool.eq_false_iff.mpr c15
      subst c15
      have H1 : (if ((decide (a0 < 0)) != (decide (a1 < 0))) = true then (some (wrap64 (-(wrap64 ((IntKind.u64.wrap (Int.tdiv t198 t197))))), wrap64 ((IntKind.u64.wrap (Int.tdiv t199 t197))), 0)) else (some (wrap64 ((IntKind.u64.wrap (Int.tdiv t198 t197))), wrap64 ((IntKind.u64.wrap (Int.tdiv t199 t197))), 0))) = some (r1, r2, r3) := by rw [if_neg (show ¬ (false = true) by decide)] at H; exact H
      clear H
      have H := H1
      clear H1
      by_cases c17 : ((decide (a0 < 0)) != (decide (a1 < 0))) = true
      ·rw [if_pos c17] at H
       have c17b0 : ((decide (a0 < 0)) != (decide (a1 < 0))) = true := c17
       (try (have c17b1 : decide ((decide (a0 < 0)) = (decide (a1 < 0))) = false := by simpa using c17))
       (try (have c17b2 : ((decide (a0 < 0)) == (decide (a1 < 0))) = false := by simpa using c17))
       (try (have c17b3 : ¬ ((decide (a0 < 0)) = (decide (a1 < 0))) := by simpa using c17))
       clear c17
       simp only [Option.some.injEq, Prod.mk.injEq] at H
       obtain ⟨rfl, rfl, rfl⟩ := H
       have hcz18_0 : wc.cell? ⟨gb194, 0, none⟩ = some (.int .i64 0) := (blk_cell BK194.out 0).trans rfl
       have hcz18_1 : wc.cell? ⟨gb194, 1, none⟩ = some (.int .i64 0) := (blk_cell BK194.out 1).trans rfl
       have hfz18_0 := blk_frozen BK194.out 0
       have hfz18_1 := blk_frozen BK194.out 1
       go_wp2
       refine bodyPost_ret (results_ct rfl _ _ gb194 94 #[.int .i64 (wrap64 (-(wrap64 ((IntKind.u64.wrap (Int.tdiv t198 t197)))))), .int .i64 (wrap64 ((IntKind.u64.wrap (Int.tdiv t199 t197))))] (0, 0) _ rfl (by (with_reducible repeat (first | refine blk_drewN ?_ _ | refine blk_drew ?_ | refine blk_alloc ?_ _)); refine blk_put (cs := #[.int .i64 (wrap64 (-(wrap64 ((IntKind.u64.wrap (Int.tdiv t198 t197)))))), .int .i64 0]) ?_ 1 _ rfl; (with_reducible repeat (first | refine blk_drewN ?_ _ | refine blk_drew ?_ | refine blk_alloc ?_ _)); refine blk_put (cs := #[.int .i64 0, .int .i64 0]) ?_ 0 _ rfl; (with_reducible repeat (first | refine blk_drewN ?_ _ | refine blk_drew ?_ | refine blk_alloc ?_ _)); exact BK194.out) Try.underlying94 rfl (by kernel_rfl)) rfl ?_
       exact ⟨ew_, by repeat (first | (with_reducible first | exact HB.out | apply below_alloc | apply pw_below_drewN | apply below_drew1 | refine below_set ?_ GE194.out) | exact HB.out)⟩
      ·rw [if_neg c17] at H
       have c17b0 : ((decide (a0 < 0)) != (decide (a1 < 0))) = false := by simpa using c17
       (try (have c17b1 : decide ((decide (a0 < 0)) = (decide (a1 < 0))) = true := by simpa using c17))
       (try (have c17b2 : ((decide (a0 < 0)) == (decide (a1 < 0))) = true := by simpa using c17))
       clear c17
       simp only [Option.some.injEq, Prod.mk.injEq] at H
       obtain ⟨rfl, rfl, rfl⟩ := H
       have hcz19_0 : wc.cell? ⟨gb194, 0, none⟩ = some (.int .i64 0) := (blk_cell BK194.out 0).trans rfl
       have hcz19_1 : wc.cell? ⟨gb194, 1, none⟩ = some (.int .i64 0) := (blk_cell BK194.out 1).trans rfl
       have hfz19_0 := blk_frozen BK194.out 0
       have hfz19_1 := blk_frozen BK194.out 1
       go_wp2
       refine bodyPost_ret (results_ct rfl _ _ gb194 94 #[.int .i64 (wrap64 ((IntKind.u64.wrap (Int.tdiv t198 t197)))), .int .i64 (wrap64 ((IntKind.u64.wrap (Int.tdiv t199 t197))))] (0, 0) _ rfl (by (with_reducible repeat (first | refine blk_drewN ?_ _ | refine blk_drew ?_ | refine blk_alloc ?_ _)); refine blk_put (cs := #[.int .i64 (wrap64 ((IntKind.u64.wrap (Int.tdiv t198 t197)))), .int .i64 0]) ?_ 1 _ rfl; (with_reducible repeat (first | refine blk_drewN ?_ _ | refine blk_drew ?_ | refine blk_alloc ?_ _)); refine blk_put (cs := #[.int .i64 0, .int .i64 0]) ?_ 0 _ rfl; (with_reducible repeat (first | refine blk_drewN ?_ _ | refine blk_drew ?_ | refine blk_alloc ?_ _)); exact BK194.out) Try.underlying94 rfl (by kernel_rfl)) rfl ?_
       exact ⟨ew_, by repeat (first | (with_reducible first | exact HB.out | apply below_alloc | apply pw_below_drewN | apply below_drew1 | refine below_set ?_ GE194.out) | exact HB.out)⟩
end
section
attribute [local go_sem high] eqA94
def cohousingref01_Valid.f (k : Nat) (a0_0 : Int) (a0_1 : Int) : Option (Bool) := if a0_1 < 1 then (some false) else ((cohousingref01_Make.f k a0_0 a0_1).bind fun bt201 => (if bt201.2.2 = 0 then (some (bt201.1 == a0_0 && (bt201.2.1 == a0_1))) else (some false)))
theorem cohousingref01_Valid.calls (k : Nat) (a0_0 : Int) (a0_1 : Int) (r : Bool) (w : World) (h : cohousingref01_Valid.f k a0_0 a0_1 = some r) :
  Calls Try.prog 64 #[.agg #[.int .i64 a0_0, .int .i64 a0_1]] w fun e w' => e = .returned (.bool r) ∧ Below w.heap.size w w' := by
 have hu94 := Try.underlying94
 have HB := Aside0.mk (Below.refl w.heap.size w)
 have H : (if a0_1 < 1 then (some false) else ((cohousingref01_Make.f k a0_0 a0_1).bind fun bt201 => (if bt201.2.2 = 0 then (some (bt201.1 == a0_0 && (bt201.2.1 == a0_1))) else (some false)))) = some r := h
 clear h
 by_cases c2 : a0_1 < 1
 ·rw [if_pos c2] at H
  have c2b0 : decide (a0_1 < 1) = true := decide_eq_true c2
  clear c2
  obtain rfl := Option.some.inj H
  go_enter Try.func64, Try.ntmps64
  go_wp2_with (first | ((with_reducible refine gate_dst (N := 1) rfl ?_); refine box_event ?hg (N := 1) ?hd (cs := #[.int .i64 a0_0, .int .i64 a0_1]) (t := 94) ?hr ?_; (case hd => rfl); (case hg => rfl); (case hr => first | (go_simp; done) | (go_simp; rfl)); intro gb200 hg w3 hbox hb; have n0_ := Aside0.mk (below_step (bb_ HB) hb); have n1_ := Aside0.mk (hbox); have n2_ := Aside0.mk ((by rw [hg]; exact (below_size (bb_ HB)) : w.heap.size ≤ gb200)); have n3_ := Aside0.mk ((by rw [hg]; exact (below_size (bb_ HB)) : w.heap.size ≤ gb200)); clear HB; have HB := n0_; have BK200 := n1_; have GW200 := n2_; have GE200 := n3_; clear n0_ n1_ n2_ n3_; clear hb hbox hg; have hcz4_0 : w3.cell? ⟨gb200, 0, none⟩ = some (.int .i64 a0_0) := (blk_cell BK200.out 0).trans rfl; have hcz4_1 : w3.cell? ⟨gb200, 1, none⟩ = some (.int .i64 a0_1) := (blk_cell BK200.out 1).trans rfl; have hfz4_0 := blk_frozen BK200.out 0; have hfz4_1 := blk_frozen BK200.out 1))
  go_ret
  exact ⟨ew_, by repeat (first | (with_reducible first | exact HB.out | apply below_alloc | apply pw_below_drewN | apply below_drew1 | refine below_set ?_ GE200.out) | exact HB.out)⟩
 ·rw [if_neg c2] at H
  have c2b0 : decide (a0_1 < 1) = false := decide_eq_false c2
  clear c2
  replace H := Option.bind_eq_some_iff.mp H
  obtain ⟨⟨t201, t202, t203⟩, A50, H⟩ := H
  replace H : (if t203 = 0 then (some (t201 == a0_0 && (t202 == a0_1))) else (some false)) = some r := H
  have A5 := Aside0.mk A50
  clear A50
  by_cases c6 : t203 = 0
  ·rw [if_pos c6] at H
   have c6b0 : (t203 == 0) = true := beq_iff_eq.mpr c6
   have c6b1 : (t203 != 0) = false := bne_eq_false_iff_eq.mpr c6
   clear c6
   obtain rfl := Option.some.inj H
   go_enter Try.func64, Try.ntmps64
   go_wp2_with (first | ((with_reducible refine gate_dst (N := 1) rfl ?_); refine box_event ?hg (N := 1) ?hd (cs := #[.int .i64 a0_0, .int .i64 a0_1]) (t := 94) ?hr ?_; (case hd => rfl); (case hg => rfl); (case hr => first | (go_simp; done) | (go_simp; rfl)); intro gb200 hg w7 hbox hb; have n0_ := Aside0.mk (below_step (bb_ HB) hb); have n1_ := Aside0.mk (hbox); have n2_ := Aside0.mk ((by rw [hg]; exact (below_size (bb_ HB)) : w.heap.size ≤ gb200)); have n3_ := Aside0.mk ((by rw [hg]; exact (below_size (bb_ HB)) : w.heap.size ≤ gb200)); clear HB; have HB := n0_; have BK200 := n1_; have GW200 := n2_; have GE200 := n3_; clear n0_ n1_ n2_ n3_; clear hb hbox hg; have hcz8_0 : w7.cell? ⟨gb200, 0, none⟩ = some (.int .i64 a0_0) := (blk_cell BK200.out 0).trans rfl; have hcz8_1 : w7.cell? ⟨gb200, 1, none⟩ = some (.int .i64 a0_1) := (blk_cell BK200.out 1).trans rfl; have hfz8_0 := blk_frozen BK200.out 0; have hfz8_1 := blk_frozen BK200.out 1) | ((with_reducible refine gate_callee (f := 79) rfl ?_); refine gl_ (some 13) Try.func79 #[.int .i64 a0_0, .int .i64 a0_1] ?_; (with_reducible refine (cohousingref01_Make.calls k a0_0 a0_1 t201 t202 t203 _ A5.out).mono ?_); rintro e w9 ⟨rfl, hb⟩; refine ⟨_, rfl, ?_⟩; have n0_ := Aside0.mk (blk_below (g := gb200) (o := .cells #[.int .i64 a0_0, .int .i64 a0_1] 94 (0, 0)) (kk_ BK200) hb); have n1_ := Aside0.mk (below_step (bs_ HB GE200.out) hb); clear BK200; clear HB; have BK200 := n0_; have HB := n1_; clear n0_ n1_; (try clear hb); (try clear hb2); (try clear hk); (try clear hi)) | ((with_reducible refine gate_dst (N := 3) rfl ?_); refine box_event ?hg (N := 3) ?hd (cs := #[.int .i64 0, .int .i64 0]) (t := 94) ?hr ?_; (case hd => rfl); (case hg => rfl); (case hr => first | (go_simp; done) | (go_simp; rfl)); intro gb204 hg w10 hbox hb; have n0_ := Aside0.mk (blk_below (g := gb200) (o := .cells #[.int .i64 a0_0, .int .i64 a0_1] 94 (0, 0)) (kk_ BK200) hb); have n1_ := Aside0.mk (below_step (bs_ HB GE200.out) hb); have n2_ := Aside0.mk (hbox); have n3_ := Aside0.mk ((by rw [hg]; exact (below_size (bs_ HB GE200.out)) : w.heap.size ≤ gb204)); have n4_ := Aside0.mk ((by rw [hg]; exact (below_size (bs_ HB GE200.out)) : w.heap.size ≤ gb204)); have n5_ := Aside0.mk ((by rw [hg]; exact Nat.ne_of_lt (blk_lt (g := gb200) (o := .cells #[.int .i64 a0_0, .int .i64 a0_1] 94 (0, 0)) (kk_ BK200)) : gb200 ≠ gb204)); have n6_ := Aside0.mk ((by rw [hg]; exact Nat.ne_of_gt (blk_lt (g := gb200) (o := .cells #[.int .i64 a0_0, .int .i64 a0_1] 94 (0, 0)) (kk_ BK200)) : gb204 ≠ gb200)); clear BK200; clear HB; have BK200 := n0_; have HB := n1_; have BK204 := n2_; have GW204 := n3_; have GE204 := n4_; have NB200_204 := n5_; have NB204_200 := n6_; clear n0_ n1_ n2_ n3_ n4_ n5_ n6_; clear hb hbox hg; have hnb11 := NB204_200.out; have hnc11 := NB200_204.out; have hcz12_0 : w10.cell? ⟨gb204, 0, none⟩ = some (.int .i64 0) := (blk_cell BK204.out 0).trans rfl; have hcz12_1 : w10.cell? ⟨gb204, 1, none⟩ = some (.int .i64 0) := (blk_cell BK204.out 1).trans rfl; have hfz12_0 := blk_frozen BK204.out 0; have hfz12_1 := blk_frozen BK204.out 1; have hcz13_0 : w10.cell? ⟨gb200, 0, none⟩ = some (.int .i64 a0_0) := (blk_cell BK200.out 0).trans rfl; have hcz13_1 : w10.cell? ⟨gb200, 1, none⟩ = some (.int .i64 a0_1) := (blk_cell BK200.out 1).trans rfl; have hfz13_0 := blk_frozen BK200.out 0; have hfz13_1 := blk_frozen BK200.out 1))
   go_ret
   exact ⟨ew_, by repeat (first | (with_reducible first | exact HB.out | apply below_alloc | apply pw_below_drewN | apply below_drew1 | refine below_set ?_ GE200.out | refine below_set ?_ GE204.out) | exact HB.out)⟩
  ·rw [if_neg c6] at H
   have c6b0 : (t203 == 0) = false := beq_eq_false_iff_ne.mpr c6
   have c6b1 : (t203 != 0) = true := bne_iff_ne.mpr c6
   obtain rfl := Option.some.inj H
   go_enter Try.func64, Try.ntmps64
   go_wp2_with (first | ((with_reducible refine gate_dst (N := 1) rfl ?_); refine box_event ?hg (N := 1) ?hd (cs := #[.int .i64 a0_0, .int .i64 a0_1]) (t := 94) ?hr ?_; (case hd => rfl); (case hg => rfl); (case hr => first | (go_simp; done) | (go_simp; rfl)); intro gb200 hg w14 hbox hb; have n0_ := Aside0.mk (below_step (bb_ HB) hb); have n1_ := Aside0.mk (hbox); have n2_ := Aside0.mk ((by rw [hg]; exact (below_size (bb_ HB)) : w.heap.size ≤ gb200)); have n3_ := Aside0.mk ((by rw [hg]; exact (below_size (bb_ HB)) : w.heap.size ≤ gb200)); clear HB; have HB := n0_; have BK200 := n1_; have GW200 := n2_; have GE200 := n3_; clear n0_ n1_ n2_ n3_; clear hb hbox hg; have hcz15_0 : w14.cell? ⟨gb200, 0, none⟩ = some (.int .i64 a0_0) := (blk_cell BK200.out 0).trans rfl; have hcz15_1 : w14.cell? ⟨gb200, 1, none⟩ = some (.int .i64 a0_1) := (blk_cell BK200.out 1).trans rfl; have hfz15_0 := blk_frozen BK200.out 0; have hfz15_1 := blk_frozen BK200.out 1) | ((with_reducible refine gate_callee (f := 79) rfl ?_); refine gl_ (some 13) Try.func79 #[.int .i64 a0_0, .int .i64 a0_1] ?_; (with_reducible refine (cohousingref01_Make.calls k a0_0 a0_1 t201 t202 t203 _ A5.out).mono ?_); rintro e w16 ⟨rfl, hb⟩; refine ⟨_, rfl, ?_⟩; have n0_ := Aside0.mk (blk_below (g := gb200) (o := .cells #[.int .i64 a0_0, .int .i64 a0_1] 94 (0, 0)) (kk_ BK200) hb); have n1_ := Aside0.mk (below_step (bs_ HB GE200.out) hb); clear BK200; clear HB; have BK200 := n0_; have HB := n1_; clear n0_ n1_; (try clear hb); (try clear hb2); (try clear hk); (try clear hi)) | ((with_reducible refine gate_dst (N := 3) rfl ?_); refine box_event ?hg (N := 3) ?hd (cs := #[.int .i64 0, .int .i64 0]) (t := 94) ?hr ?_; (case hd => rfl); (case hg => rfl); (case hr => first | (go_simp; done) | (go_simp; rfl)); intro gb204 hg w17 hbox hb; have n0_ := Aside0.mk (blk_below (g := gb200) (o := .cells #[.int .i64 a0_0, .int .i64 a0_1] 94 (0, 0)) (kk_ BK200) hb); have n1_ := Aside0.mk (below_step (bs_ HB GE200.out) hb); have n2_ := Aside0.mk (hbox); have n3_ := Aside0.mk ((by rw [hg]; exact (below_size (bs_ HB GE200.out)) : w.heap.size ≤ gb204)); have n4_ := Aside0.mk ((by rw [hg]; exact (below_size (bs_ HB GE200.out)) : w.heap.size ≤ gb204)); have n5_ := Aside0.mk ((by rw [hg]; exact Nat.ne_of_lt (blk_lt (g := gb200) (o := .cells #[.int .i64 a0_0, .int .i64 a0_1] 94 (0, 0)) (kk_ BK200)) : gb200 ≠ gb204)); have n6_ := Aside0.mk ((by rw [hg]; exact Nat.ne_of_gt (blk_lt (g := gb200) (o := .cells #[.int .i64 a0_0, .int .i64 a0_1] 94 (0, 0)) (kk_ BK200)) : gb204 ≠ gb200)); clear BK200; clear HB; have BK200 := n0_; have HB := n1_; have BK204 := n2_; have GW204 := n3_; have GE204 := n4_; have NB200_204 := n5_; have NB204_200 := n6_; clear n0_ n1_ n2_ n3_ n4_ n5_ n6_; clear hb hbox hg; have hnb18 := NB204_200.out; have hnc18 := NB200_204.out; have hcz19_0 : w17.cell? ⟨gb204, 0, none⟩ = some (.int .i64 0) := (blk_cell BK204.out 0).trans rfl; have hcz19_1 : w17.cell? ⟨gb204, 1, none⟩ = some (.int .i64 0) := (blk_cell BK204.out 1).trans rfl; have hfz19_0 := blk_frozen BK204.out 0; have hfz19_1 := blk_frozen BK204.out 1))
   go_ret
   exact ⟨ew_, by repeat (first | (with_reducible first | exact HB.out | apply below_alloc | apply pw_below_drewN | apply below_drew1 | refine below_set ?_ GE200.out | refine below_set ?_ GE204.out) | exact HB.out)⟩
end
section
mutual
def cohousingref02_Scale.j0 : Nat → Int → Bool → Int → Int → Option (Int × Int)
 | 0, _, _, _, _ => none
 | k + 1, x0, x21, x206000, x206001 => if x21 = true then (some (0, 1)) else (if x206001 = 0 then (none) else (if (Int.tmod (wrap64 (x0 * x206000)) x206001) < 0 then (cohousingref02_Scale.j1 k (wrap64 (Int.tdiv (wrap64 (x0 * x206000)) x206001)) (Int.tmod (wrap64 (x0 * x206000)) x206001) (decide ((wrap64 ((-2) * (Int.tmod (wrap64 (x0 * x206000)) x206001))) ≥ x206001)) x206000 x206001) else (cohousingref02_Scale.j1 k (wrap64 (Int.tdiv (wrap64 (x0 * x206000)) x206001)) (Int.tmod (wrap64 (x0 * x206000)) x206001) false x206000 x206001)))
def cohousingref02_Scale.j1 : Nat → Int → Int → Bool → Int → Int → Option (Int × Int)
 | 0, _, _, _, _, _ => none
 | k + 1, x9, x10, x42, x206000, x206001 => if x42 = true then (cohousingref02_Scale.j2 k (wrap64 (x9 - 1)) x10 x206000 x206001) else (cohousingref02_Scale.j2 k x9 x10 x206000 x206001)
def cohousingref02_Scale.j2 : Nat → Int → Int → Int → Int → Option (Int × Int)
 | 0, _, _, _, _ => none
 | k + 1, x9, x10, x206000, x206001 => if x10 > 0 then (cohousingref02_Scale.j3 k x9 (decide ((wrap64 (2 * x10)) ≥ x206001))) else (cohousingref02_Scale.j3 k x9 false)
def cohousingref02_Scale.j3 : Nat → Int → Bool → Option (Int × Int)
 | 0, _, _ => none
 | k + 1, x9, x53 => if x53 = true then ((cohousingref02_Amount.f (wrap64 (x9 + 1))).bind fun t208 => (if t208 = true then (some (wrap64 (x9 + 1), 0)) else (some (0, 3)))) else ((cohousingref02_Amount.f x9).bind fun t209 => (if t209 = true then (some (x9, 0)) else (some (0, 3))))
end
def cohousingref02_Scale.f (k : Nat) (a0 : Int) (a1_0 : Int) (a1_1 : Int) : Option (Int × Int) := (cohousingref02_Amount.f a0).bind fun t206 => ((cohousingref01_Valid.f k a1_0 a1_1).bind fun t207 => (if t206 = true then (cohousingref02_Scale.j0 k a0 (!t207) a1_0 a1_1) else (cohousingref02_Scale.j0 k a0 true a1_0 a1_1)))
theorem cohousingref02_Scale.calls (k : Nat) (a0 : Int) (a1_0 : Int) (a1_1 : Int) (r1 : Int) (r2 : Int) (w : World) (h : cohousingref02_Scale.f k a0 a1_0 a1_1 = some (r1, r2)) :
  Calls Try.prog 46 #[.int .i64 a0, .agg #[.int .i64 a1_0, .int .i64 a1_1]] w fun e w' => e = .returned (.tuple #[.int .i64 r1, .int .i64 r2]) ∧ Below w.heap.size w w' := by
 have hu94 := Try.underlying94
 have HB := Aside0.mk (Below.refl w.heap.size w)
 have H : ((cohousingref02_Amount.f a0).bind fun t206 => ((cohousingref01_Valid.f k a1_0 a1_1).bind fun t207 => (if t206 = true then (cohousingref02_Scale.j0 k a0 (!t207) a1_0 a1_1) else (cohousingref02_Scale.j0 k a0 true a1_0 a1_1)))) = some (r1, r2) := h
 clear h
 replace H := Option.bind_eq_some_iff.mp H
 obtain ⟨t206, A30, H⟩ := H
 replace H : ((cohousingref01_Valid.f k a1_0 a1_1).bind fun t207 => (if t206 = true then (cohousingref02_Scale.j0 k a0 (!t207) a1_0 a1_1) else (cohousingref02_Scale.j0 k a0 true a1_0 a1_1))) = some (r1, r2) := H
 have A3 := Aside0.mk A30
 clear A30
 replace H := Option.bind_eq_some_iff.mp H
 obtain ⟨t207, A40, H⟩ := H
 replace H : (if t206 = true then (cohousingref02_Scale.j0 k a0 (!t207) a1_0 a1_1) else (cohousingref02_Scale.j0 k a0 true a1_0 a1_1)) = some (r1, r2) := H
 have A4 := Aside0.mk A40
 clear A40
 have HC5 := Aside0.mk H
 clear H
 go_enter Try.func46, Try.ntmps46
 go_upto_region 3 with (first | ((with_reducible refine gate_dst (N := 3) rfl ?_); refine box_event ?hg (N := 3) ?hd (cs := #[.int .i64 a1_0, .int .i64 a1_1]) (t := 94) ?hr ?_; (case hd => rfl); (case hg => rfl); (case hr => first | (go_simp; done) | (go_simp; rfl)); intro gb205 hg w6 hbox hb; have n0_ := Aside0.mk (below_step (bb_ HB) hb); have n1_ := Aside0.mk (hbox); have n2_ := Aside0.mk ((by rw [hg]; exact (below_size (bb_ HB)) : w.heap.size ≤ gb205)); have n3_ := Aside0.mk ((by rw [hg]; exact (below_size (bb_ HB)) : w.heap.size ≤ gb205)); clear HB; have HB := n0_; have BK205 := n1_; have GW205 := n2_; have GE205 := n3_; clear n0_ n1_ n2_ n3_; clear hb hbox hg) | ((with_reducible refine gate_callee (f := 63) rfl ?_); refine gl_ (some 13) Try.func63 #[.int .i64 a0] ?_; (with_reducible refine (cohousingref02_Amount.calls a0 t206 _ A3.out).mono ?_); rintro e w' ⟨rfl, ⟨nd, rfl⟩⟩; refine ⟨_, rfl, ?_⟩; have hcz7_0 : w6.cell? ⟨gb205, 0, none⟩ = some (.int .i64 a1_0) := (blk_cell BK205.out 0).trans rfl; have hcz7_1 : w6.cell? ⟨gb205, 1, none⟩ = some (.int .i64 a1_1) := (blk_cell BK205.out 1).trans rfl; have hfz7_0 := blk_frozen BK205.out 0; have hfz7_1 := blk_frozen BK205.out 1) | ((with_reducible refine gate_callee (f := 64) rfl ?_); refine gl_ (some 15) Try.func64 #[.agg #[.int .i64 a1_0, .int .i64 a1_1]] ?_; (with_reducible refine (cohousingref01_Valid.calls k a1_0 a1_1 t207 _ A4.out).mono ?_); rintro e w8 ⟨rfl, hb⟩; refine ⟨_, rfl, ?_⟩; have n0_ := Aside0.mk (blk_below (g := gb205) (o := .cells #[.int .i64 a1_0, .int .i64 a1_1] 94 (0, 0)) (kk_ BK205) hb); have n1_ := Aside0.mk (below_step (bs_ HB GE205.out) hb); clear BK205; clear HB; have BK205 := n0_; have HB := n1_; clear n0_ n1_; (try clear hb); (try clear hb2); (try clear hk); (try clear hi)))
 (try simp only [Act.put, sI_, s0_, sS_])
 go_cut [21] (fun v21 wc => ∃ (kq : Nat) (x21_4 : Bool), v21 = .bool x21_4 ∧ Aside0 (cohousingref02_Scale.j0 kq a0 x21_4 a1_0 a1_1 = some (r1, r2)) ∧ Aside0 (kq ≤ k) ∧ Aside0 (wc.heap[gb205]? = some (.cells #[.int .i64 a1_0, .int .i64 a1_1] 94 (0, 0))) ∧ Aside0 (Below w.heap.size w wc))
 case first =>
  have H := HC5.out
  clear HC5
  by_cases c9 : t206 = true
  ·subst c9
   have H1 : (cohousingref02_Scale.j0 k a0 (!t207) a1_0 a1_1) = some (r1, r2) := by rw [if_pos rfl] at H; exact H
   clear H
   have H := H1
   clear H1
   have H' := Aside0.mk H
   clear H
   go_wp2
   go_meet
   case rel => exact ⟨_, (!t207), sd_, H', ⟨by first | omega | exact Nat.le_refl _⟩, ⟨by (with_reducible repeat (first | refine blk_drewN ?_ _ | refine blk_drew ?_ | refine blk_alloc ?_ _)); exact BK205.out⟩, ⟨by repeat (first | (with_reducible first | exact HB.out | apply below_alloc | apply pw_below_drewN | apply below_drew1 | refine below_set ?_ GE205.out) | exact HB.out)⟩⟩
  ·replace c9 := Bool.eq_false_iff.mpr c9
   subst c9
   have H1 : (cohousingref02_Scale.j0 k a0 true a1_0 a1_1) = some (r1, r2) := by rw [if_neg (show ¬ (false = true) by decide)] at H; exact H
   clear H
   have H := H1
   clear H1
   have H' := Aside0.mk H
   clear H
   go_wp2
   go_meet
   case rel => exact ⟨_, (true), sd_, H', ⟨by first | omega | exact Nat.le_refl _⟩, ⟨by (with_reducible repeat (first | refine blk_drewN ?_ _ | refine blk_drew ?_ | refine blk_alloc ?_ _)); exact BK205.out⟩, ⟨by repeat (first | (with_reducible first | exact HB.out | apply below_alloc | apply pw_below_drewN | apply below_drew1 | refine below_set ?_ GE205.out) | exact HB.out)⟩⟩
 case rest =>
  clear HC5
  try clear p2
  try clear c4
  try clear c6
  try clear c9
  try clear hcz7_0
  try clear hcz7_1
  try clear hfz7_0
  try clear hfz7_1
  obtain ⟨kq, x21_4, rfl, HA, HJ4, BK205, HB⟩ := hcut
  cases kq with
  | zero => exact absurd HA.out (by simp [cohousingref02_Scale.j0])
  | succ kj4 =>
   have H := HA.out
   clear HA
   simp only [cohousingref02_Scale.j0] at H
   by_cases c10 : x21_4 = true
   ·subst c10
    have H1 : (some (0, 1)) = some (r1, r2) := by rw [if_pos rfl] at H; exact H
    clear H
    have H := H1
    clear H1
    simp only [Option.some.injEq, Prod.mk.injEq] at H
    obtain ⟨rfl, rfl⟩ := H
    go_wp2
    go_ret2
    exact ⟨ew_, by repeat (first | (with_reducible first | exact HB.out | apply below_alloc | apply pw_below_drewN | apply below_drew1 | refine below_set ?_ GE205.out) | exact HB.out)⟩
   ·replace c10 := Bool.eq_false_iff.mpr c10
    subst c10
    have H1 : (if a1_1 = 0 then (none) else (if (Int.tmod (wrap64 (a0 * a1_0)) a1_1) < 0 then (cohousingref02_Scale.j1 kj4 (wrap64 (Int.tdiv (wrap64 (a0 * a1_0)) a1_1)) (Int.tmod (wrap64 (a0 * a1_0)) a1_1) (decide ((wrap64 ((-2) * (Int.tmod (wrap64 (a0 * a1_0)) a1_1))) ≥ a1_1)) a1_0 a1_1) else (cohousingref02_Scale.j1 kj4 (wrap64 (Int.tdiv (wrap64 (a0 * a1_0)) a1_1)) (Int.tmod (wrap64 (a0 * a1_0)) a1_1) false a1_0 a1_1))) = some (r1, r2) := by rw [if_neg (show ¬ (false = true) by decide)] at H; exact H
    clear H
    have H := H1
    clear H1
    by_cases c11 : a1_1 = 0
    ·rw [if_pos c11] at H
     exact absurd H (by simp)
    ·rw [if_neg c11] at H
     have c11b0 : (a1_1 == 0) = false := beq_eq_false_iff_ne.mpr c11
     have c11b1 : (a1_1 != 0) = true := bne_iff_ne.mpr c11
     have HC12 := Aside0.mk H
     clear H
     have hcz13_0 : wc.cell? ⟨gb205, 0, none⟩ = some (.int .i64 a1_0) := (blk_cell BK205.out 0).trans rfl
     have hcz13_1 : wc.cell? ⟨gb205, 1, none⟩ = some (.int .i64 a1_1) := (blk_cell BK205.out 1).trans rfl
     have hfz13_0 := blk_frozen BK205.out 0
     have hfz13_1 := blk_frozen BK205.out 1
     go_upto_region 8 with (fail)
     go_cut [42] (fun v42 wc => ∃ (kq : Nat) (x42_11 : Bool), v42 = .bool x42_11 ∧ Aside0 (cohousingref02_Scale.j1 kq (wrap64 (Int.tdiv (wrap64 (a0 * a1_0)) a1_1)) (Int.tmod (wrap64 (a0 * a1_0)) a1_1) x42_11 a1_0 a1_1 = some (r1, r2)) ∧ Aside0 (kq ≤ kj4) ∧ Aside0 (wc.heap[gb205]? = some (.cells #[.int .i64 a1_0, .int .i64 a1_1] 94 (0, 0))) ∧ Aside0 (Below w.heap.size w wc))
     case first =>
      have H := HC12.out
      clear HC12
      by_cases c14 : (Int.tmod (wrap64 (a0 * a1_0)) a1_1) < 0
      ·rw [if_pos c14] at H
       have c14b0 : decide ((Int.tmod (wrap64 (a0 * a1_0)) a1_1) < 0) = true := decide_eq_true c14
       clear c14
       (first | rw [c14b0] | (simp only [i64_w, i32_w]; rw [c14b0]) | skip)
       have H' := Aside0.mk H
       clear H
       have hcz15_0 : wc.cell? ⟨gb205, 0, none⟩ = some (.int .i64 a1_0) := (blk_cell BK205.out 0).trans rfl
       have hcz15_1 : wc.cell? ⟨gb205, 1, none⟩ = some (.int .i64 a1_1) := (blk_cell BK205.out 1).trans rfl
       have hfz15_0 := blk_frozen BK205.out 0
       have hfz15_1 := blk_frozen BK205.out 1
       go_wp2
       go_meet
       case rel => exact ⟨_, (decide ((wrap64 ((-2) * (Int.tmod (wrap64 (a0 * a1_0)) a1_1))) ≥ a1_1)), sd_, H', ⟨by have := HJ4.out; first | omega | exact Nat.le_refl _⟩, ⟨by (with_reducible repeat (first | refine blk_drewN ?_ _ | refine blk_drew ?_ | refine blk_alloc ?_ _)); exact BK205.out⟩, ⟨by repeat (first | (with_reducible first | exact HB.out | apply below_alloc | apply pw_below_drewN | apply below_drew1 | refine below_set ?_ GE205.out) | exact HB.out)⟩⟩
      ·rw [if_neg c14] at H
       have c14b0 : decide ((Int.tmod (wrap64 (a0 * a1_0)) a1_1) < 0) = false := decide_eq_false c14
       clear c14
       (first | rw [c14b0] | (simp only [i64_w, i32_w]; rw [c14b0]) | skip)
       have H' := Aside0.mk H
       clear H
       go_wp2
       go_meet
       case rel => exact ⟨_, (false), sd_, H', ⟨by have := HJ4.out; first | omega | exact Nat.le_refl _⟩, ⟨by (with_reducible repeat (first | refine blk_drewN ?_ _ | refine blk_drew ?_ | refine blk_alloc ?_ _)); exact BK205.out⟩, ⟨by repeat (first | (with_reducible first | exact HB.out | apply below_alloc | apply pw_below_drewN | apply below_drew1 | refine below_set ?_ GE205.out) | exact HB.out)⟩⟩
     case rest =>
      clear HC12
      try clear c1
      try clear p2
      try clear c4
      try clear c6
      try clear p6
      try clear c9
      try clear c10
      try clear c11
      try clear c11b0
      try clear c11b1
      try clear c14
      try clear c14b0
      try clear hcz13_0
      try clear hcz13_1
      try clear hcz15_0
      try clear hcz15_1
      try clear hcz7_0
      try clear hcz7_1
      try clear hfz13_0
      try clear hfz13_1
      try clear hfz15_0
      try clear hfz15_1
      try clear hfz7_0
      try clear hfz7_1
      try clear p2
      obtain ⟨kq, x42_11, rfl, HA, HJ11, BK205, HB⟩ := hcut
      cases kq with
      | zero => exact absurd HA.out (by simp [cohousingref02_Scale.j1])
      | succ kj11 =>
       have H := HA.out
       clear HA
       simp only [cohousingref02_Scale.j1] at H
       have HC16 := Aside0.mk H
       clear H
       go_upto_if 42 with (fail)
       go_cut [9] (fun v9 wc => ∃ (kq : Nat) (x9_15 : Int), v9 = .int .i64 x9_15 ∧ Aside0 (cohousingref02_Scale.j2 kq x9_15 (Int.tmod (wrap64 (a0 * a1_0)) a1_1) a1_0 a1_1 = some (r1, r2)) ∧ Aside0 (kq ≤ kj11) ∧ Aside0 (wc.heap[gb205]? = some (.cells #[.int .i64 a1_0, .int .i64 a1_1] 94 (0, 0))) ∧ Aside0 (Below w.heap.size w wc))
       case first =>
        have H := HC16.out
        clear HC16
        by_cases c17 : x42_11 = true
        ·subst c17
         have H1 : (cohousingref02_Scale.j2 kj11 (wrap64 ((wrap64 (Int.tdiv (wrap64 (a0 * a1_0)) a1_1)) - 1)) (Int.tmod (wrap64 (a0 * a1_0)) a1_1) a1_0 a1_1) = some (r1, r2) := by rw [if_pos rfl] at H; exact H
         clear H
         have H := H1
         clear H1
         have H' := Aside0.mk H
         clear H
         go_wp2
         go_meet
         case rel => exact ⟨_, (wrap64 ((wrap64 (Int.tdiv (wrap64 (a0 * a1_0)) a1_1)) - 1)), sd_, H', ⟨by have := HJ4.out; have := HJ11.out; first | omega | exact Nat.le_refl _⟩, ⟨by (with_reducible repeat (first | refine blk_drewN ?_ _ | refine blk_drew ?_ | refine blk_alloc ?_ _)); exact BK205.out⟩, ⟨by repeat (first | (with_reducible first | exact HB.out | apply below_alloc | apply pw_below_drewN | apply below_drew1 | refine below_set ?_ GE205.out) | exact HB.out)⟩⟩
        ·replace c17 := Bool.eq_false_iff.mpr c17
         subst c17
         have H1 : (cohousingref02_Scale.j2 kj11 (wrap64 (Int.tdiv (wrap64 (a0 * a1_0)) a1_1)) (Int.tmod (wrap64 (a0 * a1_0)) a1_1) a1_0 a1_1) = some (r1, r2) := by rw [if_neg (show ¬ (false = true) by decide)] at H; exact H
         clear H
         have H := H1
         clear H1
         have H' := Aside0.mk H
         clear H
         go_wp2
         go_meet
         case rel => exact ⟨_, ((wrap64 (Int.tdiv (wrap64 (a0 * a1_0)) a1_1))), sd_, H', ⟨by have := HJ4.out; have := HJ11.out; first | omega | exact Nat.le_refl _⟩, ⟨by (with_reducible repeat (first | refine blk_drewN ?_ _ | refine blk_drew ?_ | refine blk_alloc ?_ _)); exact BK205.out⟩, ⟨by repeat (first | (with_reducible first | exact HB.out | apply below_alloc | apply pw_below_drewN | apply below_drew1 | refine below_set ?_ GE205.out) | exact HB.out)⟩⟩
       case rest =>
        clear HC16
        try clear c1
        try clear p2
        try clear c4
        try clear c6
        try clear p6
        try clear c9
        try clear c10
        try clear c11
        try clear c11b0
        try clear c11b1
        try clear c14
        try clear c14b0
        try clear c17
        try clear hcz13_0
        try clear hcz13_1
        try clear hcz15_0
        try clear hcz15_1
        try clear hcz7_0
        try clear hcz7_1
        try clear hfz13_0
        try clear hfz13_1
        try clear hfz15_0
        try clear hfz15_1
        try clear hfz7_0
        try clear hfz7_1
        try clear p2
        try clear p6
        obtain ⟨kq, x9_15, rfl, HA, HJ15, BK205, HB⟩ := hcut
        cases kq with
        | zero => exact absurd HA.out (by simp [cohousingref02_Scale.j2])
        | succ kj15 =>
         have H := HA.out
         clear HA
         simp only [cohousingref02_Scale.j2] at H
         have HC18 := Aside0.mk H
         clear H
         go_upto_region 10 with (fail)
         go_cut [53] (fun v53 wc => ∃ (kq : Nat) (x53_17 : Bool), v53 = .bool x53_17 ∧ Aside0 (cohousingref02_Scale.j3 kq x9_15 x53_17 = some (r1, r2)) ∧ Aside0 (kq ≤ kj15) ∧ Aside0 (wc.heap[gb205]? = some (.cells #[.int .i64 a1_0, .int .i64 a1_1] 94 (0, 0))) ∧ Aside0 (Below w.heap.size w wc))
         case first =>
          have H := HC18.out
          clear HC18
          by_cases c19 : (Int.tmod (wrap64 (a0 * a1_0)) a1_1) > 0
          ·rw [if_pos c19] at H
           have c19b0 : decide (0 < (Int.tmod (wrap64 (a0 * a1_0)) a1_1)) = true := decide_eq_true c19
           clear c19
           (first | rw [c19b0] | (simp only [i64_w, i32_w]; rw [c19b0]) | skip)
           have H' := Aside0.mk H
           clear H
           have hcz20_0 : wc.cell? ⟨gb205, 0, none⟩ = some (.int .i64 a1_0) := (blk_cell BK205.out 0).trans rfl
           have hcz20_1 : wc.cell? ⟨gb205, 1, none⟩ = some (.int .i64 a1_1) := (blk_cell BK205.out 1).trans rfl
           have hfz20_0 := blk_frozen BK205.out 0
           have hfz20_1 := blk_frozen BK205.out 1
           go_wp2
           go_meet
           case rel => exact ⟨_, (decide ((wrap64 (2 * (Int.tmod (wrap64 (a0 * a1_0)) a1_1))) ≥ a1_1)), sd_, H', ⟨by have := HJ4.out; have := HJ11.out; have := HJ15.out; first | omega | exact Nat.le_refl _⟩, ⟨by (with_reducible repeat (first | refine blk_drewN ?_ _ | refine blk_drew ?_ | refine blk_alloc ?_ _)); exact BK205.out⟩, ⟨by repeat (first | (with_reducible first | exact HB.out | apply below_alloc | apply pw_below_drewN | apply below_drew1 | refine below_set ?_ GE205.out) | exact HB.out)⟩⟩
          ·rw [if_neg c19] at H
           have c19b0 : decide (0 < (Int.tmod (wrap64 (a0 * a1_0)) a1_1)) = false := decide_eq_false c19
           clear c19
           (first | rw [c19b0] | (simp only [i64_w, i32_w]; rw [c19b0]) | skip)
           have H' := Aside0.mk H
           clear H
           go_wp2
           go_meet
           case rel => exact ⟨_, (false), sd_, H', ⟨by have := HJ4.out; have := HJ11.out; have := HJ15.out; first | omega | exact Nat.le_refl _⟩, ⟨by (with_reducible repeat (first | refine blk_drewN ?_ _ | refine blk_drew ?_ | refine blk_alloc ?_ _)); exact BK205.out⟩, ⟨by repeat (first | (with_reducible first | exact HB.out | apply below_alloc | apply pw_below_drewN | apply below_drew1 | refine below_set ?_ GE205.out) | exact HB.out)⟩⟩
         case rest =>
          clear HC18
          try clear c1
          try clear p2
          try clear c4
          try clear c6
          try clear p6
          try clear c9
          try clear c10
          try clear c11
          try clear c11b0
          try clear c11b1
          try clear c14
          try clear c14b0
          try clear c17
          try clear c19
          try clear c19b0
          try clear hcz13_0
          try clear hcz13_1
          try clear hcz15_0
          try clear hcz15_1
          try clear hcz20_0
          try clear hcz20_1
          try clear hcz7_0
          try clear hcz7_1
          try clear hfz13_0
          try clear hfz13_1
          try clear hfz15_0
          try clear hfz15_1
          try clear hfz20_0
          try clear hfz20_1
          try clear hfz7_0
          try clear hfz7_1
          try clear p2
          try clear p6
          obtain ⟨kq, x53_17, rfl, HA, HJ17, BK205, HB⟩ := hcut
          cases kq with
          | zero => exact absurd HA.out (by simp [cohousingref02_Scale.j3])
          | succ kj17 =>
           have H := HA.out
           clear HA
           simp only [cohousingref02_Scale.j3] at H
           by_cases c21 : x53_17 = true
           ·subst c21
            have H1 : ((cohousingref02_Amount.f (wrap64 (x9_15 + 1))).bind fun t208 => (if t208 = true then (some (wrap64 (x9_15 + 1), 0)) else (some (0, 3)))) = some (r1, r2) := by rw [if_pos rfl] at H; exact H
            clear H
            have H := H1
            clear H1
            replace H := Option.bind_eq_some_iff.mp H
            obtain ⟨t208, A220, H⟩ := H
            replace H : (if t208 = true then (some (wrap64 (x9_15 + 1), 0)) else (some (0, 3))) = some (r1, r2) := H
            have A22 := Aside0.mk A220
            clear A220
            by_cases c23 : t208 = true
            ·subst c23
             have H1 : (some (wrap64 (x9_15 + 1), 0)) = some (r1, r2) := by rw [if_pos rfl] at H; exact H
             clear H
             have H := H1
             clear H1
             simp only [Option.some.injEq, Prod.mk.injEq] at H
             obtain ⟨rfl, rfl⟩ := H
             go_wp2_with (first | ((with_reducible refine gate_callee (f := 63) rfl ?_); refine gl_ (some 57) Try.func63 #[.int .i64 (wrap64 (x9_15 + 1))] ?_; (with_reducible refine (cohousingref02_Amount.calls (wrap64 (x9_15 + 1)) true _ A22.out).mono ?_); rintro e w' ⟨rfl, ⟨nd, rfl⟩⟩; refine ⟨_, rfl, ?_⟩))
             go_ret2
             exact ⟨ew_, by repeat (first | (with_reducible first | exact HB.out | apply below_alloc | apply pw_below_drewN | apply below_drew1 | refine below_set ?_ GE205.out) | exact HB.out)⟩
            ·replace c23 := Bool.eq_false_iff.mpr c23
             subst c23
             have H1 : (some (0, 3)) = some (r1, r2) := by rw [if_neg (show ¬ (false = true) by decide)] at H; exact H
             clear H
             have H := H1
             clear H1
             simp only [Option.some.injEq, Prod.mk.injEq] at H
             obtain ⟨rfl, rfl⟩ := H
             go_wp2_with (first | ((with_reducible refine gate_callee (f := 63) rfl ?_); refine gl_ (some 57) Try.func63 #[.int .i64 (wrap64 (x9_15 + 1))] ?_; (with_reducible refine (cohousingref02_Amount.calls (wrap64 (x9_15 + 1)) false _ A22.out).mono ?_); rintro e w' ⟨rfl, ⟨nd, rfl⟩⟩; refine ⟨_, rfl, ?_⟩))
             go_ret2
             exact ⟨ew_, by repeat (first | (with_reducible first | exact HB.out | apply below_alloc | apply pw_below_drewN | apply below_drew1 | refine below_set ?_ GE205.out) | exact HB.out)⟩
           ·replace c21 := Bool.eq_false_iff.mpr c21
            subst c21
            have H1 : ((cohousingref02_Amount.f x9_15).bind fun t209 => (if t209 = true then (some (x9_15, 0)) else (some (0, 3)))) = some (r1, r2) := by rw [if_neg (show ¬ (false = true) by decide)] at H; exact H
            clear H
            have H := H1
            clear H1
            replace H := Option.bind_eq_some_iff.mp H
            obtain ⟨t209, A240, H⟩ := H
            replace H : (if t209 = true then (some (x9_15, 0)) else (some (0, 3))) = some (r1, r2) := H
            have A24 := Aside0.mk A240
            clear A240
            by_cases c25 : t209 = true
            ·subst c25
             have H1 : (some (x9_15, 0)) = some (r1, r2) := by rw [if_pos rfl] at H; exact H
             clear H
             have H := H1
             clear H1
             simp only [Option.some.injEq, Prod.mk.injEq] at H
             obtain ⟨rfl, rfl⟩ := H
             go_wp2_with (first | ((with_reducible refine gate_callee (f := 63) rfl ?_); refine gl_ (some 57) Try.func63 #[.int .i64 x9_15] ?_; (with_reducible refine (cohousingref02_Amount.calls x9_15 true _ A24.out).mono ?_); rintro e w' ⟨rfl, ⟨nd, rfl⟩⟩; refine ⟨_, rfl, ?_⟩))
             go_ret2
             exact ⟨ew_, by repeat (first | (with_reducible first | exact HB.out | apply below_alloc | apply pw_below_drewN | apply below_drew1 | refine below_set ?_ GE205.out) | exact HB.out)⟩
            ·replace c25 := Bool.eq_false_iff.mpr c25
             subst c25
             have H1 : (some (0, 3)) = some (r1, r2) := by rw [if_neg (show ¬ (false = true) by decide)] at H; exact H
             clear H
             have H := H1
             clear H1
             simp only [Option.some.injEq, Prod.mk.injEq] at H
             obtain ⟨rfl, rfl⟩ := H
             go_wp2_with (first | ((with_reducible refine gate_callee (f := 63) rfl ?_); refine gl_ (some 57) Try.func63 #[.int .i64 x9_15] ?_; (with_reducible refine (cohousingref02_Amount.calls x9_15 false _ A24.out).mono ?_); rintro e w' ⟨rfl, ⟨nd, rfl⟩⟩; refine ⟨_, rfl, ?_⟩))
             go_ret2
             exact ⟨ew_, by repeat (first | (with_reducible first | exact HB.out | apply below_alloc | apply pw_below_drewN | apply below_drew1 | refine below_set ?_ GE205.out) | exact HB.out)⟩
end
section
def cohousingref05_gcd.l0 : Nat → Int → Int → Option (Int)
 | 0, _, _ => none
 | k + 1, x0, x1 => if x1 > 0 then (if x1 = 0 then (none) else (cohousingref05_gcd.l0 k x1 (Int.tmod x0 x1))) else (some x0)
def cohousingref05_gcd.f (k : Nat) (a0 : Int) (a1 : Int) : Option (Int) := cohousingref05_gcd.l0 k a0 a1
theorem cohousingref05_gcd.calls (k : Nat) (a0 : Int) (a1 : Int) (r : Int) (w : World) (h : cohousingref05_gcd.f k a0 a1 = some r) :
  Calls Try.prog 65 #[.int .i64 a0, .int .i64 a1] w fun e w' => e = .returned (.int .i64 r) ∧ Drawn0 w w' := by
 have H : (cohousingref05_gcd.l0 k a0 a1) = some r := h
 clear h
 have H' := Aside0.mk H
 clear H
 go_enter Try.func65, Try.ntmps65
 go_wp2
 go_loopg [0, 1] k (fun kq v0 v1 w' => ∃ (x0_1 : Int) (x1_1 : Int), v0 = .int .i64 x0_1 ∧ v1 = .int .i64 x1_1 ∧ Aside0 (cohousingref05_gcd.l0 kq x0_1 x1_1 = some r) ∧ Aside0 (kq ≤ k) ∧ Drawn0 w w')
 case atStart => exact ⟨(a0), (a1), sd_, sd_, H', ⟨Nat.le_refl _⟩, by repeat (first | exact Drawn0.refl _ | apply Drawn0.step)⟩
 case round =>
  clear H'
  try clear p2
  obtain ⟨x0_1, x1_1, rfl, rfl, HA, HK1, ⟨m1, rfl⟩⟩ := hrel
  cases gk with
  | zero => exact absurd HA.out (by simp [cohousingref05_gcd.l0])
  | succ k1 =>
   have H := HA.out
   clear HA
   simp only [cohousingref05_gcd.l0] at H
   by_cases c3 : x1_1 > 0
   ·rw [if_pos c3] at H
    have c3b0 : decide (0 < x1_1) = true := decide_eq_true c3
    clear c3
    by_cases c4 : x1_1 = 0
    ·rw [if_pos c4] at H
     exact absurd H (by simp)
    ·rw [if_neg c4] at H
     have c4b0 : (x1_1 == 0) = false := beq_eq_false_iff_ne.mpr c4
     have c4b1 : (x1_1 != 0) = true := bne_iff_ne.mpr c4
     have H' := Aside0.mk H
     clear H
     go_wp2
     go_roundg k1
     case measure => have := HK1.out; omega
     case rel => exact ⟨(x1_1), (Int.tmod x0_1 x1_1), sd_, sd_, H', ⟨by have := HK1.out; omega⟩, by repeat (first | exact Drawn0.refl _ | apply Drawn0.step)⟩
   ·rw [if_neg c3] at H
    have c3b0 : decide (0 < x1_1) = false := decide_eq_false c3
    clear c3
    obtain rfl := Option.some.inj H
    go_wp2
    go_ret
    exact ⟨by first | rfl | (simp; done) | (simp [*]; done), by repeat (first | exact Drawn0.refl _ | apply Drawn0.step)⟩
end
section
def cohousingref05_Reduce.f (k : Nat) (a0 : Int) (a1 : Int) : Option (Int × Int) := if a0 < 0 then ((cohousingref05_gcd.f k (wrap64 (-a0)) a1).bind fun t211 => (if t211 = 0 then (none) else (some (wrap64 (Int.tdiv a0 t211), wrap64 (Int.tdiv a1 t211))))) else ((cohousingref05_gcd.f k a0 a1).bind fun t212 => (if t212 = 0 then (none) else (some (wrap64 (Int.tdiv a0 t212), wrap64 (Int.tdiv a1 t212)))))
def cohousingref05_Reduce.T5 : Bool × List (List Nat × List Nat) := (true, [([], []), ([], []), ([0, 1], [0, 1]), ([], []), ([], []), ([3, 4], [3, 4]), ([2, 5], [2, 5]), ([6, 0, 1, 2, 3, 4, 5, 6], [6])])
def cohousingref05_Reduce.B5 : List Nat := [0, 0, 3, 0, 0, 24, 63, 127]
theorem cohousingref05_Reduce.tab5 : rtab .any (opsOf Try.f47 5) = cohousingref05_Reduce.T5 := by kernel_rfl
theorem cohousingref05_Reduce.bits5 : waitsOk cohousingref05_Reduce.T5.2 cohousingref05_Reduce.B5 = true := by kernel_rfl
theorem cohousingref05_Reduce.calls (k : Nat) (a0 : Int) (a1 : Int) (r1 : Int) (r2 : Int) (w : World) (h : cohousingref05_Reduce.f k a0 a1 = some (r1, r2)) :
  Calls Try.prog 47 #[.int .i64 a0, .int .i64 a1] w fun e w' => e = .returned (.agg #[.int .i64 r1, .int .i64 r2]) ∧ Below w.heap.size w w' := by
 have hu94 := Try.underlying94
 have HB := Aside0.mk (Below.refl w.heap.size w)
 have H : (if a0 < 0 then ((cohousingref05_gcd.f k (wrap64 (-a0)) a1).bind fun t211 => (if t211 = 0 then (none) else (some (wrap64 (Int.tdiv a0 t211), wrap64 (Int.tdiv a1 t211))))) else ((cohousingref05_gcd.f k a0 a1).bind fun t212 => (if t212 = 0 then (none) else (some (wrap64 (Int.tdiv a0 t212), wrap64 (Int.tdiv a1 t212)))))) = some (r1, r2) := h
 clear h
 by_cases c3 : a0 < 0
 ·rw [if_pos c3] at H
  have c3b0 : decide (a0 < 0) = true := decide_eq_true c3
  clear c3
  replace H := Option.bind_eq_some_iff.mp H
  obtain ⟨t211, A40, H⟩ := H
  replace H : (if t211 = 0 then (none) else (some (wrap64 (Int.tdiv a0 t211), wrap64 (Int.tdiv a1 t211)))) = some (r1, r2) := H
  have A4 := Aside0.mk A40
  clear A40
  by_cases c5 : t211 = 0
  ·rw [if_pos c5] at H
   exact absurd H (by simp)
  ·rw [if_neg c5] at H
   have c5b0 : (t211 == 0) = false := beq_eq_false_iff_ne.mpr c5
   have c5b1 : (t211 != 0) = true := bne_iff_ne.mpr c5
   simp only [Option.some.injEq, Prod.mk.injEq] at H
   obtain ⟨rfl, rfl⟩ := H
   go_enter Try.func47, Try.ntmps47
   try go_wp2_with (first | ((with_reducible refine gate_dst (N := 4) rfl ?_); refine box_event ?hg (N := 4) ?hd (cs := #[.int .i64 0, .int .i64 0]) (t := 94) ?hr ?_; (case hd => rfl); (case hg => rfl); (case hr => first | (go_simp; done) | (go_simp; rfl)); intro gb210 hg w6 hbox hb; have n0_ := Aside0.mk (below_step (bb_ HB) hb); have n1_ := Aside0.mk (hbox); have n2_ := Aside0.mk ((by rw [hg]; exact (below_size (bb_ HB)) : w.heap.size ≤ gb210)); have n3_ := Aside0.mk ((by rw [hg]; exact (below_size (bb_ HB)) : w.heap.size ≤ gb210)); clear HB; have HB := n0_; have BK210 := n1_; have GW210 := n2_; have GE210 := n3_; clear n0_ n1_ n2_ n3_; clear hb hbox hg) | ((with_reducible refine gate_callee (f := 65) rfl ?_); refine gl_ (some 14) Try.func65 #[.int .i64 (wrap64 (-a0)), .int .i64 a1] ?_; (with_reducible refine (cohousingref05_gcd.calls k (wrap64 (-a0)) a1 t211 _ A4.out).mono ?_); rintro e w' ⟨rfl, ⟨nd, rfl⟩⟩; refine ⟨_, rfl, ?_⟩; (try (rw [drewN_self w6]; generalize hq_ : World.drewN w6 _ = w6; have n0_ : Aside0 (w6.heap[gb210]? = some (.cells #[.int .i64 0, .int .i64 0] 94 (0, 0))) := ⟨by rw [← hq_]; exact (kk_ BK210)⟩; have n1_ : Aside0 (Below w.heap.size w w6) := ⟨by rw [← hq_]; exact (bs_ HB GE210.out)⟩; clear BK210 HB hq_; have BK210 := n0_; have HB := n1_; clear n0_ n1_))))
   have n0_ := Aside0.mk (blk_drew BK210.out)
   have n1_ := Aside0.mk (below_drew1 HB.out)
   clear BK210
   clear HB
   have BK210 := n0_
   have HB := n1_
   clear n0_ n1_
   refine start_ (n := 8) (S := fun w' => True) (ds := []) #[n_, n_, n_, n_, n_, n_, n_, n_] (by kernel_rfl) rfl rfl trivial (fun hHeld => ?_); refine with_tabW cohousingref05_Reduce.tab5 cohousingref05_Reduce.bits5 (fun HT_ HW_ => ?_)
   generalize w6.drew = w7 at BK210 HB hHeld ⊢
   refine pu_ 0 15 (w_ 8 1) rfl HT_ ?_
   refine pu_ 1 16 (w_ 8 3) rfl HT_ ?_
   refine pu_ 2 17 (w_ 8 7) rfl HT_ ?_
   refine pu_ 3 18 (w_ 8 15) rfl HT_ ?_
   refine pu_ 4 19 (w_ 8 31) rfl HT_ ?_
   refine pu_ 5 20 (w_ 8 63) rfl HT_ ?_
   refine pu_ 6 21 (w_ 8 127) rfl HT_ ?_
   refine one_ (i := 7) (N := none) (w_ 8 255) rfl rfl (one_of HT_.out (by kernel_rfl)) (by decide) (fun K hK => ?_)
   have hs8 : w7.cell? ⟨gb210, 0, none⟩ = some (.int .i64 0) := (blk_cell BK210.out 0).trans rfl
   have hfs8 := blk_frozen BK210.out 0
   have hs9 : w7.cell? ⟨gb210, 1, none⟩ = some (.int .i64 0) := (blk_cell BK210.out 1).trans rfl
   have hfs9 := blk_frozen BK210.out 1
   refine skip_ (w1 := ?_) (by rfl) rfl ?_ ?_
   rotate_left
   ·go_simp
    rfl
   refine hK.out _ _ trivial (fun hHeld => ?_)
   clear hK K
   refine done_ (done_of HT_.out (by kernel_rfl)) ?_
   try go_wp2
   refine bodyPost_ret (results_cell_row rfl _ _ gb210 94 #[.int .i64 (wrap64 (Int.tdiv a0 t211)), .int .i64 (wrap64 (Int.tdiv a1 t211))] (0, 0) _ rfl (by (with_reducible repeat (first | refine blk_drewN ?_ _ | refine blk_drew ?_ | refine blk_alloc ?_ _)); refine blk_put (cs := #[.int .i64 (wrap64 (Int.tdiv a0 t211)), .int .i64 0]) ?_ 1 _ rfl; (with_reducible repeat (first | refine blk_drewN ?_ _ | refine blk_drew ?_ | refine blk_alloc ?_ _)); refine blk_put (cs := #[.int .i64 0, .int .i64 0]) ?_ 0 _ rfl; (with_reducible repeat (first | refine blk_drewN ?_ _ | refine blk_drew ?_ | refine blk_alloc ?_ _)); exact BK210.out) Try.underlying94 rfl (by kernel_rfl)) rfl ?_
   exact ⟨ew_, by repeat (first | (with_reducible first | exact HB.out | apply below_alloc | apply pw_below_drewN | apply below_drew1 | refine below_set ?_ GE210.out) | exact HB.out)⟩
 ·rw [if_neg c3] at H
  have c3b0 : decide (a0 < 0) = false := decide_eq_false c3
  clear c3
  replace H := Option.bind_eq_some_iff.mp H
  obtain ⟨t212, A100, H⟩ := H
  replace H : (if t212 = 0 then (none) else (some (wrap64 (Int.tdiv a0 t212), wrap64 (Int.tdiv a1 t212)))) = some (r1, r2) := H
  have A10 := Aside0.mk A100
  clear A100
  by_cases c11 : t212 = 0
  ·rw [if_pos c11] at H
   exact absurd H (by simp)
  ·rw [if_neg c11] at H
   have c11b0 : (t212 == 0) = false := beq_eq_false_iff_ne.mpr c11
   have c11b1 : (t212 != 0) = true := bne_iff_ne.mpr c11
   simp only [Option.some.injEq, Prod.mk.injEq] at H
   obtain ⟨rfl, rfl⟩ := H
   go_enter Try.func47, Try.ntmps47
   try go_wp2_with (first | ((with_reducible refine gate_dst (N := 4) rfl ?_); refine box_event ?hg (N := 4) ?hd (cs := #[.int .i64 0, .int .i64 0]) (t := 94) ?hr ?_; (case hd => rfl); (case hg => rfl); (case hr => first | (go_simp; done) | (go_simp; rfl)); intro gb210 hg w12 hbox hb; have n0_ := Aside0.mk (below_step (bb_ HB) hb); have n1_ := Aside0.mk (hbox); have n2_ := Aside0.mk ((by rw [hg]; exact (below_size (bb_ HB)) : w.heap.size ≤ gb210)); have n3_ := Aside0.mk ((by rw [hg]; exact (below_size (bb_ HB)) : w.heap.size ≤ gb210)); clear HB; have HB := n0_; have BK210 := n1_; have GW210 := n2_; have GE210 := n3_; clear n0_ n1_ n2_ n3_; clear hb hbox hg) | ((with_reducible refine gate_callee (f := 65) rfl ?_); refine gl_ (some 14) Try.func65 #[.int .i64 a0, .int .i64 a1] ?_; (with_reducible refine (cohousingref05_gcd.calls k a0 a1 t212 _ A10.out).mono ?_); rintro e w' ⟨rfl, ⟨nd, rfl⟩⟩; refine ⟨_, rfl, ?_⟩; (try (rw [drewN_self w12]; generalize hq_ : World.drewN w12 _ = w12; have n0_ : Aside0 (w12.heap[gb210]? = some (.cells #[.int .i64 0, .int .i64 0] 94 (0, 0))) := ⟨by rw [← hq_]; exact (kk_ BK210)⟩; have n1_ : Aside0 (Below w.heap.size w w12) := ⟨by rw [← hq_]; exact (bs_ HB GE210.out)⟩; clear BK210 HB hq_; have BK210 := n0_; have HB := n1_; clear n0_ n1_))))
   have n0_ := Aside0.mk (blk_drew BK210.out)
   have n1_ := Aside0.mk (below_drew1 HB.out)
   clear BK210
   clear HB
   have BK210 := n0_
   have HB := n1_
   clear n0_ n1_
   refine start_ (n := 8) (S := fun w' => True) (ds := []) #[n_, n_, n_, n_, n_, n_, n_, n_] (by kernel_rfl) rfl rfl trivial (fun hHeld => ?_); refine with_tabW cohousingref05_Reduce.tab5 cohousingref05_Reduce.bits5 (fun HT_ HW_ => ?_)
   generalize w12.drew = w13 at BK210 HB hHeld ⊢
   refine pu_ 0 15 (w_ 8 1) rfl HT_ ?_
   refine pu_ 1 16 (w_ 8 3) rfl HT_ ?_
   refine pu_ 2 17 (w_ 8 7) rfl HT_ ?_
   refine pu_ 3 18 (w_ 8 15) rfl HT_ ?_
   refine pu_ 4 19 (w_ 8 31) rfl HT_ ?_
   refine pu_ 5 20 (w_ 8 63) rfl HT_ ?_
   refine pu_ 6 21 (w_ 8 127) rfl HT_ ?_
   refine one_ (i := 7) (N := none) (w_ 8 255) rfl rfl (one_of HT_.out (by kernel_rfl)) (by decide) (fun K hK => ?_)
   have hs14 : w13.cell? ⟨gb210, 0, none⟩ = some (.int .i64 0) := (blk_cell BK210.out 0).trans rfl
   have hfs14 := blk_frozen BK210.out 0
   have hs15 : w13.cell? ⟨gb210, 1, none⟩ = some (.int .i64 0) := (blk_cell BK210.out 1).trans rfl
   have hfs15 := blk_frozen BK210.out 1
   refine skip_ (w1 := ?_) (by rfl) rfl ?_ ?_
   rotate_left
   ·go_simp
    rfl
   refine hK.out _ _ trivial (fun hHeld => ?_)
   clear hK K
   refine done_ (done_of HT_.out (by kernel_rfl)) ?_
   try go_wp2
   refine bodyPost_ret (results_cell_row rfl _ _ gb210 94 #[.int .i64 (wrap64 (Int.tdiv a0 t212)), .int .i64 (wrap64 (Int.tdiv a1 t212))] (0, 0) _ rfl (by (with_reducible repeat (first | refine blk_drewN ?_ _ | refine blk_drew ?_ | refine blk_alloc ?_ _)); refine blk_put (cs := #[.int .i64 (wrap64 (Int.tdiv a0 t212)), .int .i64 0]) ?_ 1 _ rfl; (with_reducible repeat (first | refine blk_drewN ?_ _ | refine blk_drew ?_ | refine blk_alloc ?_ _)); refine blk_put (cs := #[.int .i64 0, .int .i64 0]) ?_ 0 _ rfl; (with_reducible repeat (first | refine blk_drewN ?_ _ | refine blk_drew ?_ | refine blk_alloc ?_ _)); exact BK210.out) Try.underlying94 rfl (by kernel_rfl)) rfl ?_
   exact ⟨ew_, by repeat (first | (with_reducible first | exact HB.out | apply below_alloc | apply pw_below_drewN | apply below_drew1 | refine below_set ?_ GE210.out) | exact HB.out)⟩
end
section
def cohousingref29_Right.f (k : Nat) (a0 : Int) (a1 : Int) (a2 : Int) : Option (Int) := (cohousingref05_Reduce.f k a2 a1).bind fun bt213 => ((cohousingref02_Scale.f k a0 bt213.1 bt213.2).bind fun bt215 => (some bt215.1))
theorem cohousingref29_Right.calls (k : Nat) (a0 : Int) (a1 : Int) (a2 : Int) (r : Int) (w : World) (h : cohousingref29_Right.f k a0 a1 a2 = some r) :
  Calls Try.prog 24 #[.int .i64 a0, .int .i64 a1, .int .i64 a2] w fun e w' => e = .returned (.int .i64 r) ∧ Below w.heap.size w w' := by
 have HB := Aside0.mk (Below.refl w.heap.size w)
 have H : ((cohousingref05_Reduce.f k a2 a1).bind fun bt213 => ((cohousingref02_Scale.f k a0 bt213.1 bt213.2).bind fun bt215 => (some bt215.1))) = some r := h
 clear h
 replace H := Option.bind_eq_some_iff.mp H
 obtain ⟨⟨t213, t214⟩, A40, H⟩ := H
 replace H : ((cohousingref02_Scale.f k a0 t213 t214).bind fun bt215 => (some bt215.1)) = some r := H
 have A4 := Aside0.mk A40
 clear A40
 replace H := Option.bind_eq_some_iff.mp H
 obtain ⟨⟨t215, t216⟩, A50, H⟩ := H
 replace H : (some t215) = some r := H
 have A5 := Aside0.mk A50
 clear A50
 obtain rfl := Option.some.inj H
 go_enter Try.func24, Try.ntmps24
 go_wp2_with (first | ((with_reducible refine gate_callee (f := 47) rfl ?_); refine gl_ (some 13) Try.func47 #[.int .i64 a2, .int .i64 a1] ?_; (with_reducible refine (cohousingref05_Reduce.calls k a2 a1 t213 t214 _ A4.out).mono ?_); rintro e w6 ⟨rfl, hb⟩; refine ⟨_, rfl, ?_⟩; have n0_ := Aside0.mk (below_step (bb_ HB) hb); clear HB; have HB := n0_; clear n0_; (try clear hb); (try clear hb2); (try clear hk); (try clear hi)) | ((with_reducible refine gate_callee (f := 46) rfl ?_); refine gl_ (some 14) Try.func46 #[.int .i64 a0, .agg #[.int .i64 t213, .int .i64 t214]] ?_; (with_reducible refine (cohousingref02_Scale.calls k a0 t213 t214 t215 t216 _ A5.out).mono ?_); rintro e w7 ⟨rfl, hb⟩; refine ⟨_, rfl, ?_⟩; have n0_ := Aside0.mk (below_step (bb_ HB) hb); clear HB; have HB := n0_; clear n0_; (try clear hb); (try clear hb2); (try clear hk); (try clear hi)))
 go_ret
 exact ⟨ew_, by repeat (first | (with_reducible first | exact HB.out | apply below_alloc | apply pw_below_drewN | apply below_drew1) | exact HB.out)⟩
end
section
def cohousingref29_Root.l0 : Nat → List (S63) → Int → Int → Option (Int)
 | 0, _, _, _ => none
 | k + 1, x0, x3, x4 => if x4 < (x0.length : Int) then (if 0 ≤ x4 then (if ((rd_T63 x0 x4).f1) = 0 then (if x3 ≥ 0 then (some (-1)) else (cohousingref29_Root.l0 k x0 x4 (wrap64 (x4 + 1)))) else (cohousingref29_Root.l0 k x0 x3 (wrap64 (x4 + 1)))) else (none)) else (some x3)
def cohousingref29_Root.f (k : Nat) (l0 : List (S63)) : Option (Int) := cohousingref29_Root.l0 k l0 (-1) 0
theorem cohousingref29_Root.calls (k : Nat) (A0 : Option Addr) (c0 : Nat) (l0 : List (S63)) (r : Int) (w : World) (hr0 : Kd.C k63 w A0 l0.length l0) (hc0 : l0.length ≤ c0) (h : cohousingref29_Root.f k l0 = some r) :
  Calls Try.prog 22 #[.slice A0 l0.length c0] w fun e w' => e = .returned (.int .i64 r) ∧ Drawn0 w w' := by
 have HR0 := Aside0.mk hr0
 have HC0 := Aside0.mk hc0
 clear hr0 hc0
 have H : (cohousingref29_Root.l0 k l0 (-1) 0) = some r := h
 clear h
 have H' := Aside0.mk H
 clear H
 go_enter Try.func22, Try.ntmps22
 go_wp2
 go_loopg [3, 4] k (fun kq v3 v4 w' => ∃ (x3_1 : Int) (x4_1 : Int), v3 = .int .i64 x3_1 ∧ v4 = .int .i64 x4_1 ∧ Aside0 (cohousingref29_Root.l0 kq l0 x3_1 x4_1 = some r) ∧ Aside0 (kq ≤ k) ∧ Drawn0 w w')
 case atStart => exact ⟨((-1)), (0), sd_, sd_, H', ⟨Nat.le_refl _⟩, by repeat (first | exact Drawn0.refl _ | apply Drawn0.step)⟩
 case round =>
  clear H'
  obtain ⟨x3_1, x4_1, rfl, rfl, HA, HK1, ⟨m1, rfl⟩⟩ := hrel
  cases gk with
  | zero => exact absurd HA.out (by simp [cohousingref29_Root.l0])
  | succ k1 =>
   have H := HA.out
   clear HA
   simp only [cohousingref29_Root.l0] at H
   by_cases c2 : x4_1 < (l0.length : Int)
   ·rw [if_pos c2] at H
    have c2b0 : decide (x4_1 < (l0.length : Int)) = true := decide_eq_true c2
    clear c2
    by_cases c3 : 0 ≤ x4_1
    ·rw [if_pos c3] at H
     have c3b0 : decide (0 ≤ x4_1) = true := decide_eq_true c3
     clear c3
     by_cases c4 : ((rd_T63 l0 x4_1).f1) = 0
     ·rw [if_pos c4] at H
      have c4b0 : (((rd_T63 l0 x4_1).f1) == 0) = true := beq_iff_eq.mpr c4
      have c4b1 : (((rd_T63 l0 x4_1).f1) != 0) = false := bne_eq_false_iff_eq.mpr c4
      clear c4
      by_cases c5 : x3_1 ≥ 0
      ·rw [if_pos c5] at H
       have c5b0 : decide (0 ≤ x3_1) = true := decide_eq_true c5
       clear c5
       obtain rfl := Option.some.inj H
       have p252 : 0 ≤ (x4_1 : Int) := od_
       have q252 : x4_1 < (l0.length : Int) := od_
       obtain ⟨ad252, e252, hx252_0, hx252_1, hx252_2⟩ := at_T63 HR0.out x4_1 p252 q252
       cases e252
       replace p252 := eq_true p252
       replace q252 := eq_true q252
       go_wp2
       go_ret
       exact ⟨by first | rfl | (simp; done) | (simp [*]; done), by repeat (first | exact Drawn0.refl _ | apply Drawn0.step)⟩
      ·rw [if_neg c5] at H
       have c5b0 : decide (0 ≤ x3_1) = false := decide_eq_false c5
       clear c5
       have H' := Aside0.mk H
       clear H
       have p252 : 0 ≤ (x4_1 : Int) := od_
       have q252 : x4_1 < (l0.length : Int) := od_
       obtain ⟨ad252, e252, hx252_0, hx252_1, hx252_2⟩ := at_T63 HR0.out x4_1 p252 q252
       cases e252
       replace p252 := eq_true p252
       replace q252 := eq_true q252
       go_wp2
       go_roundg k1
       case measure => have := HK1.out; omega
       case rel => exact ⟨(x4_1), (wrap64 (x4_1 + 1)), sd_, sd_, H', ⟨by have := HK1.out; omega⟩, by repeat (first | exact Drawn0.refl _ | apply Drawn0.step)⟩
     ·rw [if_neg c4] at H
      have c4b0 : (((rd_T63 l0 x4_1).f1) == 0) = false := beq_eq_false_iff_ne.mpr c4
      have c4b1 : (((rd_T63 l0 x4_1).f1) != 0) = true := bne_iff_ne.mpr c4
      have H' := Aside0.mk H
      clear H
      have p252 : 0 ≤ (x4_1 : Int) := od_
      have q252 : x4_1 < (l0.length : Int) := od_
      obtain ⟨ad252, e252, hx252_0, hx252_1, hx252_2⟩ := at_T63 HR0.out x4_1 p252 q252
      cases e252
      replace p252 := eq_true p252
      replace q252 := eq_true q252
      go_wp2
      go_roundg k1
      case measure => have := HK1.out; omega
      case rel => exact ⟨(x3_1), (wrap64 (x4_1 + 1)), sd_, sd_, H', ⟨by have := HK1.out; omega⟩, by repeat (first | exact Drawn0.refl _ | apply Drawn0.step)⟩
    ·rw [if_neg c3] at H
     exact absurd H (by simp)
   ·rw [if_neg c2] at H
    have c2b0 : decide (x4_1 < (l0.length : Int)) = false := decide_eq_false c2
    clear c2
    obtain rfl := Option.some.inj H
    go_wp2
    go_ret
    exact ⟨by first | rfl | (simp; done) | (simp [*]; done), by repeat (first | exact Drawn0.refl _ | apply Drawn0.step)⟩
end
section
def cohousingref28_below.l0 : Nat → List (S63) → Int → List Int → Int → Option (List Int)
 | 0, _, _, _, _ => none
 | k + 1, x0, x1, x5, x6 => if x6 < (x0.length : Int) then (if 0 ≤ x6 then (if 0 ≤ x1 then (if x1 < (x0.length : Int) then (if ((rd_T63 x0 x6).f1) = ((rd_T63 x0 x1).f0) then (if x5.length < 17592186044416 then (cohousingref28_below.l0 k x0 x1 (x5 ++ [x6]) (wrap64 (x6 + 1))) else (none)) else (cohousingref28_below.l0 k x0 x1 x5 (wrap64 (x6 + 1)))) else (none)) else (none)) else (none)) else (some x5)
def cohousingref28_below.f (k : Nat) (l0 : List (S63)) (a1 : Int) : Option (List Int) := cohousingref28_below.l0 k l0 a1 ([] : List Int) (wrap64 (a1 + 1))
theorem cohousingref28_below.calls (k : Nat) (A0 : Option Addr) (c0 : Nat) (l0 : List (S63)) (a1 : Int) (r : List Int) (w : World) (hr0 : Kd.C k63 w A0 l0.length l0) (hc0 : l0.length ≤ c0) (h : cohousingref28_below.f k l0 a1 = some r) :
  Calls Try.prog 62 #[.slice A0 l0.length c0, .int .i64 a1] w fun e w' => ∃ v0_ : Value, e = .returned (v0_) ∧ Kd.R (Kd.int .i64) 3 w' w.heap.size (fun _ => True) v0_ r ∧ Below w.heap.size w w' := by
 have HR0 := Aside0.mk hr0
 have HC0 := Aside0.mk hc0
 clear hr0 hc0
 have HB := Aside0.mk (Below.refl w.heap.size w)
 have H : (cohousingref28_below.l0 k l0 a1 ([] : List Int) (wrap64 (a1 + 1))) = some r := h
 clear h
 have H' := Aside0.mk H
 clear H
 go_enter Try.func62, Try.ntmps62
 go_wp2
 repeat (go_quiet (fail); try go_wp2)
 go_loopg [5, 6] k (fun kq v5 v6 w' => ∃ (x5_1 : List Int) (x6_1 : Int), v6 = .int .i64 x6_1 ∧ Aside0 (cohousingref28_below.l0 kq l0 a1 x5_1 x6_1 = some r) ∧ Aside0 (kq ≤ k) ∧ Aside0 (Kd.R (Kd.int .i64) 3 w' w.heap.size (fun _ => True) v5 x5_1) ∧ Aside0 (Below w.heap.size w w'))
 case atStart => exact ⟨(([] : List Int)), (wrap64 (a1 + 1)), sd_, H', ⟨Nat.le_refl _⟩, ⟨by first | exact Kd.R_nil _ _ _ _ _ | exact Kd.N_nil _ _ _ _ _ | exact Kd.V_nil _ _ _ _ _ | exact Kd.Q_nil _ _ _ _ _ | exact Kd.S_nil _ _ _ _ _⟩, ⟨by repeat (first | (with_reducible first | exact HB.out | apply below_alloc | apply pw_below_drewN | apply below_drew1) | exact HB.out)⟩⟩
 case round =>
  clear H'
  try clear p2
  obtain ⟨x5_1, x6_1, rfl, HA, HK1, HO_5, HB⟩ := hrel
  cases gk with
  | zero => exact absurd HA.out (by simp [cohousingref28_below.l0])
  | succ k1 =>
   have H := HA.out
   clear HA
   simp only [cohousingref28_below.l0] at H
   by_cases c3 : x6_1 < (l0.length : Int)
   ·rw [if_pos c3] at H
    have c3b0 : decide (x6_1 < (l0.length : Int)) = true := decide_eq_true c3
    clear c3
    by_cases c4 : 0 ≤ x6_1
    ·rw [if_pos c4] at H
     have c4b0 : decide (0 ≤ x6_1) = true := decide_eq_true c4
     clear c4
     by_cases c5 : 0 ≤ a1
     ·rw [if_pos c5] at H
      have c5b0 : decide (0 ≤ a1) = true := decide_eq_true c5
      clear c5
      by_cases c6 : a1 < (l0.length : Int)
      ·rw [if_pos c6] at H
       have c6b0 : decide (a1 < (l0.length : Int)) = true := decide_eq_true c6
       clear c6
       by_cases c7 : ((rd_T63 l0 x6_1).f1) = ((rd_T63 l0 a1).f0)
       ·rw [if_pos c7] at H
        have c7b0 : (((rd_T63 l0 x6_1).f1) == ((rd_T63 l0 a1).f0)) = true := beq_iff_eq.mpr c7
        have c7b1 : (((rd_T63 l0 x6_1).f1) != ((rd_T63 l0 a1).f0)) = false := bne_eq_false_iff_eq.mpr c7
        clear c7
        by_cases c8 : x5_1.length < 17592186044416
        ·rw [if_pos c8] at H
         have LMc8 := Aside0.mk c8
         clear c8
         obtain ⟨y255, hy255⟩ : ∃ y_ : List Int, y_ = (x5_1 ++ [x6_1]) := ⟨_, rfl⟩
         replace H : (cohousingref28_below.l0 k1 l0 a1 y255 (wrap64 (x6_1 + 1))) = some r := by first | (rw [hy255]; with_reducible exact H) | (have H2_ := (Option.bind_some _ _).symm.trans H; rw [hy255]; with_reducible exact H2_) | (have H2_ := (Option.bind_some _ _).symm.trans H; with_reducible exact H2_) | with_reducible exact H | (rw [hy255]; exact H) | exact H
         have Ny255 := Aside0.mk hy255
         clear hy255
         have H' := Aside0.mk H
         clear H
         have p253 : 0 ≤ (x6_1 : Int) := od_
         have q253 : x6_1 < (l0.length : Int) := od_
         obtain ⟨ad253, e253, hx253_0, hx253_1, hx253_2⟩ := at_T63 HR0.out x6_1 p253 q253
         cases e253
         replace hx253_0 := (HB.out.cell (World.block_lt_of_cell? w _ hx253_0)).trans hx253_0
         replace hx253_1 := (HB.out.cell (World.block_lt_of_cell? w _ hx253_1)).trans hx253_1
         replace hx253_2 := (HB.out.cell (World.block_lt_of_cell? w _ hx253_2)).trans hx253_2
         replace p253 := eq_true p253
         replace q253 := eq_true q253
         have p254 : 0 ≤ (a1 : Int) := od_
         have q254 : a1 < (l0.length : Int) := od_
         obtain ⟨ad254, e254, hx254_0, hx254_1, hx254_2⟩ := at_T63 HR0.out a1 p254 q254
         obtain rfl : ad253 = ad254 := (by injection e254)
         replace hx254_0 := (HB.out.cell (World.block_lt_of_cell? w _ hx254_0)).trans hx254_0
         replace hx254_1 := (HB.out.cell (World.block_lt_of_cell? w _ hx254_1)).trans hx254_1
         replace hx254_2 := (HB.out.cell (World.block_lt_of_cell? w _ hx254_2)).trans hx254_2
         replace p254 := eq_true p254
         replace q254 := eq_true q254
         go_wp2_with (first | ((with_reducible refine gate_builtin (b := .append) (xs := #[.tmp 26, .tmp 28]) rfl ?_); at_builtin; refine Kd.R_append (Kd.int .i64) (w0 := w) w.heap.size rfl (.tmp 26) (.tmp 28) 22 3 (.int .i64 0) 8 rfl Try.underlying22 info3 rfl (by decide) (by omega) u5 x5_1 x6_1 [.int .i64 x6_1] (fun _ => True) (fun _ => False) rfl rfl ?aP (fun _ hk => hk.elim) ?aF ?aO ?aB ?aS ?aL ?_; (case aP => exact rfl); (case aB => exact (bb_ HB)); (case aF => exact (fun _ _ => trivial)); (case aO => exact (rr_ HO_5)); (case aS => exact (below_size (bb_ HB))); (case aL => have := LMc8.out; omega); intro v256 w9 ho hb hg hat; rw [← Ny255.out] at ho; have n0_ := Aside0.mk (hb); have n1_ := Aside0.mk (ho); clear HB; clear HO_5; have HB := n0_; have HO257 := n1_; clear n0_ n1_; clear ho hb hg hat))
         repeat (go_quiet (first | ((with_reducible refine gate_builtin (b := .append) (xs := #[.tmp 26, .tmp 28]) rfl ?_); at_builtin; refine Kd.R_append (Kd.int .i64) (w0 := w) w.heap.size rfl (.tmp 26) (.tmp 28) 22 3 (.int .i64 0) 8 rfl Try.underlying22 info3 rfl (by decide) (by omega) u5 x5_1 x6_1 [.int .i64 x6_1] (fun _ => True) (fun _ => False) rfl rfl ?aP (fun _ hk => hk.elim) ?aF ?aO ?aB ?aS ?aL ?_; (case aP => exact rfl); (case aB => exact (bb_ HB)); (case aF => exact (fun _ _ => trivial)); (case aO => exact (rr_ HO_5)); (case aS => exact (below_size (bb_ HB))); (case aL => have := LMc8.out; omega); intro v256 w9 ho hb hg hat; rw [← Ny255.out] at ho; have n0_ := Aside0.mk (hb); have n1_ := Aside0.mk (ho); clear HB; clear HO_5; have HB := n0_; have HO257 := n1_; clear n0_ n1_; clear ho hb hg hat)); try go_wp2_with (first | ((with_reducible refine gate_builtin (b := .append) (xs := #[.tmp 26, .tmp 28]) rfl ?_); at_builtin; refine Kd.R_append (Kd.int .i64) (w0 := w) w.heap.size rfl (.tmp 26) (.tmp 28) 22 3 (.int .i64 0) 8 rfl Try.underlying22 info3 rfl (by decide) (by omega) u5 x5_1 x6_1 [.int .i64 x6_1] (fun _ => True) (fun _ => False) rfl rfl ?aP (fun _ hk => hk.elim) ?aF ?aO ?aB ?aS ?aL ?_; (case aP => exact rfl); (case aB => exact (bb_ HB)); (case aF => exact (fun _ _ => trivial)); (case aO => exact (rr_ HO_5)); (case aS => exact (below_size (bb_ HB))); (case aL => have := LMc8.out; omega); intro v256 w9 ho hb hg hat; rw [← Ny255.out] at ho; have n0_ := Aside0.mk (hb); have n1_ := Aside0.mk (ho); clear HB; clear HO_5; have HB := n0_; have HO257 := n1_; clear n0_ n1_; clear ho hb hg hat)))
         go_roundg k1
         case measure => have := HK1.out; omega
         case rel => exact ⟨(y255), (wrap64 (x6_1 + 1)), sd_, H', ⟨by have := HK1.out; omega⟩, ⟨by (with_reducible repeat (first | apply Kd.R_alloc | apply Kd.R_drewN | apply Kd.R_drew)); exact HO257.out⟩, ⟨by repeat (first | (with_reducible first | exact HB.out | apply below_alloc | apply pw_below_drewN | apply below_drew1) | exact HB.out)⟩⟩
        ·rw [if_neg c8] at H
         exact absurd H (by simp)
       ·rw [if_neg c7] at H
        have c7b0 : (((rd_T63 l0 x6_1).f1) == ((rd_T63 l0 a1).f0)) = false := beq_eq_false_iff_ne.mpr c7
        have c7b1 : (((rd_T63 l0 x6_1).f1) != ((rd_T63 l0 a1).f0)) = true := bne_iff_ne.mpr c7
        have H' := Aside0.mk H
        clear H
        have p253 : 0 ≤ (x6_1 : Int) := od_
        have q253 : x6_1 < (l0.length : Int) := od_
        obtain ⟨ad253, e253, hx253_0, hx253_1, hx253_2⟩ := at_T63 HR0.out x6_1 p253 q253
        cases e253
        replace hx253_0 := (HB.out.cell (World.block_lt_of_cell? w _ hx253_0)).trans hx253_0
        replace hx253_1 := (HB.out.cell (World.block_lt_of_cell? w _ hx253_1)).trans hx253_1
        replace hx253_2 := (HB.out.cell (World.block_lt_of_cell? w _ hx253_2)).trans hx253_2
        replace p253 := eq_true p253
        replace q253 := eq_true q253
        have p254 : 0 ≤ (a1 : Int) := od_
        have q254 : a1 < (l0.length : Int) := od_
        obtain ⟨ad254, e254, hx254_0, hx254_1, hx254_2⟩ := at_T63 HR0.out a1 p254 q254
        obtain rfl : ad253 = ad254 := (by injection e254)
        replace hx254_0 := (HB.out.cell (World.block_lt_of_cell? w _ hx254_0)).trans hx254_0
        replace hx254_1 := (HB.out.cell (World.block_lt_of_cell? w _ hx254_1)).trans hx254_1
        replace hx254_2 := (HB.out.cell (World.block_lt_of_cell? w _ hx254_2)).trans hx254_2
        replace p254 := eq_true p254
        replace q254 := eq_true q254
        go_wp2
        repeat (go_quiet (fail); try go_wp2)
        go_roundg k1
        case measure => have := HK1.out; omega
        case rel => exact ⟨(x5_1), (wrap64 (x6_1 + 1)), sd_, H', ⟨by have := HK1.out; omega⟩, ⟨by (with_reducible repeat (first | apply Kd.R_alloc | apply Kd.R_drewN | apply Kd.R_drew)); exact HO_5.out⟩, ⟨by repeat (first | (with_reducible first | exact HB.out | apply below_alloc | apply pw_below_drewN | apply below_drew1) | exact HB.out)⟩⟩
      ·rw [if_neg c6] at H
       exact absurd H (by simp)
     ·rw [if_neg c5] at H
      exact absurd H (by simp)
    ·rw [if_neg c4] at H
     exact absurd H (by simp)
   ·rw [if_neg c3] at H
    have c3b0 : decide (x6_1 < (l0.length : Int)) = false := decide_eq_false c3
    clear c3
    obtain rfl := Option.some.inj H
    go_wp2
    repeat (go_quiet (fail); try go_wp2)
    go_ret
    exact ⟨_, ew_, by (with_reducible repeat (first | apply Kd.R_alloc | apply Kd.R_drewN | apply Kd.R_drew)); exact HO_5.out, by repeat (first | (with_reducible first | exact HB.out | apply below_alloc | apply pw_below_drewN | apply below_drew1) | exact HB.out)⟩
end
section
def cohousingref28_Leaf.f (k : Nat) (l0 : List (S63)) (a1 : Int) : Option (Bool) := (cohousingref28_below.f k l0 a1).bind fun t258 => (some ((t258.length : Int) == 0))
theorem cohousingref28_Leaf.calls (k : Nat) (A0 : Option Addr) (c0 : Nat) (l0 : List (S63)) (a1 : Int) (r : Bool) (w : World) (hr0 : Kd.C k63 w A0 l0.length l0) (hc0 : l0.length ≤ c0) (h : cohousingref28_Leaf.f k l0 a1 = some r) :
  Calls Try.prog 45 #[.slice A0 l0.length c0, .int .i64 a1] w fun e w' => e = .returned (.bool r) ∧ Below w.heap.size w w' := by
 have HR0 := Aside0.mk hr0
 have HC0 := Aside0.mk hc0
 clear hr0 hc0
 have HB := Aside0.mk (Below.refl w.heap.size w)
 have H : ((cohousingref28_below.f k l0 a1).bind fun t258 => (some ((t258.length : Int) == 0))) = some r := h
 clear h
 replace H := Option.bind_eq_some_iff.mp H
 obtain ⟨t258, A30, H⟩ := H
 replace H : (some ((t258.length : Int) == 0)) = some r := H
 have A3 := Aside0.mk A30
 clear A30
 obtain rfl := Option.some.inj H
 go_enter Try.func45, Try.ntmps45
 go_wp2_with (first | ((with_reducible refine gate_callee (f := 62) rfl ?_); refine gl_ (some 7) Try.func62 #[.slice A0 l0.length c0, .int .i64 a1] ?_; (with_reducible refine (cohousingref28_below.calls k _ _ l0 a1 t258 _ ?side1 ?side2 A3.out).mono ?_); (case side1 => exact cc_ (HR0.out)); (case side2 => exact HC0.out); rintro e w4 ⟨v259, rfl, ho0, hb⟩; refine ⟨_, rfl, ?_⟩; have n0_ := Aside0.mk (Kd.R_lower ho0 (below_size (bb_ HB))); have n1_ := Aside0.mk (below_step (bb_ HB) hb); clear HB; have HO260 := n0_; have HB := n1_; clear n0_ n1_; (try clear hb); (try clear hb2); (try clear hk); (try clear hi); (try clear ho0); obtain ⟨Ao5, co5, eo5⟩ := Kd.R_slice HO260.out; subst eo5))
 go_ret
 exact ⟨ew_, by repeat (first | (with_reducible first | exact HB.out | apply below_alloc | apply pw_below_drewN | apply below_drew1) | exact HB.out)⟩
end
section
def cohousingref29_Leaves.l0 : Nat → List (S63) → List Int → Int → Option (List Int)
 | 0, _, _, _ => none
 | k + 1, x0, x3, x4 => if x4 < (x0.length : Int) then ((cohousingref28_Leaf.f k x0 x4).bind fun t261 => (if t261 = true then (if x3.length < 17592186044416 then (cohousingref29_Leaves.l0 k x0 (x3 ++ [x4]) (wrap64 (x4 + 1))) else (none)) else (cohousingref29_Leaves.l0 k x0 x3 (wrap64 (x4 + 1))))) else (some x3)
def cohousingref29_Leaves.f (k : Nat) (l0 : List (S63)) : Option (List Int) := cohousingref29_Leaves.l0 k l0 ([] : List Int) 0
theorem cohousingref29_Leaves.calls (k : Nat) (A0 : Option Addr) (c0 : Nat) (l0 : List (S63)) (r : List Int) (w : World) (hr0 : Kd.C k63 w A0 l0.length l0) (hc0 : l0.length ≤ c0) (h : cohousingref29_Leaves.f k l0 = some r) :
  Calls Try.prog 23 #[.slice A0 l0.length c0] w fun e w' => ∃ v0_ : Value, e = .returned (v0_) ∧ Kd.R (Kd.int .i64) 3 w' w.heap.size (fun _ => True) v0_ r ∧ Below w.heap.size w w' := by
 have HR0 := Aside0.mk hr0
 have HC0 := Aside0.mk hc0
 clear hr0 hc0
 have HB := Aside0.mk (Below.refl w.heap.size w)
 have H : (cohousingref29_Leaves.l0 k l0 ([] : List Int) 0) = some r := h
 clear h
 have H' := Aside0.mk H
 clear H
 go_enter Try.func23, Try.ntmps23
 go_wp2
 go_loopg [3, 4] k (fun kq v3 v4 w' => ∃ (x3_1 : List Int) (x4_1 : Int), v4 = .int .i64 x4_1 ∧ Aside0 (cohousingref29_Leaves.l0 kq l0 x3_1 x4_1 = some r) ∧ Aside0 (kq ≤ k) ∧ Aside0 (Kd.R (Kd.int .i64) 3 w' w.heap.size (fun _ => True) v3 x3_1) ∧ Aside0 (Below w.heap.size w w'))
 case atStart => exact ⟨(([] : List Int)), (0), sd_, H', ⟨Nat.le_refl _⟩, ⟨by first | exact Kd.R_nil _ _ _ _ _ | exact Kd.N_nil _ _ _ _ _ | exact Kd.V_nil _ _ _ _ _ | exact Kd.Q_nil _ _ _ _ _ | exact Kd.S_nil _ _ _ _ _⟩, ⟨by repeat (first | (with_reducible first | exact HB.out | apply below_alloc | apply pw_below_drewN | apply below_drew1) | exact HB.out)⟩⟩
 case round =>
  clear H'
  obtain ⟨x3_1, x4_1, rfl, HA, HK1, HO_3, HB⟩ := hrel
  cases gk with
  | zero => exact absurd HA.out (by simp [cohousingref29_Leaves.l0])
  | succ k1 =>
   have H := HA.out
   clear HA
   simp only [cohousingref29_Leaves.l0] at H
   by_cases c2 : x4_1 < (l0.length : Int)
   ·rw [if_pos c2] at H
    have c2b0 : decide (x4_1 < (l0.length : Int)) = true := decide_eq_true c2
    clear c2
    replace H := Option.bind_eq_some_iff.mp H
    obtain ⟨t261, A30, H⟩ := H
    replace H : (if t261 = true then (if x3_1.length < 17592186044416 then (cohousingref29_Leaves.l0 k1 l0 (x3_1 ++ [x4_1]) (wrap64 (x4_1 + 1))) else (none)) else (cohousingref29_Leaves.l0 k1 l0 x3_1 (wrap64 (x4_1 + 1)))) = some r := H
    have A3 := Aside0.mk A30
    clear A30
    by_cases c4 : t261 = true
    ·subst c4
     have H1 : (if x3_1.length < 17592186044416 then (cohousingref29_Leaves.l0 k1 l0 (x3_1 ++ [x4_1]) (wrap64 (x4_1 + 1))) else (none)) = some r := by rw [if_pos rfl] at H; exact H
     clear H
     have H := H1
     clear H1
     by_cases c5 : x3_1.length < 17592186044416
     ·rw [if_pos c5] at H
      have LMc5 := Aside0.mk c5
      clear c5
      obtain ⟨y262, hy262⟩ : ∃ y_ : List Int, y_ = (x3_1 ++ [x4_1]) := ⟨_, rfl⟩
      replace H : (cohousingref29_Leaves.l0 k1 l0 y262 (wrap64 (x4_1 + 1))) = some r := by first | (rw [hy262]; with_reducible exact H) | (have H2_ := (Option.bind_some _ _).symm.trans H; rw [hy262]; with_reducible exact H2_) | (have H2_ := (Option.bind_some _ _).symm.trans H; with_reducible exact H2_) | with_reducible exact H | (rw [hy262]; exact H) | exact H
      have Ny262 := Aside0.mk hy262
      clear hy262
      have H' := Aside0.mk H
      clear H
      go_wp2_with (first | ((with_reducible refine gate_callee (f := 45) rfl ?_); refine gl_ (some 14) Try.func45 #[.slice A0 l0.length c0, .int .i64 x4_1] ?_; (with_reducible refine (cohousingref28_Leaf.calls k1 _ _ l0 x4_1 true _ ?side1 ?side2 A3.out).mono ?_); (case side1 => exact cc_ ((Kd.C_below HR0.out HB.out))); (case side2 => exact HC0.out); rintro e w6 ⟨rfl, hb⟩; refine ⟨_, rfl, ?_⟩; have n0_ := Aside0.mk (Kd.R_below (rr_ HO_3) hb); have n1_ := Aside0.mk (below_step (bb_ HB) hb); clear HO_3; clear HB; have HO_3 := n0_; have HB := n1_; clear n0_ n1_; (try clear hb); (try clear hb2); (try clear hk); (try clear hi)) | ((with_reducible refine gate_builtin (b := .append) (xs := #[.tmp 16, .tmp 18]) rfl ?_); at_builtin; refine Kd.R_append (Kd.int .i64) (w0 := w) w.heap.size rfl (.tmp 16) (.tmp 18) 22 3 (.int .i64 0) 8 rfl Try.underlying22 info3 rfl (by decide) (by omega) u3 x3_1 x4_1 [.int .i64 x4_1] (fun _ => True) (fun _ => False) rfl rfl ?aP (fun _ hk => hk.elim) ?aF ?aO ?aB ?aS ?aL ?_; (case aP => exact rfl); (case aB => exact (bb_ HB)); (case aF => exact (fun _ _ => trivial)); (case aO => exact (rr_ HO_3)); (case aS => exact (below_size (bb_ HB))); (case aL => have := LMc5.out; omega); intro v263 w7 ho hb hg hat; rw [← Ny262.out] at ho; have n0_ := Aside0.mk (hb); have n1_ := Aside0.mk (ho); clear HB; clear HO_3; have HB := n0_; have HO264 := n1_; clear n0_ n1_; clear ho hb hg hat))
      go_roundg k1
      case measure => have := HK1.out; omega
      case rel => exact ⟨(y262), (wrap64 (x4_1 + 1)), sd_, H', ⟨by have := HK1.out; omega⟩, ⟨by (with_reducible repeat (first | apply Kd.R_alloc | apply Kd.R_drewN | apply Kd.R_drew)); exact HO264.out⟩, ⟨by repeat (first | (with_reducible first | exact HB.out | apply below_alloc | apply pw_below_drewN | apply below_drew1) | exact HB.out)⟩⟩
     ·rw [if_neg c5] at H
      exact absurd H (by simp)
    ·replace c4 := Bool.eq_false_iff.mpr c4
     subst c4
     have H1 : (cohousingref29_Leaves.l0 k1 l0 x3_1 (wrap64 (x4_1 + 1))) = some r := by rw [if_neg (show ¬ (false = true) by decide)] at H; exact H
     clear H
     have H := H1
     clear H1
     have H' := Aside0.mk H
     clear H
     go_wp2_with (first | ((with_reducible refine gate_callee (f := 45) rfl ?_); refine gl_ (some 14) Try.func45 #[.slice A0 l0.length c0, .int .i64 x4_1] ?_; (with_reducible refine (cohousingref28_Leaf.calls k1 _ _ l0 x4_1 false _ ?side1 ?side2 A3.out).mono ?_); (case side1 => exact cc_ ((Kd.C_below HR0.out HB.out))); (case side2 => exact HC0.out); rintro e w8 ⟨rfl, hb⟩; refine ⟨_, rfl, ?_⟩; have n0_ := Aside0.mk (Kd.R_below (rr_ HO_3) hb); have n1_ := Aside0.mk (below_step (bb_ HB) hb); clear HO_3; clear HB; have HO_3 := n0_; have HB := n1_; clear n0_ n1_; (try clear hb); (try clear hb2); (try clear hk); (try clear hi)))
     go_roundg k1
     case measure => have := HK1.out; omega
     case rel => exact ⟨(x3_1), (wrap64 (x4_1 + 1)), sd_, H', ⟨by have := HK1.out; omega⟩, ⟨by (with_reducible repeat (first | apply Kd.R_alloc | apply Kd.R_drewN | apply Kd.R_drew)); exact HO_3.out⟩, ⟨by repeat (first | (with_reducible first | exact HB.out | apply below_alloc | apply pw_below_drewN | apply below_drew1) | exact HB.out)⟩⟩
   ·rw [if_neg c2] at H
    have c2b0 : decide (x4_1 < (l0.length : Int)) = false := decide_eq_false c2
    clear c2
    obtain rfl := Option.some.inj H
    go_wp2
    go_ret
    exact ⟨_, ew_, by (with_reducible repeat (first | apply Kd.R_alloc | apply Kd.R_drewN | apply Kd.R_drew)); exact HO_3.out, by repeat (first | (with_reducible first | exact HB.out | apply below_alloc | apply pw_below_drewN | apply below_drew1) | exact HB.out)⟩
end
section
open Go.Proofs.YthjjabcbngffoaaH
def mkI (v : Int) : S85 := ⟨v, v⟩
def okIn (l1 : List S38) (x : List Int) (i : Nat) : Bool := !decide (rd x i < (rd_T38 l1 i).f0) && !decide ((rd_T38 l1 i).f1 < rd x i)
def lostI (kids : List (List Int)) (x : List Int) (i : Nat) : Int := wrap64 (rd x i - totalF S85.f0 (belowI kids (x.map mkI) i))
def okEq (l0 : List S63) (kids : List (List Int)) (x : List Int) (i : Nat) : Bool := decide ((belowI kids (x.map mkI) i).length = 0) || (!decide (lostI kids x i < 0) && !decide ((rd_T63 l0 i).f2 < lostI kids x i))
def consR (l0 : List S63) (l1 : List S38) (x : List Int) : Bool × Int :=
 match netOk l0 with
 | none => (false, 1)
 | some kids => if belongsB l0.length l1 = true then (if x.length = l0.length then ((List.range l0.length).all (okIn l1 x) && (List.range l0.length).all (okEq l0 kids x), 0) else (false, 1)) else (false, 1)
def flow_Consistent.f (l0 : List S63) (l1 : List S38) (x : List Int) : Option (Bool × Int) := if l0.length ≤ 5864062014805 ∧ l1.length ≤ 140737488355328 ∧ x.length ≤ 17592186044416 then some (consR l0 l1 x) else none
theorem all_false {p : Nat → Bool} {n i : Nat} (hi : i < n) (h : p i = false) : (List.range n).all p = false := by
 rw [List.all_eq_false]
 exact ⟨i, List.mem_range.2 hi, by rw [h]; decide⟩
theorem all_true {p : Nat → Bool} {n : Nat} (h : ∀ i, i < n → p i = true) : (List.range n).all p = true := by
 rw [List.all_eq_true]
 intro i hi
 exact h i (List.mem_range.1 hi)
theorem flow_Consistent.calls (A0 : Option Addr) (c0 : Nat) (l0 : List (S63)) (A1 : Option Addr) (c1 : Nat) (l1 : List (S38)) (A2_ : Option Addr) (c2_ : Nat) (l2 : List Int) (r1 : Bool) (r2 : Int) (w : World) (hr0 : Kd.C k63 w A0 l0.length l0) (hc0 : l0.length ≤ c0) (hr1 : Kd.C k38 w A1 l1.length l1) (hc1 : l1.length ≤ c1) (hr2 : Kd.C (Kd.int .i64) w A2_ l2.length l2) (hc2 : l2.length ≤ c2_) (h : flow_Consistent.f l0 l1 l2 = some (r1, r2)) :
  Calls Try.prog 21 #[.slice A0 l0.length c0, .slice A1 l1.length c1, .slice A2_ l2.length c2_] w fun e w' => e = .returned (.tuple #[.bool r1, .int .i64 r2]) ∧ Below w.heap.size w w' := by
 have hu80 := Try.underlying80
 have hu85 := Try.underlying85
 have hu38 := Try.underlying38
 have hu63 := Try.underlying63
 unfold flow_Consistent.f at h
 by_cases hsz : l0.length ≤ 5864062014805 ∧ l1.length ≤ 140737488355328 ∧ l2.length ≤ 17592186044416
 case neg =>
  rw [if_neg hsz] at h
  cases h
 rw [if_pos hsz] at h
 injection h with h
 have HSZ := Aside0.mk hsz.1
 have HSZ1 := Aside0.mk hsz.2.1
 have HSZ2 := Aside0.mk hsz.2.2
 have HR0 := Aside0.mk hr0
 have HC0 := Aside0.mk hc0
 have HR1 := Aside0.mk hr1
 have HC1 := Aside0.mk hc1
 have HR2 := Aside0.mk hr2
 have HC2 := Aside0.mk hc2
 clear hsz hr0 hc0 hr1 hc1 hr2 hc2
 have HB := Aside0.mk (Below.refl w.heap.size w)
 cases ho : openK l0 with
 | none =>
  have HO := Aside0.mk ho
  have e : consR l0 l1 l2 = (false, 1) := by unfold consR netOk; rw [ho]; split <;> simp_all
  rw [e] at h
  injection h with e1 e2
  subst e1
  subst e2
  clear ho e
  go_enter Try.func21, Try.ntmps21
  go_wp2_with (first | (go_at_call 40; (with_reducible refine (open_none A0 c0 l0 _ HR0.out HC0.out HSZ.out HO.out).mono ?_); rintro e w1 ⟨rfl, hb⟩; have n0_ := Aside0.mk (below_step HB.out hb); clear HB hb; have HB := n0_; clear n0_) | ((with_reducible refine gate_dst (N := 8) rfl ?_); refine box_event ?hg (N := 8) ?hd (cs := #[.slice none 0 0, .slice none 0 0]) (t := 80) ?hr ?_; (case hd => rfl); (case hg => rfl); (case hr => first | (go_simp; done) | (go_simp; rfl)); intro gn hgn w3 hbn hb3; have hcn0 : w3.cell? ⟨gn, 0, none⟩ = some (.slice none 0 0) := (blk_cell hbn 0).trans rfl; have hcn1 : w3.cell? ⟨gn, 1, none⟩ = some (.slice none 0 0) := (blk_cell hbn 1).trans rfl; have hfn0 := blk_frozen hbn 0; have hfn1 := blk_frozen hbn 1; have BN := Aside0.mk hbn; have n0_ := Aside0.mk (below_step HB.out hb3); have GN := Aside0.mk (show w.heap.size ≤ gn by rw [hgn]; exact below_size HB.out); have GE := Aside0.mk hgn; (try have HK := Aside0.mk (Kd.S_below HK.out hb3)); clear HB hbn hb3 hgn; have HB := n0_; clear n0_) | ((with_reducible refine gate_store (t := 80) (p := 8) (v := .tmp 20) rfl ?_); refine store_event rfl (t := 80) (p := 8) (v := .tmp 20) rfl rfl (by first | (go_simp; done) | (go_simp; rfl)) ?_; intro w4 hw4; have BN4 := Aside0.mk (show w4.heap[gn]? = some (.cells #[.slice none 0 0, .slice none 0 0] 80 (0, 0)) by rw [hw4]; exact blk_put (blk_put BN.out 0 _ rfl) 1 _ rfl); have n0_ := Aside0.mk (show Below w.heap.size w w4 by rw [hw4]; exact below_set (below_set HB.out GN.out) GN.out); clear hw4 BN HB hcn0 hcn1 hfn0 hfn1; have HB := n0_; clear n0_; have hcn0 : w4.cell? ⟨gn, 0, none⟩ = some (.slice none 0 0) := (blk_cell BN4.out 0).trans rfl; have hcn1 : w4.cell? ⟨gn, 1, none⟩ = some (.slice none 0 0) := (blk_cell BN4.out 1).trans rfl))
  go_ret2
  exact ⟨rfl, HB.out⟩
 | some kids =>
  have HO := Aside0.mk ho
  by_cases hl : l0.length ≤ 200
  case neg =>
   have e : consR l0 l1 l2 = (false, 1) := by unfold consR netOk; rw [if_neg hl]
   rw [e] at h
   injection h with e1 e2
   subst e1
   subst e2
   have d1 : decide (l0.length ≤ 200) = false := decide_eq_false hl
   clear ho hl e
   go_enter Try.func21, Try.ntmps21
   go_wp2_with (first | (go_at_call 40; (with_reducible refine (open_some A0 c0 l0 _ HR0.out HC0.out HSZ.out HO.out).mono ?_); rintro e w1 ⟨A2, c2, rfl, hS, hb⟩; have n0_ := Aside0.mk (below_step HB.out hb); have HK := Aside0.mk hS; clear HB hb hS; have HB := n0_; clear n0_) | ((with_reducible refine gate_dst (N := 8) rfl ?_); refine box_event ?hg (N := 8) ?hd (cs := #[.slice none 0 0, .slice none 0 0]) (t := 80) ?hr ?_; (case hd => rfl); (case hg => rfl); (case hr => first | (go_simp; done) | (go_simp; rfl)); intro gn hgn w3 hbn hb3; have hcn0 : w3.cell? ⟨gn, 0, none⟩ = some (.slice none 0 0) := (blk_cell hbn 0).trans rfl; have hcn1 : w3.cell? ⟨gn, 1, none⟩ = some (.slice none 0 0) := (blk_cell hbn 1).trans rfl; have hfn0 := blk_frozen hbn 0; have hfn1 := blk_frozen hbn 1; have BN := Aside0.mk hbn; have n0_ := Aside0.mk (below_step HB.out hb3); have GN := Aside0.mk (show w.heap.size ≤ gn by rw [hgn]; exact below_size HB.out); have GE := Aside0.mk hgn; (try have HK := Aside0.mk (Kd.S_below HK.out hb3)); clear HB hbn hb3 hgn; have HB := n0_; clear n0_) | ((with_reducible refine gate_store (t := 80) (p := 8) (v := .tmp 20) rfl ?_); refine store_event rfl (t := 80) (p := 8) (v := .tmp 20) rfl rfl (by first | (go_simp; done) | (go_simp; rfl)) ?_; intro w4 hw4; have BN4 := Aside0.mk (show w4.heap[gn]? = some (.cells #[.slice A0 l0.length c0, .slice A2 l0.length c2] 80 (0, 0)) by rw [hw4]; exact blk_put (blk_put BN.out 0 _ rfl) 1 _ rfl); have n0_ := Aside0.mk (show Below w.heap.size w w4 by rw [hw4]; exact below_set (below_set HB.out GN.out) GN.out); have HK := Aside0.mk (show Kd.S (Kd.slice 3 (Kd.int .i64)) 22 w4 w.heap.size (fun _ => True) (.slice A2 l0.length c2) kids by rw [hw4]; have ht := Kd.S_far (p := ⟨gn, 0, none⟩) (Kd.S_types HK.out BN.out (by decide)) (fun _ hk => hk.2) (.slice A0 l0.length c0); exact Kd.S_mono (Kd.S_far (p := ⟨gn, 1, none⟩) ht (fun _ hk => hk.2) (.slice A2 l0.length c2)) (fun _ hk => hk.1)); clear hw4 BN HB hcn0 hcn1 hfn0 hfn1; have HB := n0_; clear n0_; have hcn0 : w4.cell? ⟨gn, 0, none⟩ = some (.slice A0 l0.length c0) := (blk_cell BN4.out 0).trans rfl; have hcn1 : w4.cell? ⟨gn, 1, none⟩ = some (.slice A2 l0.length c2) := (blk_cell BN4.out 1).trans rfl))
   go_ret2
   exact ⟨rfl, HB.out⟩
  have d1 : decide (l0.length ≤ 200) = true := decide_eq_true hl
  cases hbel : belongsB l0.length l1 with
  | false =>
   have HBEL := Aside0.mk hbel
   have e : consR l0 l1 l2 = (false, 1) := by unfold consR netOk; rw [if_pos hl, ho]; simp [hbel]
   rw [e] at h
   injection h with e1 e2
   subst e1
   subst e2
   clear ho hl hbel e
   go_enter Try.func21, Try.ntmps21
   go_wp2_with (first | (go_at_call 40; (with_reducible refine (open_some A0 c0 l0 _ HR0.out HC0.out HSZ.out HO.out).mono ?_); rintro e w1 ⟨A2, c2, rfl, hS, hb⟩; have n0_ := Aside0.mk (below_step HB.out hb); have HK := Aside0.mk hS; clear HB hb hS; have HB := n0_; clear n0_) | ((with_reducible refine gate_dst (N := 8) rfl ?_); refine box_event ?hg (N := 8) ?hd (cs := #[.slice none 0 0, .slice none 0 0]) (t := 80) ?hr ?_; (case hd => rfl); (case hg => rfl); (case hr => first | (go_simp; done) | (go_simp; rfl)); intro gn hgn w3 hbn hb3; have hcn0 : w3.cell? ⟨gn, 0, none⟩ = some (.slice none 0 0) := (blk_cell hbn 0).trans rfl; have hcn1 : w3.cell? ⟨gn, 1, none⟩ = some (.slice none 0 0) := (blk_cell hbn 1).trans rfl; have hfn0 := blk_frozen hbn 0; have hfn1 := blk_frozen hbn 1; have BN := Aside0.mk hbn; have n0_ := Aside0.mk (below_step HB.out hb3); have GN := Aside0.mk (show w.heap.size ≤ gn by rw [hgn]; exact below_size HB.out); have GE := Aside0.mk hgn; (try have HK := Aside0.mk (Kd.S_below HK.out hb3)); clear HB hbn hb3 hgn; have HB := n0_; clear n0_) | ((with_reducible refine gate_store (t := 80) (p := 8) (v := .tmp 20) rfl ?_); refine store_event rfl (t := 80) (p := 8) (v := .tmp 20) rfl rfl (by first | (go_simp; done) | (go_simp; rfl)) ?_; intro w4 hw4; have BN4 := Aside0.mk (show w4.heap[gn]? = some (.cells #[.slice A0 l0.length c0, .slice A2 l0.length c2] 80 (0, 0)) by rw [hw4]; exact blk_put (blk_put BN.out 0 _ rfl) 1 _ rfl); have n0_ := Aside0.mk (show Below w.heap.size w w4 by rw [hw4]; exact below_set (below_set HB.out GN.out) GN.out); have HK := Aside0.mk (show Kd.S (Kd.slice 3 (Kd.int .i64)) 22 w4 w.heap.size (fun _ => True) (.slice A2 l0.length c2) kids by rw [hw4]; have ht := Kd.S_far (p := ⟨gn, 0, none⟩) (Kd.S_types HK.out BN.out (by decide)) (fun _ hk => hk.2) (.slice A0 l0.length c0); exact Kd.S_mono (Kd.S_far (p := ⟨gn, 1, none⟩) ht (fun _ hk => hk.2) (.slice A2 l0.length c2)) (fun _ hk => hk.1)); clear hw4 BN HB hcn0 hcn1 hfn0 hfn1; have HB := n0_; clear n0_; have hcn0 : w4.cell? ⟨gn, 0, none⟩ = some (.slice A0 l0.length c0) := (blk_cell BN4.out 0).trans rfl; have hcn1 : w4.cell? ⟨gn, 1, none⟩ = some (.slice A2 l0.length c2) := (blk_cell BN4.out 1).trans rfl) | (go_at_call 41; (with_reducible refine (belongs_calls A0 l0.length c0 A2 l0.length c2 A1 c1 l1 _ (Kd.C_below HR1.out HB.out) HC1.out (by have := HSZ1.out; omega) (by have := HSZ.out; omega)).mono ?_); rw [HBEL.out]; rintro e w5 ⟨rfl, hb⟩; have n0_ := Aside0.mk (below_step HB.out hb); have HK := Aside0.mk (Kd.S_below HK.out hb); replace hcn0 := (hb.cell (World.block_lt_of_cell? _ _ hcn0)).trans hcn0; replace hcn1 := (hb.cell (World.block_lt_of_cell? _ _ hcn1)).trans hcn1; have BN4 := Aside0.mk (blk_below BN4.out hb); clear HB hb; have HB := n0_; clear n0_))
   go_ret2
   exact ⟨rfl, HB.out⟩
  | true =>
   have HBEL := Aside0.mk hbel
   have HLL := Aside0.mk (show l1.length = l0.length by unfold belongsB at hbel; simp at hbel; exact hbel.1)
   by_cases hx : l2.length = l0.length
   case neg =>
    have e : consR l0 l1 l2 = (false, 1) := by unfold consR netOk; rw [if_pos hl, ho]; simp only []; rw [if_pos hbel, if_neg hx]
    rw [e] at h
    injection h with e1 e2
    subst e1
    subst e2
    have d2 : ((l2.length : Int) == (l0.length : Int)) = false := beq_eq_false_iff_ne.2 (by omega)
    have d2' : ((l2.length : Int) != (l0.length : Int)) = true := bne_iff_ne.2 (by omega)
    clear ho hl hbel e hx
    go_enter Try.func21, Try.ntmps21
    go_wp2_with (first | (go_at_call 40; (with_reducible refine (open_some A0 c0 l0 _ HR0.out HC0.out HSZ.out HO.out).mono ?_); rintro e w1 ⟨A2, c2, rfl, hS, hb⟩; have n0_ := Aside0.mk (below_step HB.out hb); have HK := Aside0.mk hS; clear HB hb hS; have HB := n0_; clear n0_) | ((with_reducible refine gate_dst (N := 8) rfl ?_); refine box_event ?hg (N := 8) ?hd (cs := #[.slice none 0 0, .slice none 0 0]) (t := 80) ?hr ?_; (case hd => rfl); (case hg => rfl); (case hr => first | (go_simp; done) | (go_simp; rfl)); intro gn hgn w3 hbn hb3; have hcn0 : w3.cell? ⟨gn, 0, none⟩ = some (.slice none 0 0) := (blk_cell hbn 0).trans rfl; have hcn1 : w3.cell? ⟨gn, 1, none⟩ = some (.slice none 0 0) := (blk_cell hbn 1).trans rfl; have hfn0 := blk_frozen hbn 0; have hfn1 := blk_frozen hbn 1; have BN := Aside0.mk hbn; have n0_ := Aside0.mk (below_step HB.out hb3); have GN := Aside0.mk (show w.heap.size ≤ gn by rw [hgn]; exact below_size HB.out); have GE := Aside0.mk hgn; (try have HK := Aside0.mk (Kd.S_below HK.out hb3)); clear HB hbn hb3 hgn; have HB := n0_; clear n0_) | ((with_reducible refine gate_store (t := 80) (p := 8) (v := .tmp 20) rfl ?_); refine store_event rfl (t := 80) (p := 8) (v := .tmp 20) rfl rfl (by first | (go_simp; done) | (go_simp; rfl)) ?_; intro w4 hw4; have BN4 := Aside0.mk (show w4.heap[gn]? = some (.cells #[.slice A0 l0.length c0, .slice A2 l0.length c2] 80 (0, 0)) by rw [hw4]; exact blk_put (blk_put BN.out 0 _ rfl) 1 _ rfl); have n0_ := Aside0.mk (show Below w.heap.size w w4 by rw [hw4]; exact below_set (below_set HB.out GN.out) GN.out); have HK := Aside0.mk (show Kd.S (Kd.slice 3 (Kd.int .i64)) 22 w4 w.heap.size (fun _ => True) (.slice A2 l0.length c2) kids by rw [hw4]; have ht := Kd.S_far (p := ⟨gn, 0, none⟩) (Kd.S_types HK.out BN.out (by decide)) (fun _ hk => hk.2) (.slice A0 l0.length c0); exact Kd.S_mono (Kd.S_far (p := ⟨gn, 1, none⟩) ht (fun _ hk => hk.2) (.slice A2 l0.length c2)) (fun _ hk => hk.1)); clear hw4 BN HB hcn0 hcn1 hfn0 hfn1; have HB := n0_; clear n0_; have hcn0 : w4.cell? ⟨gn, 0, none⟩ = some (.slice A0 l0.length c0) := (blk_cell BN4.out 0).trans rfl; have hcn1 : w4.cell? ⟨gn, 1, none⟩ = some (.slice A2 l0.length c2) := (blk_cell BN4.out 1).trans rfl) | (go_at_call 41; (with_reducible refine (belongs_calls A0 l0.length c0 A2 l0.length c2 A1 c1 l1 _ (Kd.C_below HR1.out HB.out) HC1.out (by have := HSZ1.out; omega) (by have := HSZ.out; omega)).mono ?_); rw [HBEL.out]; rintro e w5 ⟨rfl, hb⟩; have n0_ := Aside0.mk (below_step HB.out hb); have HK := Aside0.mk (Kd.S_below HK.out hb); replace hcn0 := (hb.cell (World.block_lt_of_cell? _ _ hcn0)).trans hcn0; replace hcn1 := (hb.cell (World.block_lt_of_cell? _ _ hcn1)).trans hcn1; have BN4 := Aside0.mk (blk_below BN4.out hb); clear HB hb; have HB := n0_; clear n0_))
    go_ret2
    exact ⟨rfl, HB.out⟩
   have d2 : ((l2.length : Int) == (l0.length : Int)) = true := beq_iff_eq.2 (by omega)
   have d2' : ((l2.length : Int) != (l0.length : Int)) = false := by rw [bne, d2]; rfl
   have HXL := Aside0.mk hx
   have HKO := Aside0.mk (openK_ok ho)
   obtain ⟨R, hR⟩ : ∃ R, R = consR l0 l1 l2 := ⟨_, rfl⟩
   have e : consR l0 l1 l2 = ((List.range l0.length).all (okIn l1 l2) && (List.range l0.length).all (okEq l0 kids l2), 0) := by unfold consR netOk; rw [if_pos hl, ho]; simp only []; rw [if_pos hbel, if_pos hx]
   rw [e] at h
   injection h with e1 e2
   subst e2
   have HE1 := Aside0.mk e1
   clear ho hl hbel e hx e1 hR
   go_enter Try.func21, Try.ntmps21
   go_wp2_with (first | (go_at_call 40; (with_reducible refine (open_some A0 c0 l0 _ HR0.out HC0.out HSZ.out HO.out).mono ?_); rintro e w1 ⟨A2, c2, rfl, hS, hb⟩; have n0_ := Aside0.mk (below_step HB.out hb); have HK := Aside0.mk hS; clear HB hb hS; have HB := n0_; clear n0_) | ((with_reducible refine gate_dst (N := 8) rfl ?_); refine box_event ?hg (N := 8) ?hd (cs := #[.slice none 0 0, .slice none 0 0]) (t := 80) ?hr ?_; (case hd => rfl); (case hg => rfl); (case hr => first | (go_simp; done) | (go_simp; rfl)); intro gn hgn w3 hbn hb3; have hcn0 : w3.cell? ⟨gn, 0, none⟩ = some (.slice none 0 0) := (blk_cell hbn 0).trans rfl; have hcn1 : w3.cell? ⟨gn, 1, none⟩ = some (.slice none 0 0) := (blk_cell hbn 1).trans rfl; have hfn0 := blk_frozen hbn 0; have hfn1 := blk_frozen hbn 1; have BN := Aside0.mk hbn; have n0_ := Aside0.mk (below_step HB.out hb3); have GN := Aside0.mk (show w.heap.size ≤ gn by rw [hgn]; exact below_size HB.out); have GE := Aside0.mk hgn; (try have HK := Aside0.mk (Kd.S_below HK.out hb3)); clear HB hbn hb3 hgn; have HB := n0_; clear n0_) | ((with_reducible refine gate_store (t := 80) (p := 8) (v := .tmp 20) rfl ?_); refine store_event rfl (t := 80) (p := 8) (v := .tmp 20) rfl rfl (by first | (go_simp; done) | (go_simp; rfl)) ?_; intro w4 hw4; have BN4 := Aside0.mk (show w4.heap[gn]? = some (.cells #[.slice A0 l0.length c0, .slice A2 l0.length c2] 80 (0, 0)) by rw [hw4]; exact blk_put (blk_put BN.out 0 _ rfl) 1 _ rfl); have n0_ := Aside0.mk (show Below w.heap.size w w4 by rw [hw4]; exact below_set (below_set HB.out GN.out) GN.out); have HK := Aside0.mk (show Kd.S (Kd.slice 3 (Kd.int .i64)) 22 w4 w.heap.size (fun _ => True) (.slice A2 l0.length c2) kids by rw [hw4]; have ht := Kd.S_far (p := ⟨gn, 0, none⟩) (Kd.S_types HK.out BN.out (by decide)) (fun _ hk => hk.2) (.slice A0 l0.length c0); exact Kd.S_mono (Kd.S_far (p := ⟨gn, 1, none⟩) ht (fun _ hk => hk.2) (.slice A2 l0.length c2)) (fun _ hk => hk.1)); clear hw4 BN HB hcn0 hcn1 hfn0 hfn1; have HB := n0_; clear n0_; have hcn0 : w4.cell? ⟨gn, 0, none⟩ = some (.slice A0 l0.length c0) := (blk_cell BN4.out 0).trans rfl; have hcn1 : w4.cell? ⟨gn, 1, none⟩ = some (.slice A2 l0.length c2) := (blk_cell BN4.out 1).trans rfl) | (go_at_call 41; (with_reducible refine (belongs_calls A0 l0.length c0 A2 l0.length c2 A1 c1 l1 _ (Kd.C_below HR1.out HB.out) HC1.out (by have := HSZ1.out; omega) (by have := HSZ.out; omega)).mono ?_); rw [HBEL.out]; rintro e w5 ⟨rfl, hb⟩; have n0_ := Aside0.mk (below_step HB.out hb); have HK := Aside0.mk (Kd.S_below HK.out hb); replace hcn0 := (hb.cell (World.block_lt_of_cell? _ _ hcn0)).trans hcn0; replace hcn1 := (hb.cell (World.block_lt_of_cell? _ _ hcn1)).trans hcn1; have BN4 := Aside0.mk (blk_below BN4.out hb); clear HB hb; have HB := n0_; clear n0_) | ((with_reducible refine gate_dst (N := 39) rfl ?_); refine Kd.R_make k85 _ 85 rfl (N := 39) rfl 84 _ _ rfl (l2.length : Int) rfl rfl Try.underlying84 (.agg #[(.int .i64 0), (.int .i64 0)]) 16 info85 rfl (by decide) (by omega) z85 (ok := fun _ => True) (okp := fun _ => True) (k85_mkM _ _ _ z85) (fun _ hk => hk) trivial (by omega) (by have := HSZ.out; have := HXL.out; omega) (Below.refl _ _) (Nat.le_refl _) ?_; intro v1 w8 ho hb hg_ hnew_; have n0_ := Aside0.mk (below_step HB.out hb); have HRV := Aside0.mk (Kd.R_lower ho (below_size HB.out)); have HK := Aside0.mk (Kd.S_below HK.out hb); have BN4 := Aside0.mk (blk_below BN4.out hb); clear HB hb ho hg_ hnew_ hcn0 hcn1; have HB := n0_; clear n0_))
   obtain ⟨A3, c3, e3⟩ := Kd.R_slice HRV.out
   subst e3
   have hrv := HRV.out
   clear HRV
   rw [List.length_replicate, Int.toNat_natCast, HXL.out] at hrv ⊢
   have HRV := Aside0.mk hrv
   clear hrv
   go_loopg [42] l0.length (fun kq v42 wr => ∃ (n : Nat) (y : List S85), v42 = .int .i64 n ∧ Aside0 (kq + n = l0.length) ∧ Aside0 (y = (List.range n).foldl (fun y (j : Nat) => y.set j (mkI (rd l2 j))) (List.replicate l0.length z85)) ∧ Aside0 (∀ j, j < n → okIn l1 l2 j = true) ∧ Aside0 (Kd.R k85 85 wr w.heap.size (fun _ => True) (.slice A3 l0.length c3) y)
    ∧ Aside0 (Kd.S (Kd.slice 3 (Kd.int .i64)) 22 wr w.heap.size (fun _ => True) (.slice A2 l0.length c2) kids) ∧ Aside0 (wr.heap[gn]? = some (.cells #[.slice A0 l0.length c0, .slice A2 l0.length c2] 80 (0, 0))) ∧ Aside0 (Below w.heap.size w wr))
   case atStart => exact ⟨0, _, rfl, ⟨by omega⟩, ⟨rfl⟩, ⟨fun j hj => absurd hj (Nat.not_lt_zero _)⟩, HRV, HK, BN4, HB⟩
   case round =>
    clear HRV HB BN4 HK
    obtain ⟨n, y, rfl, HM, HY, HOK, HRV, HK, BN4, HB⟩ := hrel
    have HYL := Aside0.mk (show y.length = l0.length by rw [HY.out, fold_len, List.length_replicate])
    by_cases hlt : n < l0.length
    ·obtain ⟨i, hi⟩ : ∃ i : Int, i = (n : Int) := ⟨_, rfl⟩
     rw [← hi]
     have HI2 := Aside0.mk (show 0 ≤ i ∧ i < l0.length ∧ i = (n : Int) from ⟨by omega, by omega, hi⟩)
     have q2' : decide (i < (l0.length : Int)) = true := decide_eq_true HI2.out.2.1
     have ci2 : (0 ≤ i) = True := eq_true HI2.out.1
     have ci3 : (i < l0.length) = True := eq_true HI2.out.2.1
     have ci4 : (i < l1.length) = True := eq_true (by have := HI2.out; have := HLL.out; omega)
     obtain ⟨adx, ex, hxx⟩ := Kd.at_int (Kd.C_below HR2.out HB.out) i HI2.out.1 (by have := HI2.out; have := HXL.out; omega)
     subst ex
     obtain ⟨adr, er, hrr0, hrr1⟩ := at_T38 (Kd.C_below HR1.out HB.out) i HI2.out.1 (by have := HI2.out; have := HLL.out; omega)
     subst er
     obtain ⟨v, hv⟩ : ∃ v, v = rd l2 i := ⟨_, rfl⟩
     rw [← hv] at hxx
     have HV := Aside0.mk hv
     have HOKI : okIn l1 l2 n = (!decide (v < (rd_T38 l1 i).f0) && !decide ((rd_T38 l1 i).f1 < v)) := by unfold okIn; rw [hv, HI2.out.2.2]
     have HO2 := Aside0.mk HOKI
     clear hi hv HOKI
     by_cases ht1 : v < (rd_T38 l1 i).f0
     ·have t1 : decide (v < (rd_T38 l1 i).f0) = true := decide_eq_true ht1
      have HF := Aside0.mk (show r1 = false by rw [← HE1.out, all_false (show n < l0.length from hlt) (show okIn l1 l2 n = false by rw [HO2.out, t1]; rfl)]; rfl)
      clear ht1 hlt
      go_wp2
      go_ret2
      exact ⟨by rw [HF.out]; rfl, HB.out⟩
     have t1 : decide (v < (rd_T38 l1 i).f0) = false := decide_eq_false ht1
     by_cases ht2 : (rd_T38 l1 i).f1 < v
     ·have t2 : decide ((rd_T38 l1 i).f1 < v) = true := decide_eq_true ht2
      have HF := Aside0.mk (show r1 = false by rw [← HE1.out, all_false (show n < l0.length from hlt) (show okIn l1 l2 n = false by rw [HO2.out, t1, t2]; rfl)]; rfl)
      clear ht1 ht2 hlt
      go_wp2
      go_ret2
      exact ⟨by rw [HF.out]; rfl, HB.out⟩
     have t2 : decide ((rd_T38 l1 i).f1 < v) = false := decide_eq_false ht2
     have HNX := Aside0.mk (show okIn l1 l2 n = true by rw [HO2.out, t1, t2]; rfl)
     obtain ⟨go, cgo, eo, gob, gol, ogl, hogl⟩ := Kd.R_form HRV.out (by have := HI2.out; have := HYL.out; omega)
     injection eo with ea en ec
     subst ea
     subst ec
     have HGB := Aside0.mk gob
     have HGO := Aside0.mk hogl
     have HE := Aside0.mk (iv_elem HRV.out i HI2.out.1 HI2.out.2.1)
     have hxz0 := HE.out.1.1
     have hxz1 := HE.out.1.2
     have hfz0 := HE.out.2.1.1
     have hfz1 := HE.out.2.1.2
     clear ht1 ht2 hlt en gob gol hogl
     have hz1 : i + 1 ≤ 9223372036854775807 := by have := HI2.out; have := HSZ.out; omega
     have hz2 : -9223372036854775808 ≤ i + 1 := by have := HI2.out; omega
     go_wp2
     have hP := HE.out.2.2 (mkI v)
     go_roundg (gk - 1)
     case measure => have := HM.out; have := HI2.out; omega
     case rel =>
      refine ⟨n + 1, _, ?_, ⟨by have := HM.out; have := HI2.out; omega⟩, ⟨?_⟩, ⟨fun j hj => ?_⟩, ⟨hP.1⟩, ⟨Kd.S_mono (Kd.S_grown (Kd.S_types HK.out HGO.out (by decide)) hP.2 (fun k hk e => hk.2 (by cases e; rfl))) (fun _ hk => hk.1)⟩, ⟨blk_grown BN4.out hP.2 (by have := blk_ne BN4.out HGO.out (by decide); simpa using this)⟩, ⟨below_set (below_set HB.out HGB.out) HGB.out⟩⟩
      ·have := HI2.out
       first | (rw [show ((n + 1 : Nat) : Int) = i + 1 from by omega]; done) | (simp; omega)
      ·rw [foldl_range_succ, ← HY.out, ← HI2.out.2.2, ← HV.out, show i.toNat = n by have := HI2.out; omega]
      ·by_cases hj' : j < n
       ·exact HOK.out j hj'
       ·rw [show j = n by omega]
        exact HNX.out
    ·have q2' : decide ((n : Int) < (l0.length : Int)) = false := decide_eq_false (by omega)
     have q2'' : decide (n < l0.length) = false := decide_eq_false hlt
     have HNL := Aside0.mk (show n = l0.length by have := HM.out; omega)
     clear hlt
     have HYX := Aside0.mk (show y = l2.map mkI by
      rw [HY.out, HNL.out, fold_set _ _ _ (by simp), List.drop_of_length_le (by simp), List.append_nil, ← HXL.out]
      exact fold_map (0 : Int) mkI l2)
     have HALL := Aside0.mk (show (List.range l0.length).all (okIn l1 l2) = true from all_true (fun i hi => HOK.out i (by have := HNL.out; omega)))
     have HE2 := Aside0.mk (show (List.range l0.length).all (okEq l0 kids l2) = r1 by have := HE1.out; rw [HALL.out] at this; exact this)
     clear HOK HE1 HALL HM HY
     have hyx := HYX.out
     subst hyx
     clear HYX
     go_wp2
     go_loopg [72] l0.length (fun kq v72 wr => ∃ (n : Nat), v72 = .int .i64 n ∧ Aside0 (kq + n = l0.length) ∧ Aside0 (∀ j, j < n → okEq l0 kids l2 j = true) ∧ Aside0 (Kd.R k85 85 wr w.heap.size (fun _ => True) (.slice A3 l0.length c3) (l2.map mkI))
      ∧ Aside0 (Kd.S (Kd.slice 3 (Kd.int .i64)) 22 wr w.heap.size (fun _ => True) (.slice A2 l0.length c2) kids) ∧ Aside0 (wr.heap[gn]? = some (.cells #[.slice A0 l0.length c0, .slice A2 l0.length c2] 80 (0, 0))) ∧ Aside0 (Below w.heap.size w wr))
     case atStart => exact ⟨0, rfl, ⟨by omega⟩, ⟨fun j hj => absurd hj (Nat.not_lt_zero _)⟩, HRV, HK, BN4, HB⟩
     case round =>
      clear HRV HB BN4 HK
      obtain ⟨n, rfl, HM, HOK, HRV, HK, BN4, HB⟩ := hrel
      by_cases hlt : n < l0.length
      ·obtain ⟨i, hi⟩ : ∃ i : Int, i = (n : Int) := ⟨_, rfl⟩
       rw [← hi]
       have HI2 := Aside0.mk (show 0 ≤ i ∧ i < l0.length ∧ i = (n : Int) ∧ n < l0.length from ⟨by omega, by omega, hi, hlt⟩)
       have q2' : decide (i < (l0.length : Int)) = true := decide_eq_true HI2.out.2.1
       have ci2 : (0 ≤ i) = True := eq_true HI2.out.1
       have ci3 : (i < l0.length) = True := eq_true HI2.out.2.1
       obtain ⟨adp, ep, hp0, hp1, hp2⟩ := at_T63 (Kd.C_below HR0.out HB.out) i HI2.out.1 HI2.out.2.1
       subst ep
       clear hi hlt
       go_upto_region 15 with (first | ((with_reducible refine gate_dst (N := 14) rfl ?_); refine box_event ?hg (N := 14) ?hd (cs := #[.int .i64 0, .int .i64 0, .int .i64 0]) (t := 63) ?hr ?_; (case hd => rfl); (case hg => rfl); (case hr => first | (go_simp; done) | (go_simp; rfl)); intro gp hgp w9 hbp hb; have hcp0 : w9.cell? ⟨gp, 0, none⟩ = some (.int .i64 0) := (blk_cell hbp 0).trans rfl; have hcp1 : w9.cell? ⟨gp, 1, none⟩ = some (.int .i64 0) := (blk_cell hbp 1).trans rfl; have hcp2 : w9.cell? ⟨gp, 2, none⟩ = some (.int .i64 0) := (blk_cell hbp 2).trans rfl; have hfp0 := blk_frozen hbp 0; have hfp1 := blk_frozen hbp 1; have hfp2 := blk_frozen hbp 2; have BP := Aside0.mk hbp; have HB9 := Aside0.mk hb; have GP := Aside0.mk hgp; clear hbp hb hgp))
       obtain ⟨w10, hw10⟩ : ∃ w10, w10 = ((w9.setCell ⟨gp, 0, none⟩ (.int .i64 (rd_T63 l0 i).f0)).setCell ⟨gp, 1, none⟩ (.int .i64 (rd_T63 l0 i).f1)).setCell ⟨gp, 2, none⟩ (.int .i64 (rd_T63 l0 i).f2) := ⟨_, rfl⟩
       rw [← hw10]
       have BP10 := Aside0.mk (show w10.heap[gp]? = some (.cells #[.int .i64 (rd_T63 l0 i).f0, .int .i64 (rd_T63 l0 i).f1, .int .i64 (rd_T63 l0 i).f2] 63 (0, 0)) by rw [hw10]; exact blk_put3 BP.out _ _ _)
       have HB10 := Aside0.mk (below_new3 GP.out HB9.out hw10)
       clear hw10 hcp0 hcp1 hcp2 hfp0 hfp1 hfp2 hp0 hp1 hp2
       have HBW := Aside0.mk (below_step HB.out HB10.out)
       have hcn0 : w10.cell? ⟨gn, 0, none⟩ = some (.slice (some adp) l0.length c0) := (blk_cell (blk_below BN4.out HB10.out) 0).trans rfl
       have hcn1 : w10.cell? ⟨gn, 1, none⟩ = some (.slice A2 l0.length c2) := (blk_cell (blk_below BN4.out HB10.out) 1).trans rfl
       have hlo : w10.cell? ⟨gp, 2, none⟩ = some (.int .i64 (rd_T63 l0 i).f2) := (blk_cell BP10.out 2).trans rfl
       have hSr := Kd.S_reads' (Kd.S_below HK.out HB10.out)
       have hRr := Kd.R_reads' (Kd.R_below HRV.out HB10.out)
       obtain ⟨bl, hbl⟩ : ∃ bl, bl = belowI kids (l2.map mkI) i := ⟨_, rfl⟩
       have HCALL := Aside0.mk (below_calls (some adp) l0.length c0 l0 A2 l0.length c2 kids A3 l0.length c3 (l2.map mkI) i w10 rfl hSr.1 hRr.1 (Kd.C_below HR0.out HBW.out) HC0.out hSr.2.2 (hSr.1 ▸ hSr.2.1) hRr.2.2 (hRr.1 ▸ hRr.2.1) HI2.out.1 (hSr.1 ▸ HI2.out.2.1) (hRr.1.symm.trans hSr.1) (hSr.1 ▸ HKO.out) (hSr.1 ▸ HSZ.out))
       rw [← hbl] at HCALL
       have HBLN := Aside0.mk (show bl.length ≤ 140737488355328 by rw [hbl]; unfold belowI; rw [List.length_map]; have := (HKO.out.2 i).1; have := HSZ.out; omega)
       have HBL := Aside0.mk (show belowI kids (l2.map mkI) ((n : Nat) : Int) = bl by rw [hbl, HI2.out.2.2.1])
       clear hSr hRr hbl
       have hz1 : i + 1 ≤ 9223372036854775807 := by have := HI2.out; have := HSZ.out; omega
       have hz2 : -9223372036854775808 ≤ i + 1 := by have := HI2.out; omega
       by_cases hz : 0 < bl.length
       ·have z1 : decide (0 < (bl.length : Int)) = true := decide_eq_true (by omega)
        have z2 : decide (0 < bl.length) = true := decide_eq_true hz
        have HZ := Aside0.mk hz
        clear hz
        go_wp2_with (first | (go_at_call 42; (with_reducible refine HCALL.out.mono ?_); rintro e w11 ⟨Ab, cb, rfl, hRb, hb⟩; have HRB := Aside0.mk (Kd.R_reads' hRb).2; have HB11 := Aside0.mk hb; replace hcn0 := (hb.cell (World.block_lt_of_cell? _ _ hcn0)).trans hcn0; replace hcn1 := (hb.cell (World.block_lt_of_cell? _ _ hcn1)).trans hcn1; replace hlo := (hb.cell (World.block_lt_of_cell? _ _ hlo)).trans hlo; clear hRb hb))
        obtain ⟨adx, ex, hxx⟩ := Kd.at_int (Kd.C_below HR2.out ((below_step HBW.out HB11.out).drew)) i HI2.out.1 (by have := HI2.out; have := HXL.out; omega)
        subst ex
        obtain ⟨v, hv⟩ : ∃ v, v = rd l2 i := ⟨_, rfl⟩
        rw [← hv] at hxx
        have HV := Aside0.mk hv
        clear hv
        refine start_ (n := 8) (S := fun w' => w'.cell? (adx.add i.toNat) = some (.int .i64 v)) (ds := []) #[n_, n_, n_, n_, n_, n_, n_, n_] (by kernel_rfl) rfl rfl (hxx) (fun hHeld => ?_)
        refine pv_ 0 84 (w_ 8 1) rfl ?_
        refine pv_ 1 85 (w_ 8 3) rfl ?_
        refine pv_ 2 86 (w_ 8 7) rfl ?_
        refine pv_ 4 88 (w_ 8 23) rfl ?_
        refine take_ (i := 3) (N := some 87) (v := ?_) (a' := ?_) #[y_, y_, y_, y_, y_, n_, n_, n_] rfl rfl (by kernel_rfl) (fun _ _ _ h => h) (Or.inl ⟨by rfl, ?_⟩) hHeld ?_ ?_
        rotate_left
        ·intro w' s0
         go_simp
         with_reducible rfl
        rotate_left
        ·simp only [Act.put, sI_, s0_, sS_, i64_w, i32_w]
         rfl
        refine one_ (i := 5) (N := some 89) (w_ 8 63) rfl rfl (by kernel_rfl) (by decide) (fun K hK => ?_)
        refine goes_ Try.func43 (by kernel_rfl) rfl #[.slice Ab bl.length cb, .func (.func 44) #[] #[]] (by rfl) rfl rfl (by simp only [List.map_toArray, List.map_cons, List.map_nil]; rfl) ?_
        with_reducible refine (flow_total_low Ab cb bl _ (Kd.C_below HRB.out.2 (below_drew (Below.refl _ _))) HRB.out.1 HBLN.out).mono ?_
        rintro e w12 ⟨rfl, hb⟩
        refine ⟨_, rfl, ?_⟩
        have HB12 := Aside0.mk (below_step (below_drew HB11.out) hb)
        have HBX := Aside0.mk (below_step (below_drew (Below.refl _ _)) hb)
        refine hK.out _ _ ((hb.cell (World.block_lt_of_cell? _ _ hHeld)).trans hHeld) (fun hHeld => ?_)
        clear hK K
        refine norm_ (a' := ?_) ?_ ?_
        rotate_left
        ·show Act.put _ (some 89) _ = _
         simp only [Act.put, sI_, s0_, sS_, i64_w, i32_w]
         rfl
        refine pv_ 6 90 (w_ 8 127) rfl ?_
        refine pv_ 7 16 (w_ 8 255) rfl ?_
        refine done_ (by kernel_rfl) ?_
        obtain ⟨lost, hlost⟩ : ∃ lost, lost = wrap64 (v - totalF S85.f0 bl) := ⟨_, rfl⟩
        rw [← hlost]
        have HLOST := Aside0.mk (show lostI kids l2 n = lost by unfold lostI; rw [HBL.out, hlost, HV.out, HI2.out.2.2.1])
        replace hlo := (HBX.out.cell (World.block_lt_of_cell? _ _ hlo)).trans hlo
        have HOKI := Aside0.mk (show okEq l0 kids l2 n = (!decide (lost < 0) && !decide ((rd_T63 l0 i).f2 < lost)) by unfold okEq; rw [HBL.out, HLOST.out, decide_eq_false (show ¬ bl.length = 0 from by have := HZ.out; omega), Bool.false_or, HI2.out.2.2.1])
        clear hlost
        by_cases ht1 : lost < 0
        ·have t1 : decide (lost < 0) = true := decide_eq_true ht1
         have HF := Aside0.mk (show r1 = false by rw [← HE2.out]; exact all_false HI2.out.2.2.2 (by rw [HOKI.out, t1]; rfl))
         clear ht1
         go_wp2
         go_ret2
         exact ⟨by rw [HF.out]; rfl, below_step HBW.out HB12.out⟩
        have t1 : decide (lost < 0) = false := decide_eq_false ht1
        by_cases ht2 : (rd_T63 l0 i).f2 < lost
        ·have t2 : decide ((rd_T63 l0 i).f2 < lost) = true := decide_eq_true ht2
         have HF := Aside0.mk (show r1 = false by rw [← HE2.out]; exact all_false HI2.out.2.2.2 (by rw [HOKI.out, t1, t2]; rfl))
         clear ht1 ht2
         go_wp2
         go_ret2
         exact ⟨by rw [HF.out]; rfl, below_step HBW.out HB12.out⟩
        have t2 : decide ((rd_T63 l0 i).f2 < lost) = false := decide_eq_false ht2
        have HNX := Aside0.mk (show okEq l0 kids l2 n = true by rw [HOKI.out, t1, t2]; rfl)
        have HBA := Aside0.mk (below_step HB10.out HB12.out)
        clear ht1 ht2
        go_wp2
        go_roundg (gk - 1)
        case measure => have := HM.out; have := HI2.out; omega
        case rel =>
         refine ⟨n + 1, ?_, ⟨by have := HM.out; have := HI2.out; omega⟩, ⟨fun j hj => ?_⟩, ⟨Kd.R_below HRV.out HBA.out⟩, ⟨Kd.S_below HK.out HBA.out⟩, ⟨blk_below BN4.out HBA.out⟩, ⟨below_step HB.out HBA.out⟩⟩
         ·have := HI2.out
          first | (rw [show ((n + 1 : Nat) : Int) = i + 1 from by omega]; done) | (simp; omega)
         ·by_cases hj' : j < n
          ·exact HOK.out j hj'
          ·rw [show j = n by omega]
           exact HNX.out
       ·have z1 : decide (0 < (bl.length : Int)) = false := decide_eq_false (by omega)
        have z2 : decide (0 < bl.length) = false := decide_eq_false hz
        have HNX := Aside0.mk (show okEq l0 kids l2 n = true by unfold okEq; rw [HBL.out, decide_eq_true (show bl.length = 0 by omega), Bool.true_or])
        clear hz
        go_wp2_with (first | (go_at_call 42; (with_reducible refine HCALL.out.mono ?_); rintro e w11 ⟨Ab, cb, rfl, hRb, hb⟩; have HRB := Aside0.mk (Kd.R_reads' hRb).2; have HB11 := Aside0.mk hb; replace hcn0 := (hb.cell (World.block_lt_of_cell? _ _ hcn0)).trans hcn0; replace hcn1 := (hb.cell (World.block_lt_of_cell? _ _ hcn1)).trans hcn1; replace hlo := (hb.cell (World.block_lt_of_cell? _ _ hlo)).trans hlo; clear hRb hb))
        have HBA := Aside0.mk (below_step HB10.out HB11.out)
        go_roundg (gk - 1)
        case measure => have := HM.out; have := HI2.out; omega
        case rel =>
         refine ⟨n + 1, ?_, ⟨by have := HM.out; have := HI2.out; omega⟩, ⟨fun j hj => ?_⟩, ⟨Kd.R_below HRV.out HBA.out⟩, ⟨Kd.S_below HK.out HBA.out⟩, ⟨blk_below BN4.out HBA.out⟩, ⟨below_step HB.out HBA.out⟩⟩
         ·have := HI2.out
          first | (rw [show ((n + 1 : Nat) : Int) = i + 1 from by omega]; done) | (simp; omega)
         ·by_cases hj' : j < n
          ·exact HOK.out j hj'
          ·rw [show j = n by omega]
           exact HNX.out
      ·have q2' : decide ((n : Int) < (l0.length : Int)) = false := decide_eq_false (by omega)
       have q2'' : decide (n < l0.length) = false := decide_eq_false hlt
       have HF := Aside0.mk (show r1 = true by rw [← HE2.out]; exact all_true (fun j hj => HOK.out j (by have := HM.out; omega)))
       clear hlt
       go_wp2
       go_ret2
       exact ⟨by rw [HF.out]; rfl, HB.out⟩
end
section
theorem eqA38 (d : Nat) (w : World) (x0 y0 : Int) (x1 y1 : Int) :
  (Op.equalIn (d + 2) 38 (.agg #[.int .i64 x0, .int .i64 x1]) (.agg #[.int .i64 y0, .int .i64 y1])).run Try.prog w = .ok (x0 == y0 && (x1 == y1)) w := by
 refine eqA_of Try.underlying38 (by kernel_rfl) ?_
 refine eqf_cons (by rfl) (by go_simp; rfl) (by go_simp; rfl) (by go_simp) ?_
 exact eqf_last (by rfl) (by go_simp; rfl) (by go_simp; rfl) (by go_simp)
end
section
theorem eqA40 (d : Nat) (w : World) (x0 y0 : Int) (x1 y1 : Int) (x2 y2 : Int) (x3 y3 : Int) (x4 y4 : Bool) :
  (Op.equalIn (d + 3) 40 (.agg #[.int .i64 x0, .int .i64 x1, .int .i64 x2, .int .i64 x3, .bool x4]) (.agg #[.int .i64 y0, .int .i64 y1, .int .i64 y2, .int .i64 y3, .bool y4])).run Try.prog w = .ok (x0 == y0 && (x1 == y1 && ((x2 == y2 && (x3 == y3)) && (x4 == y4)))) w := by
 refine eqA_of Try.underlying40 (by kernel_rfl) ?_
 refine eqf_cons (by rfl) (by go_simp; rfl) (by go_simp; rfl) (by go_simp) ?_
 refine eqf_cons (by rfl) (by go_simp; rfl) (by go_simp; rfl) (by go_simp) ?_
 refine eqf_cons (by rfl) (by go_simp) (by go_simp) (eqA38 (d + 0) w _ _ _ _) ?_
 exact eqf_last (by rfl) (by go_simp; rfl) (by go_simp; rfl) (by go_simp)
end
section
open Go.Proofs.YthjjabcbngffoaaH
def amtB (l : List Int) : Bool := l.all (fun n => decide (-1000000000 ≤ n) && decide (n ≤ 1000000000))
theorem amtB_at {l : List Int} (h : amtB l = true) (i : Int) (h0 : 0 ≤ i) (h1 : i < l.length) : -1000000000 ≤ rd l i ∧ rd l i ≤ 1000000000 := by
 unfold amtB at h
 rw [List.all_eq_true] at h
 have hm : rd l i ∈ l := by
  have h' : i.toNat < l.length := by omega
  simp [rd, List.getD_eq_getElem?_getD, h']
 have := h _ hm
 simp only [Bool.and_eq_true, decide_eq_true_eq] at this
 exact this
theorem amt1_calls (n : Int) (w : World) (h0 : -1000000000 ≤ n) (h1 : n ≤ 1000000000) :
  Calls Try.prog 88 #[.int .i64 n] w fun e w' => e = .returned (.bool false) ∧ Below w.heap.size w w' := by
 have d1 : decide (n < -1000000000) = false := decide_eq_false (by omega)
 have d2 : decide (1000000000 < n) = false := decide_eq_false (by omega)
 clear h0 h1
 go_enter Try.func88, Try.ntmps88
 go_wp2
 go_ret
 exact ⟨rfl, Below.refl _ _⟩
theorem amt_index (A0 : Option Addr) (c0 : Nat) (l0 : List Int) (w : World) (hr0 : Kd.C (Kd.int .i64) w A0 l0.length l0) (hn : l0.length ≤ 140737488355328) (ha : amtB l0 = true) :
 Calls Try.prog 95 #[.slice A0 l0.length c0, .func (.func 88) #[] #[]] w fun e w' => e = .returned (.int .i64 (-1)) ∧ Below w.heap.size w w' := by
 have HR0 := Aside0.mk hr0
 have HN := Aside0.mk hn
 have HA := Aside0.mk ha
 clear hr0 hn ha
 have HB := Aside0.mk (Below.refl w.heap.size w)
 go_enter Try.func95, Try.ntmps95
 go_wp2
 go_loopg [8] l0.length (fun kq v8 w' => ∃ (i : Int), v8 = .int .i64 i ∧ Aside0 (0 ≤ i ∧ kq + i.toNat = l0.length) ∧ Aside0 (Below w.heap.size w w'))
 case atStart => exact ⟨0, rfl, ⟨by simp⟩, HB⟩
 case round =>
  obtain ⟨i, rfl, HK, HB⟩ := hrel
  by_cases hlt : i < l0.length
  ·have c1 : decide ((i:Int) < (l0.length : Int)) = true := decide_eq_true hlt
   have c2 : (0 ≤ i) = True := eq_true HK.out.1
   have c3 : (i < l0.length) = True := eq_true hlt
   have HP := Aside0.mk (amtB_at HA.out i HK.out.1 hlt)
   obtain ⟨ad, e, hx0⟩ := Kd.at_int (Kd.C_below HR0.out HB.out) i HK.out.1 hlt
   cases e
   have HL := Aside0.mk hlt
   clear hlt
   have hw1 : i + 1 ≤ 9223372036854775807 := by have := HN.out; have := HL.out; omega
   have hw2 : 0 ≤ i + 1 := by have := HK.out; omega
   go_wp2_with (first | ((with_reducible refine (amt1_calls (rd l0 i) _ HP.out.1 HP.out.2).mono ?_); rintro e w1 ⟨rfl, hb⟩; have HB1 := Aside0.mk hb; clear hb))
   go_roundg (gk - 1)
   case measure => have := HK.out; have := HL.out; omega
   case rel =>
    refine ⟨i + 1, ?_, ⟨by have := HK.out; have := HL.out; omega⟩, ⟨HB.out.trans (HB1.out.mono HB.out.size)⟩⟩
    first | rfl | (simp; done)
  ·have c1 : decide ((i:Int) < (l0.length : Int)) = false := decide_eq_false hlt
   clear hlt
   go_wp2
   go_ret
   exact ⟨rfl, HB.out⟩
theorem amt_calls (A0 : Option Addr) (c0 : Nat) (l0 : List Int) (w : World) (hr0 : Kd.C (Kd.int .i64) w A0 l0.length l0) (hn : l0.length ≤ 140737488355328) (ha : amtB l0 = true) :
 Calls Try.prog 87 #[.slice A0 l0.length c0, .func (.func 88) #[] #[]] w fun e w' => e = .returned (.bool false) ∧ Below w.heap.size w w' := by
 have HR0 := Aside0.mk hr0
 clear hr0
 go_enter Try.func87, Try.ntmps87
 go_wp2_with (first | ((with_reducible refine (amt_index _ _ l0 _ HR0.out hn ha).mono ?_); rintro e w1 ⟨rfl, hb⟩; have HB1 := Aside0.mk hb; clear hb))
 go_ret
 exact ⟨rfl, HB1.out⟩
theorem isAmount_calls (A0 : Option Addr) (c0 : Nat) (l0 : List Int) (w : World) (hr0 : Kd.C (Kd.int .i64) w A0 l0.length l0) (hn : l0.length ≤ 140737488355328) (ha : amtB l0 = true) :
  Calls Try.prog 70 #[.slice A0 l0.length c0] w fun e w' => e = .returned (.bool true) ∧ Below w.heap.size w w' := by
 have HR0 := Aside0.mk hr0
 clear hr0
 go_enter Try.func70, Try.ntmps70
 go_wp2_with (first | ((with_reducible refine (amt_calls _ _ l0 _ HR0.out hn ha).mono ?_); rintro e w1 ⟨rfl, hb⟩; have HB1 := Aside0.mk hb; clear hb))
 go_ret
 exact ⟨rfl, HB1.out⟩
end
section
open Go.Proofs.YthjjabcbngffoaaH
def seenB (l : List S40) (n : Nat) (k : Int) : Bool := (List.range n).any (fun j => decide (k = (rd_T40 l j).f0))
theorem seenB_succ (l : List S40) (n : Nat) : (fun k' => if k' = (rd_T40 l n).f0 then true else seenB l n k') = seenB l (n + 1) := by
 funext k
 unfold seenB
 rw [List.range_succ, List.any_append]
 by_cases h : k = (rd_T40 l n).f0 <;> simp [h]
def oneB (x : S40) : Bool := decide (1 ≤ x.f0) && decide (x.f0 ≤ 64) && (amtB [x.f2.f0, x.f2.f1] && (decide (x.f2.f0 ≤ x.f1) && decide (x.f1 ≤ x.f2.f1) && (x.f3 == (x.f2.f1 == x.f2.f0))))
def chgsB (l : List S40) : Bool := decide (l.length ≤ 64) && (List.range l.length).all (fun j => oneB (rd_T40 l j) && !seenB l j (rd_T40 l j).f0)
theorem chgsB_at {l : List S40} (h : chgsB l = true) : l.length ≤ 64 ∧ ∀ j : Nat, j < l.length → oneB (rd_T40 l j) = true ∧ seenB l j (rd_T40 l j).f0 = false := by
 unfold chgsB at h
 rw [Bool.and_eq_true, decide_eq_true_eq, List.all_eq_true] at h
 refine ⟨h.1, fun j hj => ?_⟩
 have := h.2 j (List.mem_range.2 hj)
 rw [Bool.and_eq_true, Bool.not_eq_true'] at this
 exact this
theorem oneB_at {x : S40} (h : oneB x = true) : 1 ≤ x.f0 ∧ x.f0 ≤ 64 ∧ amtB [x.f2.f0, x.f2.f1] = true ∧ x.f2.f0 ≤ x.f1 ∧ x.f1 ≤ x.f2.f1 ∧ x.f3 = (x.f2.f1 == x.f2.f0) := by
 unfold oneB at h
 simp only [Bool.and_eq_true, decide_eq_true_eq, beq_iff_eq] at h
 exact ⟨h.1.1, h.1.2, h.2.1, h.2.2.1.1, h.2.2.1.2, h.2.2.2⟩
theorem eqR38 (d : Nat) (w : World) (x0 y0 : Int) (x1 y1 : Int) :
  (Op.equalIn (d + 2) 38 (.agg #[.int .i64 x0, .int .i64 x1]) (.agg #[.int .i64 y0, .int .i64 y1])).run Try.prog w = .ok (x0 == y0 && (x1 == y1)) w := by
 refine eqA_of Try.underlying38 (by kernel_rfl) ?_
 refine eqf_cons (by rfl) (by go_simp; rfl) (by go_simp; rfl) (by go_simp) ?_
 exact eqf_last (by rfl) (by go_simp; rfl) (by go_simp; rfl) (by go_simp)
attribute [local go_sem high] eqR38
theorem look_no {w : World} {gm : Nat} {m : Int → Bool} {k : Int} (h : MapI w gm (mapVB m)) (hk : m k = false) : (Instr.lookup 77 (.map (some gm)) (.int .i64 k) false).run Try.prog w = .ok (.bool false) w := by
 have := run_lookI h Try.underlying77 Try.underlying3 (Try.zeroValue4 w) k false
 rw [if_neg (by decide), mapVB_get, hk] at this
 exact this
set_option maxHeartbeats 16000000 in
theorem chgs_calls (A0 : Option Addr) (c0 : Nat) (l0 : List (S40)) (w : World) (hr0 : Kd.C k40 w A0 l0.length l0) (hok : chgsB l0 = true) :
  Calls Try.prog 84 #[.slice A0 l0.length c0] w fun e w' => e = .returned (.bool true) ∧ Below w.heap.size w w' := by
 have hu38 := Try.underlying38
 have hu40 := Try.underlying40
 have HR0 := Aside0.mk hr0
 have HOK := Aside0.mk (chgsB_at hok)
 clear hr0 hok
 have HBW := Aside0.mk (Below.refl w.heap.size w)
 have hmm := @run_makeMap Try.prog
 have d70 : decide ((l0.length : Int) ≤ 64) = true := decide_eq_true (by have := HOK.out.1; omega)
 have d71 : decide (l0.length ≤ 64) = true := decide_eq_true HOK.out.1
 go_enter Try.func84, Try.ntmps84
 go_wp2
 obtain ⟨gm, hgm⟩ : ∃ gm, gm = w.heap.size := ⟨_, rfl⟩
 obtain ⟨w4, hw4⟩ : ∃ w4, w4 = w.alloc (Obj.map #[] 0) := ⟨_, rfl⟩
 rw [← hw4, ← hgm]
 have HM4 := Aside0.mk (show MapI w4 gm (mapVB (seenB l0 0)) by rw [hw4, hgm]; exact (MapI.made w).eq (fun k => rfl))
 have HB4 := Aside0.mk (show Below w.heap.size w w4 by rw [hw4]; exact below_alloc (Below.refl _ _) _)
 have GM := Aside0.mk (show w.heap.size ≤ gm by omega)
 clear hw4 hgm HBW
 go_loopg [10] l0.length (fun kq v10 wr => ∃ n : Nat, v10 = .int .i64 n ∧ Aside0 (kq + n = l0.length) ∧ Aside0 (MapI wr gm (mapVB (seenB l0 n))) ∧ Aside0 (Below w.heap.size w wr))
 case atStart => exact ⟨0, rfl, ⟨by omega⟩, HM4, HB4⟩
 case round =>
  clear HM4 HB4
  obtain ⟨n, rfl, HK, HM, HB⟩ := hrel
  by_cases hlt : n < l0.length
  case neg =>
   have d7 : decide ((n : Int) < (l0.length : Int)) = false := decide_eq_false (by omega)
   have d7' : decide (n < l0.length) = false := decide_eq_false hlt
   clear hlt
   go_wp2
   go_ret
   exact ⟨rfl, HB.out⟩
  obtain ⟨i, hi⟩ : ∃ i : Int, i = (n : Int) := ⟨_, rfl⟩
  rw [← hi]
  have HI2 := Aside0.mk (show 0 ≤ i ∧ i < l0.length ∧ i = (n : Int) from ⟨by omega, by omega, hi⟩)
  have d7 : decide (i < (l0.length : Int)) = true := decide_eq_true HI2.out.2.1
  have ci2 : (0 ≤ i) = True := eq_true HI2.out.1
  have ci3 : (i < l0.length) = True := eq_true HI2.out.2.1
  obtain ⟨adp, ep, hx0, hx1, hx2, hx3, hx4⟩ := at_T40 (Kd.C_below HR0.out HB.out) i HI2.out.1 HI2.out.2.1
  subst ep
  have ho1 := (HOK.out.2 n hlt).1
  have ho2 := (HOK.out.2 n hlt).2
  rw [← hi] at ho1 ho2
  have hs1 := seenB_succ l0 n
  rw [← hi] at hs1
  obtain ⟨⟨h, c, ⟨lo, hi_⟩, s⟩, hp⟩ : ∃ p, p = rd_T40 l0 i := ⟨_, rfl⟩
  rw [← hp] at hx0 hx1 hx2 hx3 hx4 ho1 ho2 hs1
  obtain ⟨o1, o2, HAM, o4, o5, o6⟩ := oneB_at ho1
  dsimp only at hx0 hx1 hx2 hx3 hx4 o1 o2 HAM o4 o5 o6 ho2 hs1
  subst o6
  have HAMT := Aside0.mk HAM
  have HNO := Aside0.mk ho2
  have HS1 := Aside0.mk hs1
  have t1 : decide (h < 1) = false := decide_eq_false (by omega)
  have t2 : decide (64 < h) = false := decide_eq_false (by omega)
  have t3 : decide (c < lo) = false := decide_eq_false (by omega)
  have t4 : decide (hi_ < c) = false := decide_eq_false (by omega)
  have hz1 : i + 1 ≤ 9223372036854775807 := by have := HI2.out; have := HOK.out.1; omega
  have hz2 : -9223372036854775808 ≤ i + 1 := by have := HI2.out; omega
  clear hi hlt hp ho1 ho2 hs1 HAM o1 o2 o4 o5
  have HB0 := Aside0.mk (Below.refl wr.heap.size wr)
  go_upto_region 5 with (first | ((with_reducible refine gate_dst (N := 5) rfl ?_); refine box_event ?hg (N := 5) ?hd (cs := #[.int .i64 0, .int .i64 0, .int .i64 0, .int .i64 0, .bool false]) (t := 40) ?hr ?_; (case hd => rfl); (case hg => rfl); (case hr => first | (go_simp; done) | (go_simp; rfl)); intro gx hg_X w9 hbox_ hb_; have n0_ := Aside0.mk (below_step HB0.out hb_); have BX := Aside0.mk hbox_; have GX := Aside0.mk (show wr.heap.size ≤ gx by rw [hg_X]; exact below_size HB0.out); have EX := Aside0.mk hg_X; have hcX0 : w9.cell? ⟨gx, 0, none⟩ = some (.int .i64 0) := (blk_cell hbox_ 0).trans rfl; have hfX0 := blk_frozen hbox_ 0; have hcX1 : w9.cell? ⟨gx, 1, none⟩ = some (.int .i64 0) := (blk_cell hbox_ 1).trans rfl; have hfX1 := blk_frozen hbox_ 1; have hcX2 : w9.cell? ⟨gx, 2, none⟩ = some (.int .i64 0) := (blk_cell hbox_ 2).trans rfl; have hfX2 := blk_frozen hbox_ 2; have hcX3 : w9.cell? ⟨gx, 3, none⟩ = some (.int .i64 0) := (blk_cell hbox_ 3).trans rfl; have hfX3 := blk_frozen hbox_ 3; have hcX4 : w9.cell? ⟨gx, 4, none⟩ = some (.bool false) := (blk_cell hbox_ 4).trans rfl; have hfX4 := blk_frozen hbox_ 4; clear HB0 hg_X hbox_ hb_; have HB0 := n0_; clear n0_))
  obtain ⟨w10, hw10⟩ : ∃ w10, w10 = ((((w9.setCell ⟨gx, 0, none⟩ (.int .i64 h)).setCell ⟨gx, 1, none⟩ (.int .i64 c)).setCell ⟨gx, 2, none⟩ (.int .i64 lo)).setCell ⟨gx, 3, none⟩ (.int .i64 hi_)).setCell ⟨gx, 4, none⟩ (.bool (hi_ == lo)) := ⟨_, rfl⟩
  rw [← hw10]
  have BX10 := Aside0.mk (show w10.heap[gx]? = some (.cells #[.int .i64 h, .int .i64 c, .int .i64 lo, .int .i64 hi_, .bool (hi_ == lo)] 40 (0, 0)) by rw [hw10]; exact blk_put (blk_put (blk_put (blk_put (blk_put BX.out 0 _ rfl) 1 _ rfl) 2 _ rfl) 3 _ rfl) 4 _ rfl)
  have HB10 := Aside0.mk (show Below wr.heap.size wr w10 by rw [hw10]; exact below_set (below_set (below_put3 HB0.out GX.out _ _ _) GX.out) GX.out)
  clear hw10 BX HB0 hcX0 hcX1 hcX2 hcX3 hcX4 hfX0 hfX1 hfX2 hfX3 hfX4 hx0 hx1 hx2 hx3 hx4
  have hcx2 : w10.cell? ⟨gx, 2, none⟩ = some (.int .i64 lo) := (blk_cell BX10.out 2).trans rfl
  have hcx3 : w10.cell? ⟨gx, 3, none⟩ = some (.int .i64 hi_) := (blk_cell BX10.out 3).trans rfl
  have HB00 := Aside0.mk (Below.refl w10.heap.size w10)
  go_upto_region 6 with (first | ((with_reducible refine gate_dst (N := 6) rfl ?_); refine box_event ?hg (N := 6) ?hd (cs := #[.int .i64 0, .int .i64 0]) (t := 38) ?hr ?_; (case hd => rfl); (case hg => rfl); (case hr => first | (go_simp; done) | (go_simp; rfl)); intro gb hg_B w11 hbox_ hb_; have n0_ := Aside0.mk (below_step HB00.out hb_); have BB := Aside0.mk hbox_; have GB := Aside0.mk (show w10.heap.size ≤ gb by rw [hg_B]; exact below_size HB00.out); have EB := Aside0.mk hg_B; have hcB0 : w11.cell? ⟨gb, 0, none⟩ = some (.int .i64 0) := (blk_cell hbox_ 0).trans rfl; have hfB0 := blk_frozen hbox_ 0; have hcB1 : w11.cell? ⟨gb, 1, none⟩ = some (.int .i64 0) := (blk_cell hbox_ 1).trans rfl; have hfB1 := blk_frozen hbox_ 1; clear HB00 hg_B hbox_ hb_; have HB00 := n0_; clear n0_))
  obtain ⟨w12, hw12⟩ : ∃ w12, w12 = (w11.setCell ⟨gb, 0, none⟩ (.int .i64 lo)).setCell ⟨gb, 1, none⟩ (.int .i64 hi_) := ⟨_, rfl⟩
  rw [← hw12]
  have BB12 := Aside0.mk (show w12.heap[gb]? = some (.cells #[.int .i64 lo, .int .i64 hi_] 38 (0, 0)) by rw [hw12]; exact blk_put2 BB.out _ _)
  have HB12 := Aside0.mk (show Below w10.heap.size w10 w12 by rw [hw12]; exact below_put2 HB00.out GB.out _ _)
  clear hw12 BB HB00 hcB0 hcB1 hfB0 hfB1 hcx2 hcx3
  have BX12 := Aside0.mk (blk_below BX10.out HB12.out)
  have HM12 := Aside0.mk ((HM.out.below HB10.out).below HB12.out)
  have HBA := Aside0.mk (below_step (below_step HB.out HB10.out) HB12.out)
  have HB12d := Aside0.mk (below_drew (Below.refl w12.heap.size w12))
  clear HB10 HB12 BX10 HM HB
  refine start_ (n := 49) (S := fun w' => w'.cell? ⟨gx, 0, none⟩ = some (.int .i64 h) ∧ w'.cell? ⟨gx, 1, none⟩ = some (.int .i64 c) ∧ w'.cell? ⟨gx, 4, none⟩ = some (.bool (hi_ == lo)) ∧ w'.cell? ⟨gb, 0, none⟩ = some (.int .i64 lo) ∧ w'.cell? ⟨gb, 1, none⟩ = some (.int .i64 hi_) ∧ (Instr.lookup 77 (.map (some gm)) (.int .i64 h) false).run Try.prog w' = .ok (.bool false) w') (ds := []) #[n_, n_, n_, n_, n_, n_, n_, n_, n_, n_, n_, n_, n_, n_, n_, n_, n_, n_, n_, n_, n_, n_, n_, n_, n_, n_, n_, n_, n_, n_, n_, n_, n_, n_, n_, n_, n_, n_, n_, n_, n_, n_, n_, n_, n_, n_, n_, n_, n_] (by kernel_rfl) rfl rfl ⟨(blk_cell (show w12.drew.heap[gx]? = _ from BX12.out) 0).trans rfl, (blk_cell (show w12.drew.heap[gx]? = _ from BX12.out) 1).trans rfl, (blk_cell (show w12.drew.heap[gx]? = _ from BX12.out) 4).trans rfl, (blk_cell (show w12.drew.heap[gb]? = _ from BB12.out) 0).trans rfl, (blk_cell (show w12.drew.heap[gb]? = _ from BB12.out) 1).trans rfl, look_no HM12.out.drew HNO.out⟩ (fun hHeld => ?_)
  refine pv_ 0 16 (w_ 49 1) rfl ?_
  refine tb_ 1 17 (w_ 49 3) rfl hHeld (by rintro w' ⟨s0, s1, s2, s3, s4, s5⟩; go_simp; with_reducible rfl) ?_
  refine pv_ 2 18 (w_ 49 7) rfl ?_
  refine pv_ 3 19 (w_ 49 15) rfl ?_
  refine pv_ 4 20 (w_ 49 31) rfl ?_
  refine tb_ 5 21 (w_ 49 63) rfl hHeld (by rintro w' ⟨s0, s1, s2, s3, s4, s5⟩; go_simp; with_reducible rfl) ?_
  refine pv_ 6 22 (w_ 49 127) rfl ?_
  refine pv_ 7 23 (w_ 49 255) rfl ?_
  refine pv_ 8 24 (w_ 49 511) rfl ?_
  refine pv_ 9 25 (w_ 49 1023) rfl ?_
  refine pv_ 10 26 (w_ 49 2047) rfl ?_
  refine tb_ 11 27 (w_ 49 4095) rfl hHeld (by rintro w' ⟨s0, s1, s2, s3, s4, s5⟩; go_simp; with_reducible rfl) ?_
  refine tb_ 12 28 (w_ 49 8191) rfl hHeld (by rintro w' ⟨s0, s1, s2, s3, s4, s5⟩; go_simp; with_reducible rfl) ?_
  refine pv_ 13 29 (w_ 49 16383) rfl ?_
  refine pv_ 14 30 (w_ 49 32767) rfl ?_
  refine pv_ 15 31 (w_ 49 65535) rfl ?_
  refine pv_ 17 33 (w_ 49 196607) rfl ?_
  refine tb_ 16 32 (w_ 49 262143) rfl hHeld (by rintro w' ⟨s0, s1, s2, s3, s4, s5⟩; go_simp; with_reducible rfl) ?_
  refine tb_ 18 34 (w_ 49 524287) rfl hHeld (by rintro w' ⟨s0, s1, s2, s3, s4, s5⟩; go_simp; with_reducible rfl) ?_
  refine one_ (i := 19) (N := some 35) (w_ 49 1048575) rfl rfl (by kernel_rfl) (by decide) (fun K hK => ?_)
  refine Kd.R_lit_step (Kd.int .i64) (w0 := w12.drew) _ 3 ?hw (N := 35) ?hd (xs := [lo, hi_]) (inner := [.int .i64 lo, .int .i64 hi_]) (ok := fun _ => True) (okp := fun _ => True) ?hr ?hp (fun _ hk => hk) trivial (Below.refl _ _) (Nat.le_refl _) (by simp) ?_
  (case hw => rfl)
  (case hd => rfl)
  (case hr => first | (go_simp; done) | (go_simp; rfl))
  (case hp => exact (Reps.one (show Kd.M (Kd.int .i64) _ _ _ lo [.int .i64 lo] from rfl) (Reps.one (show Kd.M (Kd.int .i64) _ _ _ hi_ [.int .i64 hi_] from rfl) (Reps.none _ _))))
  intro v35 w13 ho_ hb_ hg_ hnew_
  obtain ⟨A35, c35, rfl⟩ := Kd.R_slice ho_
  have HO13 := Aside0.mk ho_
  have BX13 := Aside0.mk (blk_below (show w12.drew.heap[gx]? = _ from BX12.out) hb_)
  have BB13 := Aside0.mk (blk_below (show w12.drew.heap[gb]? = _ from BB12.out) hb_)
  have HM13 := Aside0.mk (HM12.out.drew.below hb_)
  have HB13 := Aside0.mk (below_step HB12d.out hb_)
  clear ho_ hb_ hg_ hnew_
  refine hK.out _ _ ⟨(blk_cell BX13.out 0).trans rfl, (blk_cell BX13.out 1).trans rfl, (blk_cell BX13.out 4).trans rfl, (blk_cell BB13.out 0).trans rfl, (blk_cell BB13.out 1).trans rfl, look_no HM13.out HNO.out⟩ (fun hHeld => ?_)
  clear hK K
  refine norm_ (a' := ?_) ?_ ?_
  rotate_left
  ·show Act.put _ (some 35) _ = _
   simp only [Act.put, sI_, s0_, sS_, i64_w, i32_w]
   rfl
  refine one_ (i := 20) (N := some 36) (w_ 49 2097151) rfl rfl (by kernel_rfl) (by decide) (fun K hK => ?_)
  refine goes_ Try.func70 (by kernel_rfl) rfl #[.slice A35 [lo, hi_].length c35] (by rfl) rfl rfl (by simp only [List.map_toArray, List.map_cons, List.map_nil]; rfl) ?_
  with_reducible refine (isAmount_calls A35 c35 [lo, hi_] _ (Kd.R_reads' HO13.out).2.2 (by simp) HAMT.out).mono ?_
  rintro e w14 ⟨rfl, hb_⟩
  refine ⟨_, rfl, ?_⟩
  have BX14 := Aside0.mk (blk_below BX13.out hb_)
  have BB14 := Aside0.mk (blk_below BB13.out hb_)
  have HM14 := Aside0.mk (HM13.out.below hb_)
  have HB14 := Aside0.mk (below_step HB13.out hb_)
  have hcx0 : w14.cell? ⟨gx, 0, none⟩ = some (.int .i64 h) := (blk_cell BX14.out 0).trans rfl
  clear hb_
  refine hK.out _ _ ⟨(blk_cell BX14.out 0).trans rfl, (blk_cell BX14.out 1).trans rfl, (blk_cell BX14.out 4).trans rfl, (blk_cell BB14.out 0).trans rfl, (blk_cell BB14.out 1).trans rfl, look_no HM14.out HNO.out⟩ (fun hHeld => ?_)
  clear hK K
  refine norm_ (a' := ?_) ?_ ?_
  rotate_left
  ·show Act.put _ (some 36) _ = _
   simp only [Act.put, sI_, s0_, sS_, i64_w, i32_w]
   rfl
  refine pv_ 21 37 (w_ 49 4194303) rfl ?_
  refine pv_ 22 38 (w_ 49 8388607) rfl ?_
  refine pv_ 23 39 (w_ 49 16777215) rfl ?_
  refine pv_ 24 40 (w_ 49 33554431) rfl ?_
  refine pv_ 26 42 (w_ 49 100663295) rfl ?_
  refine tb_ 25 41 (w_ 49 134217727) rfl hHeld (by rintro w' ⟨s0, s1, s2, s3, s4, s5⟩; go_simp; with_reducible rfl) ?_
  refine tb_ 27 43 (w_ 49 268435455) rfl hHeld (by rintro w' ⟨s0, s1, s2, s3, s4, s5⟩; go_simp; with_reducible rfl) ?_
  refine pv_ 28 44 (w_ 49 536870911) rfl ?_
  refine pv_ 29 45 (w_ 49 1073741823) rfl ?_
  refine pv_ 30 46 (w_ 49 2147483647) rfl ?_
  refine pv_ 31 47 (w_ 49 4294967295) rfl ?_
  refine pv_ 33 49 (w_ 49 12884901887) rfl ?_
  refine tb_ 32 48 (w_ 49 17179869183) rfl hHeld (by rintro w' ⟨s0, s1, s2, s3, s4, s5⟩; go_simp; with_reducible rfl) ?_
  refine tb_ 34 50 (w_ 49 34359738367) rfl hHeld (by rintro w' ⟨s0, s1, s2, s3, s4, s5⟩; go_simp; with_reducible rfl) ?_
  refine pv_ 35 51 (w_ 49 68719476735) rfl ?_
  refine pv_ 36 52 (w_ 49 137438953471) rfl ?_
  refine pv_ 37 53 (w_ 49 274877906943) rfl ?_
  refine pv_ 38 54 (w_ 49 549755813887) rfl ?_
  refine pv_ 41 57 (w_ 49 2748779069439) rfl ?_
  refine pv_ 43 59 (w_ 49 11544872091647) rfl ?_
  refine tb_ 39 55 (w_ 49 12094627905535) rfl hHeld (by rintro w' ⟨s0, s1, s2, s3, s4, s5⟩; go_simp; with_reducible rfl) ?_
  refine tb_ 40 56 (w_ 49 13194139533311) rfl hHeld (by rintro w' ⟨s0, s1, s2, s3, s4, s5⟩; go_simp; with_reducible rfl) ?_
  refine tb_ 42 58 (w_ 49 17592186044415) rfl hHeld (by rintro w' ⟨s0, s1, s2, s3, s4, s5⟩; go_simp; with_reducible rfl) ?_
  refine tb_ 44 60 (w_ 49 35184372088831) rfl hHeld (by rintro w' ⟨s0, s1, s2, s3, s4, s5⟩; go_simp; with_reducible rfl) ?_
  refine pv_ 45 61 (w_ 49 70368744177663) rfl ?_
  refine pv_ 46 62 (w_ 49 140737488355327) rfl ?_
  refine pv_ 47 63 (w_ 49 281474976710655) rfl ?_
  refine pv_ 48 64 (w_ 49 562949953421311) rfl ?_
  refine done_ (by kernel_rfl) ?_
  go_wp2_with (first | ((with_reducible refine gate_ (op := .mapUpdate 77 (.tmp 65) (.tmp 67) (.const (.bool true))) rfl ?_); refine wpList_storeI _ rfl (.tmp 65) (.tmp 67) (.const (.bool true)) 77 rfl 3 4 Try.underlying77 Try.underlying3 gm (mapVB (seenB l0 n)) rfl HM14.out h rfl (.bool true) rfl ?_; intro w15 hm_ hg_; have HM15 := Aside0.mk (hm_.eq (mapVB_set _ _)); have HG15 := Aside0.mk hg_; clear hm_ hg_))
  go_roundg (gk - 1)
  case measure => have := HK.out; have := HI2.out; omega
  case rel =>
   refine ⟨n + 1, ?_, ⟨by have := HK.out; have := HI2.out; omega⟩, ⟨?_⟩, ⟨?_⟩⟩
   ·have := HI2.out
    first | (rw [show ((n + 1 : Nat) : Int) = i + 1 from by omega]; done) | (simp; omega)
   ·rw [← HS1.out]
    exact HM15.out
   ·exact grown_below (below_step HBA.out HB14.out) HG15.out (fun k e => by cases e; exact GM.out)
end
section
open Go.Proofs.YthjjabcbngffoaaH
def sameHB (a b : List S40) : Bool := decide (a.length = b.length) && (List.range a.length).all (fun j => (rd_T40 a j).f0 == (rd_T40 b j).f0)
theorem sameHB_at {a b : List S40} (h : sameHB a b = true) : a.length = b.length ∧ ∀ j : Nat, j < a.length → ((rd_T40 a j).f0 == (rd_T40 b j).f0) = true := by
 unfold sameHB at h
 rw [Bool.and_eq_true, decide_eq_true_eq, List.all_eq_true] at h
 exact ⟨h.1, fun j hj => h.2 j (List.mem_range.2 hj)⟩
theorem other_calls (x y : S40) (w : World) (h : (x.f0 == y.f0) = true) :
  Calls Try.prog 83 #[.agg #[.int .i64 x.f0, .int .i64 x.f1, .int .i64 x.f2.f0, .int .i64 x.f2.f1, .bool x.f3], .agg #[.int .i64 y.f0, .int .i64 y.f1, .int .i64 y.f2.f0, .int .i64 y.f2.f1, .bool y.f3]] w fun e w' => e = .returned (.bool true) ∧ Below w.heap.size w w' := by
 have hu38 := Try.underlying38
 have hu40 := Try.underlying40
 have HB := Aside0.mk (Below.refl w.heap.size w)
 go_enter Try.func83, Try.ntmps83
 go_wp2_with (first | ((with_reducible refine gate_dst (N := 2) rfl ?_); refine box_event ?hg (N := 2) ?hd (cs := #[.int .i64 x.f0, .int .i64 x.f1, .int .i64 x.f2.f0, .int .i64 x.f2.f1, .bool x.f3]) (t := 40) ?hr ?_; (case hd => rfl); (case hg => rfl); (case hr => first | (go_simp; done) | (go_simp; rfl)); intro g1 hg_X w1 hbox_ hb_; have n0_ := Aside0.mk (below_step HB.out hb_); have BX := Aside0.mk hbox_; have GX := Aside0.mk (show w.heap.size ≤ g1 by rw [hg_X]; exact below_size HB.out); have EX := Aside0.mk hg_X; have hcX0 : w1.cell? ⟨g1, 0, none⟩ = some (.int .i64 x.f0) := (blk_cell hbox_ 0).trans rfl; have hfX0 := blk_frozen hbox_ 0; have hcX1 : w1.cell? ⟨g1, 1, none⟩ = some (.int .i64 x.f1) := (blk_cell hbox_ 1).trans rfl; have hfX1 := blk_frozen hbox_ 1; have hcX2 : w1.cell? ⟨g1, 2, none⟩ = some (.int .i64 x.f2.f0) := (blk_cell hbox_ 2).trans rfl; have hfX2 := blk_frozen hbox_ 2; have hcX3 : w1.cell? ⟨g1, 3, none⟩ = some (.int .i64 x.f2.f1) := (blk_cell hbox_ 3).trans rfl; have hfX3 := blk_frozen hbox_ 3; have hcX4 : w1.cell? ⟨g1, 4, none⟩ = some (.bool x.f3) := (blk_cell hbox_ 4).trans rfl; have hfX4 := blk_frozen hbox_ 4; clear HB hg_X hbox_ hb_; have HB := n0_; clear n0_) | ((with_reducible refine gate_dst (N := 3) rfl ?_); refine box_event ?hg (N := 3) ?hd (cs := #[.int .i64 y.f0, .int .i64 y.f1, .int .i64 y.f2.f0, .int .i64 y.f2.f1, .bool y.f3]) (t := 40) ?hr ?_; (case hd => rfl); (case hg => rfl); (case hr => first | (go_simp; done) | (go_simp; rfl)); intro g2 hg_Y w2 hbox_ hb_; have n0_ := Aside0.mk (below_step HB.out hb_); have BY := Aside0.mk hbox_; have GY := Aside0.mk (show w.heap.size ≤ g2 by rw [hg_Y]; exact below_size HB.out); have EY := Aside0.mk hg_Y; have hcY0 : w2.cell? ⟨g2, 0, none⟩ = some (.int .i64 y.f0) := (blk_cell hbox_ 0).trans rfl; have hfY0 := blk_frozen hbox_ 0; have hcY1 : w2.cell? ⟨g2, 1, none⟩ = some (.int .i64 y.f1) := (blk_cell hbox_ 1).trans rfl; have hfY1 := blk_frozen hbox_ 1; have hcY2 : w2.cell? ⟨g2, 2, none⟩ = some (.int .i64 y.f2.f0) := (blk_cell hbox_ 2).trans rfl; have hfY2 := blk_frozen hbox_ 2; have hcY3 : w2.cell? ⟨g2, 3, none⟩ = some (.int .i64 y.f2.f1) := (blk_cell hbox_ 3).trans rfl; have hfY3 := blk_frozen hbox_ 3; have hcY4 : w2.cell? ⟨g2, 4, none⟩ = some (.bool y.f3) := (blk_cell hbox_ 4).trans rfl; have hfY4 := blk_frozen hbox_ 4; replace hcX0 := (hb_.cell (World.block_lt_of_cell? _ _ hcX0)).trans hcX0; replace hcX1 := (hb_.cell (World.block_lt_of_cell? _ _ hcX1)).trans hcX1; replace hcX2 := (hb_.cell (World.block_lt_of_cell? _ _ hcX2)).trans hcX2; replace hcX3 := (hb_.cell (World.block_lt_of_cell? _ _ hcX3)).trans hcX3; replace hcX4 := (hb_.cell (World.block_lt_of_cell? _ _ hcX4)).trans hcX4; clear HB hg_Y hbox_ hb_; have HB := n0_; clear n0_))
 go_ret
 exact ⟨rfl, HB.out⟩
set_option maxHeartbeats 16000000 in
theorem equal_calls (A0 A1 : Option Addr) (c0 c1 : Nat) (l0 l1 : List (S40)) (w : World) (hr0 : Kd.C k40 w A0 l0.length l0) (hr1 : Kd.C k40 w A1 l1.length l1) (h64 : l0.length ≤ 64) (hs : sameHB l0 l1 = true) :
  Calls Try.prog 85 #[.slice A0 l0.length c0, .slice A1 l1.length c1, .func (.func 83) #[] #[]] w fun e w' => e = .returned (.bool true) ∧ Below w.heap.size w w' := by
 have hu38 := Try.underlying38
 have hu40 := Try.underlying40
 obtain ⟨hl, hs⟩ := sameHB_at hs
 rw [← hl] at hr1 ⊢
 have HR0 := Aside0.mk hr0
 have HR1 := Aside0.mk hr1
 have HS := Aside0.mk hs
 have H64 := Aside0.mk h64
 clear hr0 hr1 hl hs h64
 have HBW := Aside0.mk (Below.refl w.heap.size w)
 go_enter Try.func85, Try.ntmps85
 go_wp2
 go_loopg [17] l0.length (fun kq v17 wr => ∃ n : Nat, v17 = .int .i64 n ∧ Aside0 (kq + n = l0.length) ∧ Aside0 (Below w.heap.size w wr))
 case atStart => exact ⟨0, rfl, ⟨by omega⟩, HBW⟩
 case round =>
  clear HBW
  obtain ⟨n, rfl, HK, HB⟩ := hrel
  by_cases hlt : n < l0.length
  case neg =>
   have d7 : decide ((n : Int) < (l0.length : Int)) = false := decide_eq_false (by omega)
   have d7' : decide (n < l0.length) = false := decide_eq_false hlt
   clear hlt
   go_wp2
   go_ret
   exact ⟨rfl, HB.out⟩
  obtain ⟨i, hi⟩ : ∃ i : Int, i = (n : Int) := ⟨_, rfl⟩
  rw [← hi]
  have HI2 := Aside0.mk (show 0 ≤ i ∧ i < l0.length ∧ i = (n : Int) from ⟨by omega, by omega, hi⟩)
  have d7 : decide (i < (l0.length : Int)) = true := decide_eq_true HI2.out.2.1
  have ci2 : (0 ≤ i) = True := eq_true HI2.out.1
  have ci3 : (i < l0.length) = True := eq_true HI2.out.2.1
  obtain ⟨adp, ep, hx0, hx1, hx2, hx3, hx4⟩ := at_T40 (Kd.C_below HR0.out HB.out) i HI2.out.1 HI2.out.2.1
  subst ep
  obtain ⟨adq, eq_, hy0, hy1, hy2, hy3, hy4⟩ := at_T40 (Kd.C_below HR1.out HB.out) i HI2.out.1 HI2.out.2.1
  subst eq_
  have hs1 := HS.out n hlt
  rw [← hi] at hs1
  obtain ⟨x, hx⟩ : ∃ x, x = rd_T40 l0 i := ⟨_, rfl⟩
  obtain ⟨y, hy⟩ : ∃ y, y = rd_T40 l1 i := ⟨_, rfl⟩
  rw [← hx] at hx0 hx1 hx2 hx3 hx4 hs1
  rw [← hy] at hy0 hy1 hy2 hy3 hy4 hs1
  have HSX := Aside0.mk hs1
  have hz1 : i + 1 ≤ 9223372036854775807 := by have := HI2.out; have := H64.out; omega
  have hz2 : -9223372036854775808 ≤ i + 1 := by have := HI2.out; omega
  clear hi hlt hx hy hs1
  have HB0 := Aside0.mk (Below.refl wr.heap.size wr)
  go_upto_region 6 with (first | ((with_reducible refine gate_dst (N := 8) rfl ?_); refine box_event ?hg (N := 8) ?hd (cs := #[.int .i64 0, .int .i64 0, .int .i64 0, .int .i64 0, .bool false]) (t := 40) ?hr ?_; (case hd => rfl); (case hg => rfl); (case hr => first | (go_simp; done) | (go_simp; rfl)); intro gx hg_X w9 hbox_ hb_; have n0_ := Aside0.mk (below_step HB0.out hb_); have BX := Aside0.mk hbox_; have GX := Aside0.mk (show wr.heap.size ≤ gx by rw [hg_X]; exact below_size HB0.out); have EX := Aside0.mk hg_X; have hcX0 : w9.cell? ⟨gx, 0, none⟩ = some (.int .i64 0) := (blk_cell hbox_ 0).trans rfl; have hfX0 := blk_frozen hbox_ 0; have hcX1 : w9.cell? ⟨gx, 1, none⟩ = some (.int .i64 0) := (blk_cell hbox_ 1).trans rfl; have hfX1 := blk_frozen hbox_ 1; have hcX2 : w9.cell? ⟨gx, 2, none⟩ = some (.int .i64 0) := (blk_cell hbox_ 2).trans rfl; have hfX2 := blk_frozen hbox_ 2; have hcX3 : w9.cell? ⟨gx, 3, none⟩ = some (.int .i64 0) := (blk_cell hbox_ 3).trans rfl; have hfX3 := blk_frozen hbox_ 3; have hcX4 : w9.cell? ⟨gx, 4, none⟩ = some (.bool false) := (blk_cell hbox_ 4).trans rfl; have hfX4 := blk_frozen hbox_ 4; clear HB0 hg_X hbox_ hb_; have HB0 := n0_; clear n0_))
  obtain ⟨w10, hw10⟩ : ∃ w10, w10 = ((((w9.setCell ⟨gx, 0, none⟩ (.int .i64 x.f0)).setCell ⟨gx, 1, none⟩ (.int .i64 x.f1)).setCell ⟨gx, 2, none⟩ (.int .i64 x.f2.f0)).setCell ⟨gx, 3, none⟩ (.int .i64 x.f2.f1)).setCell ⟨gx, 4, none⟩ (.bool x.f3) := ⟨_, rfl⟩
  rw [← hw10]
  have BX10 := Aside0.mk (show w10.heap[gx]? = some (.cells #[.int .i64 x.f0, .int .i64 x.f1, .int .i64 x.f2.f0, .int .i64 x.f2.f1, .bool x.f3] 40 (0, 0)) by rw [hw10]; exact blk_put (blk_put (blk_put (blk_put (blk_put BX.out 0 _ rfl) 1 _ rfl) 2 _ rfl) 3 _ rfl) 4 _ rfl)
  have HB10 := Aside0.mk (show Below wr.heap.size wr w10 by rw [hw10]; exact below_set (below_set (below_put3 HB0.out GX.out _ _ _) GX.out) GX.out)
  clear hw10 BX HB0 hcX0 hcX1 hcX2 hcX3 hcX4 hfX0 hfX1 hfX2 hfX3 hfX4 hx0 hx1 hx2 hx3 hx4
  replace hy0 := (HB10.out.cell (World.block_lt_of_cell? _ _ hy0)).trans hy0
  replace hy1 := (HB10.out.cell (World.block_lt_of_cell? _ _ hy1)).trans hy1
  replace hy2 := (HB10.out.cell (World.block_lt_of_cell? _ _ hy2)).trans hy2
  replace hy3 := (HB10.out.cell (World.block_lt_of_cell? _ _ hy3)).trans hy3
  replace hy4 := (HB10.out.cell (World.block_lt_of_cell? _ _ hy4)).trans hy4
  have HB00 := Aside0.mk (Below.refl w10.heap.size w10)
  go_upto_region 7 with (first | ((with_reducible refine gate_dst (N := 9) rfl ?_); refine box_event ?hg (N := 9) ?hd (cs := #[.int .i64 0, .int .i64 0, .int .i64 0, .int .i64 0, .bool false]) (t := 40) ?hr ?_; (case hd => rfl); (case hg => rfl); (case hr => first | (go_simp; done) | (go_simp; rfl)); intro gy hg_Y w11 hbox_ hb_; have n0_ := Aside0.mk (below_step HB00.out hb_); have BY := Aside0.mk hbox_; have GY := Aside0.mk (show w10.heap.size ≤ gy by rw [hg_Y]; exact below_size HB00.out); have EY := Aside0.mk hg_Y; have hcY0 : w11.cell? ⟨gy, 0, none⟩ = some (.int .i64 0) := (blk_cell hbox_ 0).trans rfl; have hfY0 := blk_frozen hbox_ 0; have hcY1 : w11.cell? ⟨gy, 1, none⟩ = some (.int .i64 0) := (blk_cell hbox_ 1).trans rfl; have hfY1 := blk_frozen hbox_ 1; have hcY2 : w11.cell? ⟨gy, 2, none⟩ = some (.int .i64 0) := (blk_cell hbox_ 2).trans rfl; have hfY2 := blk_frozen hbox_ 2; have hcY3 : w11.cell? ⟨gy, 3, none⟩ = some (.int .i64 0) := (blk_cell hbox_ 3).trans rfl; have hfY3 := blk_frozen hbox_ 3; have hcY4 : w11.cell? ⟨gy, 4, none⟩ = some (.bool false) := (blk_cell hbox_ 4).trans rfl; have hfY4 := blk_frozen hbox_ 4; clear HB00 hg_Y hbox_ hb_; have HB00 := n0_; clear n0_))
  obtain ⟨w12, hw12⟩ : ∃ w12, w12 = ((((w11.setCell ⟨gy, 0, none⟩ (.int .i64 y.f0)).setCell ⟨gy, 1, none⟩ (.int .i64 y.f1)).setCell ⟨gy, 2, none⟩ (.int .i64 y.f2.f0)).setCell ⟨gy, 3, none⟩ (.int .i64 y.f2.f1)).setCell ⟨gy, 4, none⟩ (.bool y.f3) := ⟨_, rfl⟩
  rw [← hw12]
  have BY12 := Aside0.mk (show w12.heap[gy]? = some (.cells #[.int .i64 y.f0, .int .i64 y.f1, .int .i64 y.f2.f0, .int .i64 y.f2.f1, .bool y.f3] 40 (0, 0)) by rw [hw12]; exact blk_put (blk_put (blk_put (blk_put (blk_put BY.out 0 _ rfl) 1 _ rfl) 2 _ rfl) 3 _ rfl) 4 _ rfl)
  have HB12 := Aside0.mk (show Below w10.heap.size w10 w12 by rw [hw12]; exact below_set (below_set (below_put3 HB00.out GY.out _ _ _) GY.out) GY.out)
  have BX12 := Aside0.mk (blk_below BX10.out HB12.out)
  have HBA := Aside0.mk (below_step (below_step HB.out HB10.out) HB12.out)
  clear hw12 BY HB00 hcY0 hcY1 hcY2 hcY3 hcY4 hfY0 hfY1 hfY2 hfY3 hfY4 hy0 hy1 hy2 hy3 hy4 HB12 HB10 BX10 HB
  have hx0 : w12.cell? ⟨gx, 0, none⟩ = some (.int .i64 x.f0) := (blk_cell BX12.out 0).trans rfl
  have hx1 : w12.cell? ⟨gx, 1, none⟩ = some (.int .i64 x.f1) := (blk_cell BX12.out 1).trans rfl
  have hx2 : w12.cell? ⟨gx, 2, none⟩ = some (.int .i64 x.f2.f0) := (blk_cell BX12.out 2).trans rfl
  have hx3 : w12.cell? ⟨gx, 3, none⟩ = some (.int .i64 x.f2.f1) := (blk_cell BX12.out 3).trans rfl
  have hx4 : w12.cell? ⟨gx, 4, none⟩ = some (.bool x.f3) := (blk_cell BX12.out 4).trans rfl
  have hy0 : w12.cell? ⟨gy, 0, none⟩ = some (.int .i64 y.f0) := (blk_cell BY12.out 0).trans rfl
  have hy1 : w12.cell? ⟨gy, 1, none⟩ = some (.int .i64 y.f1) := (blk_cell BY12.out 1).trans rfl
  have hy2 : w12.cell? ⟨gy, 2, none⟩ = some (.int .i64 y.f2.f0) := (blk_cell BY12.out 2).trans rfl
  have hy3 : w12.cell? ⟨gy, 3, none⟩ = some (.int .i64 y.f2.f1) := (blk_cell BY12.out 3).trans rfl
  have hy4 : w12.cell? ⟨gy, 4, none⟩ = some (.bool y.f3) := (blk_cell BY12.out 4).trans rfl
  go_wp2_with (first | ((with_reducible refine (other_calls x y _ HSX.out).mono ?_); rintro e w13 ⟨rfl, hb⟩; have HB13 := Aside0.mk hb; clear hb))
  go_roundg (gk - 1)
  case measure => have := HK.out; have := HI2.out; omega
  case rel =>
   refine ⟨n + 1, ?_, ⟨by have := HK.out; have := HI2.out; omega⟩, ⟨below_step HBA.out HB13.out⟩⟩
   have := HI2.out
   first | (rw [show ((n + 1 : Nat) : Int) = i + 1 from by omega]; done) | (simp; omega)
def pairB (a b : List S40) : Bool := chgsB a && (chgsB b && sameHB a b)
theorem pairB_at {a b : List S40} (h : pairB a b = true) : chgsB a = true ∧ chgsB b = true ∧ sameHB a b = true := by
 unfold pairB at h
 rw [Bool.and_eq_true, Bool.and_eq_true] at h
 exact h
set_option maxHeartbeats 16000000 in
theorem pairs_calls (A0 A1 : Option Addr) (c0 c1 : Nat) (l0 l1 : List (S40)) (w : World) (hr0 : Kd.C k40 w A0 l0.length l0) (hr1 : Kd.C k40 w A1 l1.length l1) (hp : pairB l0 l1 = true) :
  Calls Try.prog 69 #[.slice A0 l0.length c0, .slice A1 l1.length c1] w fun e w' => ∃ g1 g2 : Nat, e = .returned (.tuple #[.func (.func 86) #[] #[.pointer (some ⟨g1, 0, none⟩), .pointer (some ⟨g2, 0, none⟩)], .bool true]) ∧
   w'.heap[g1]? = some (.cells #[.slice A0 l0.length c0] 31 (0, 0)) ∧ w'.heap[g2]? = some (.cells #[.slice A1 l1.length c1] 31 (0, 0)) ∧ w.heap.size ≤ g1 ∧ w.heap.size ≤ g2 ∧ Below w.heap.size w w' := by
 obtain ⟨hp0, hp1, hp2⟩ := pairB_at hp
 have HR0 := Aside0.mk hr0
 have HR1 := Aside0.mk hr1
 have HP0 := Aside0.mk hp0
 have HP1 := Aside0.mk hp1
 have HP2 := Aside0.mk hp2
 have H64 := Aside0.mk (chgsB_at hp0).1
 clear hr0 hr1 hp hp0 hp1 hp2
 have HB := Aside0.mk (Below.refl w.heap.size w)
 go_enter Try.func69, Try.ntmps69
 go_wp2_with (first | ((with_reducible refine gate_dst (N := 2) rfl ?_); refine box_event ?hg (N := 2) ?hd (cs := #[.slice A0 l0.length c0]) (t := 31) ?hr ?_; (case hd => rfl); (case hg => rfl); (case hr => first | (go_simp; done) | (go_simp; rfl)); intro g1 hg_P w1 hbox_ hb_; have n0_ := Aside0.mk (below_step HB.out hb_); have BP := Aside0.mk hbox_; have GP := Aside0.mk (show w.heap.size ≤ g1 by rw [hg_P]; exact below_size HB.out); have EP := Aside0.mk hg_P; have hcP0 : w1.cell? ⟨g1, 0, none⟩ = some (.slice A0 l0.length c0) := (blk_cell hbox_ 0).trans rfl; have hfP0 := blk_frozen hbox_ 0; clear HB hg_P hbox_ hb_; have HB := n0_; clear n0_) | ((with_reducible refine gate_dst (N := 3) rfl ?_); refine box_event ?hg (N := 3) ?hd (cs := #[.slice A1 l1.length c1]) (t := 31) ?hr ?_; (case hd => rfl); (case hg => rfl); (case hr => first | (go_simp; done) | (go_simp; rfl)); intro g2 hg_Q w2 hbox_ hb_; have n0_ := Aside0.mk (below_step HB.out hb_); have BQ := Aside0.mk hbox_; have GQ := Aside0.mk (show w.heap.size ≤ g2 by rw [hg_Q]; exact below_size HB.out); have EQ := Aside0.mk hg_Q; have hcQ0 : w2.cell? ⟨g2, 0, none⟩ = some (.slice A1 l1.length c1) := (blk_cell hbox_ 0).trans rfl; have hfQ0 := blk_frozen hbox_ 0; replace hcP0 := (hb_.cell (World.block_lt_of_cell? _ _ hcP0)).trans hcP0; have BP := Aside0.mk (blk_below BP.out hb_); clear HB hg_Q hbox_ hb_; have HB := n0_; clear n0_) | (go_at_call 84; (with_reducible refine (chgs_calls A0 c0 l0 _ (Kd.C_below HR0.out HB.out) HP0.out).mono ?_); rintro e w3 ⟨rfl, hb_⟩; have n0_ := Aside0.mk (below_step HB.out hb_); have BP := Aside0.mk (blk_below BP.out hb_); have BQ := Aside0.mk (blk_below BQ.out hb_); replace hcP0 := (hb_.cell (World.block_lt_of_cell? _ _ hcP0)).trans hcP0; replace hcQ0 := (hb_.cell (World.block_lt_of_cell? _ _ hcQ0)).trans hcQ0; clear HB hb_; have HB := n0_; clear n0_) | (go_at_call 84; (with_reducible refine (chgs_calls A1 c1 l1 _ (Kd.C_below HR1.out HB.out) HP1.out).mono ?_); rintro e w4 ⟨rfl, hb_⟩; have n0_ := Aside0.mk (below_step HB.out hb_); have BP := Aside0.mk (blk_below BP.out hb_); have BQ := Aside0.mk (blk_below BQ.out hb_); replace hcP0 := (hb_.cell (World.block_lt_of_cell? _ _ hcP0)).trans hcP0; replace hcQ0 := (hb_.cell (World.block_lt_of_cell? _ _ hcQ0)).trans hcQ0; clear HB hb_; have HB := n0_; clear n0_) | (go_at_call 85; (with_reducible refine (equal_calls A0 A1 c0 c1 l0 l1 _ (Kd.C_below HR0.out HB.out) (Kd.C_below HR1.out HB.out) H64.out HP2.out).mono ?_); rintro e w5 ⟨rfl, hb_⟩; have n0_ := Aside0.mk (below_step HB.out hb_); have BP := Aside0.mk (blk_below BP.out hb_); have BQ := Aside0.mk (blk_below BQ.out hb_); replace hcP0 := (hb_.cell (World.block_lt_of_cell? _ _ hcP0)).trans hcP0; replace hcQ0 := (hb_.cell (World.block_lt_of_cell? _ _ hcQ0)).trans hcQ0; clear HB hb_; have HB := n0_; clear n0_))
 go_ret2
 exact ⟨g1, g2, rfl, BP.out, BQ.out, GP.out, GQ.out, HB.out⟩
end
section
open Go.Proofs.YthjjabcbngffoaaH
def Keep2 (n0 b c : Nat) (W W' : World) : Prop := Below n0 W W' ∧ W'.heap[b]? = W.heap[b]? ∧ W'.heap[c]? = W.heap[c]?
theorem keep2_t {n0 b c : Nat} {A B C : World} (h : Keep2 n0 b c A B) (k : Keep2 n0 b c B C) : Keep2 n0 b c A C := ⟨h.1.trans k.1, k.2.1.trans h.2.1, k.2.2.trans h.2.2⟩
theorem keep2_r (n0 b c : Nat) (W : World) : Keep2 n0 b c W W := ⟨Below.refl _ _, rfl, rfl⟩
theorem keep2_b {n0 b c : Nat} {w : World} (hn : n0 ≤ w.heap.size) (hb : b < w.heap.size) (hc : c < w.heap.size) (W : World) (l : Nat) (o o' : Obj) (hl : w.heap.size ≤ l) (h : W.heap[l]? = some o) (h1 : o.isCells = false) (h2 : o.isWalk = false) : Keep2 n0 b c W (W.putObj l o') :=
 ⟨belowK_b hn W l o o' hl h h1 h2, World.putObj_heap_other (by omega), World.putObj_heap_other (by omega)⟩
theorem keep2_below {n0 b c : Nat} {W W' : World} (hn : n0 ≤ W.heap.size) (hb : b < W.heap.size) (hc : c < W.heap.size) (h : Below W.heap.size W W') : Keep2 n0 b c W W' := ⟨h.mono hn, h.block b hb, h.block c hc⟩
def encP (p : S40 × S40) : Array Value := #[.agg #[.int .i64 p.1.f0, .int .i64 p.1.f1, .int .i64 p.1.f2.f0, .int .i64 p.1.f2.f1, .bool p.1.f3, .int .i64 p.2.f0, .int .i64 p.2.f1, .int .i64 p.2.f2.f0, .int .i64 p.2.f2.f1, .bool p.2.f3]]
theorem take_nextE {α : Type} {E : List α} {k : Nat} {x : α} (h : E[k]? = some x) : E.take k ++ [x] = E.take (k + 1) := by rw [List.take_add_one, h]; rfl
theorem two_ways {e : Ending} {A B : Prop} (h : (e = .returned (.bool true) ∧ A) ∨ (e = .returned (.bool false) ∧ B)) : ∃ b : Bool, e = .returned (.bool b) ∧ ((b = true ∧ A) ∨ (b = false ∧ B)) := by
 rcases h with ⟨h1, h2⟩ | ⟨h1, h2⟩
 ·exact ⟨true, h1, .inl ⟨rfl, h2⟩⟩
 ·exact ⟨false, h1, .inr ⟨rfl, h2⟩⟩
attribute [local go_sem] Oper.semAt_some
theorem pairs2_in {α : Type} (val : α → S40 × S40) (E : List α) (n : Nat) (hn : 1 ≤ n) (lr B1 B2 n0 : Nat) (A0 A1 : Option Addr) (c0 c1 : Nat) (l0 l1 : List S40) (hl : l1.length = l0.length) (h64 : l0.length ≤ 64) (hEl : E.length = l0.length)
  (hE : ∀ k x, E[k]? = some x → val x = (rd_T40 l0 (k : Nat), rd_T40 l1 (k : Nat))) (J Jx : List α → World → Prop) (hJ : ∀ pre W, J pre W → J pre W.drew)
  (hY : ∀ pre x W, J pre W → pre.length < l0.length + 1 → YieldAt Fence.wide (n - 1) Try.prog lr (encP (val x)) W fun e W' =>
   (e = .returned (.bool true) ∧ J (pre ++ [x]) W' ∧ Keep2 n0 B1 B2 W W') ∨ (e = .returned (.bool false) ∧ Jx (pre ++ [x]) W'))
  (W : World) (hB1 : W.heap[B1]? = some (.cells #[.slice A0 l0.length c0] 31 (0, 0))) (hB2 : W.heap[B2]? = some (.cells #[.slice A1 l1.length c1] 31 (0, 0)))
  (hC0 : ∀ W', Below n0 W W' → Kd.C k40 W' A0 l0.length l0) (hC1 : ∀ W', Below n0 W W' → Kd.C k40 W' A1 l1.length l1) (h0 : J [] W) :
  CallsIn Fence.wide n Try.prog 86 #[.func (.yield lr) #[] #[], .pointer (some ⟨B1, 0, none⟩), .pointer (some ⟨B2, 0, none⟩)] W fun e W' => (∃ v, e = .returned v) ∧
   ((∃ xs : List α, xs = E ∧ J xs W') ∨ (∃ pre, (∃ k, pre = E.take k) ∧ Jx pre W')) := by
 refine callsIn_of_wp Try.func86 rfl trivial ?_ rfl
 simp only [Try.ntmps86, List.size_toArray, List.length_cons, List.length_nil, Nat.reduceAdd, Nat.reduceSub, Array.replicate_succ, Array.replicate_zero, List.push_toArray, List.append_toArray, List.nil_append, List.cons_append]
 have hu38 := Try.underlying38
 have hu40 := Try.underlying40
 have hu125 := Try.underlying125
 rw [hl] at hC1 hB2
 have hc1 : W.cell? ⟨B1, 0, none⟩ = some (.slice A0 l0.length c0) := (blk_cell hB1 0).trans rfl
 have H64 := Aside0.mk h64
 have HC0 := Aside0.mk hC0
 have HC1 := Aside0.mk hC1
 have HJD := Aside0.mk hJ
 have HY := Aside0.mk hY
 have HB1 := Aside0.mk hB1
 have HB2 := Aside0.mk hB2
 have H0 := Aside0.mk h0
 have HE := Aside0.mk hE
 have HEL := Aside0.mk hEl
 clear h64 hC0 hC1 hJ hY hB1 hB2 h0 hE hEl hl
 gi_wp2
 gi_loopw [7] (fun i wr => ∃ (k : Nat), k ≤ l0.length ∧ i = .int .i64 (k : Int) ∧ Aside0 (J (E.take k) wr) ∧ Aside0 (Keep2 n0 B1 B2 W wr))
  (fun i _ => ((l0.length : Int) - intOf i).toNat)
 case atStart => exact ⟨0, Nat.zero_le _, rfl, H0, ⟨keep2_r _ _ _ _⟩⟩
 case round =>
  clear hc1 H0
  obtain ⟨k, hk, rfl, HJ, HK⟩ := hrel
  by_cases hlt : k < l0.length
  ·obtain ⟨i, hi⟩ : ∃ i : Int, i = (k : Int) := ⟨_, rfl⟩
   obtain ⟨x, hx⟩ : ∃ x, E[k]? = some x := ⟨E[k]'(by rw [HEL.out]; exact hlt), List.getElem?_eq_getElem _⟩
   have hv := HE.out k x hx
   rw [← hi] at hv ⊢
   have hi0 : 0 ≤ i := by omega
   have hi1 : i < l0.length := by omega
   have HEN := Aside0.mk (take_nextE hx)
   have HPL := Aside0.mk (show (E.take k).length < l0.length + 1 by rw [List.length_take]; omega)
   obtain ⟨fn, tmps, assign, body, hy, hR⟩ := HY.out _ x wr.drew (HJD.out _ _ HJ.out) HPL.out
   rw [hv] at hy
   simp only [encP] at hy
   have hc1 : wr.drew.cell? ⟨B1, 0, none⟩ = some (.slice A0 l0.length c0) := (blk_cell (show wr.drew.heap[B1]? = _ from HK.out.2.1.trans HB1.out) 0).trans rfl
   have hc2 : wr.drew.cell? ⟨B2, 0, none⟩ = some (.slice A1 l0.length c1) := (blk_cell (show wr.drew.heap[B2]? = _ from HK.out.2.2.trans HB2.out) 0).trans rfl
   obtain ⟨adp, ep, hx0, hx1, hx2, hx3, hx4⟩ := at_T40 (HC0.out wr.drew (below_drew HK.out.1)) i hi0 hi1
   obtain ⟨adq, eq_, hy0, hy1, hy2, hy3, hy4⟩ := at_T40 (HC1.out wr.drew (below_drew HK.out.1)) i hi0 hi1
   obtain ⟨p, hp⟩ : ∃ p, p = rd_T40 l0 i := ⟨_, rfl⟩
   obtain ⟨q, hq⟩ : ∃ q, q = rd_T40 l1 i := ⟨_, rfl⟩
   rw [← hp] at hx0 hx1 hx2 hx3 hx4 hy
   rw [← hq] at hy0 hy1 hy2 hy3 hy4 hy
   have HI := Aside0.mk hi
   have HR := Aside0.mk hR
   have HL := Aside0.mk (And.intro hi0 (And.intro hi1 hlt))
   have d1 : decide (i < (l0.length : Int)) = true := decide_eq_true hi1
   have d2 : (0 ≤ i) = True := eq_true hi0
   have d3 : (i < l0.length) = True := eq_true hi1
   have hb1 : i + 1 ≤ 9223372036854775807 := by have := H64.out; omega
   have hb2 : -9223372036854775808 ≤ i + 1 := by omega
   clear hi hR hi0 hi1 hlt hk hx hv hp hq
   subst ep
   subst eq_
   gi_wp2
   gi_region_with (refine HR.out.mono ?_; rintro e W3 h3_; obtain ⟨b, rfl, h4_⟩ := two_ways h3_; have H4 := Aside0.mk h4_; clear h3_ h4_)
   all_goals
    rcases H4.out with ⟨rfl, hJ3, hk3⟩ | ⟨rfl, hJx3⟩
    ·rw [HEN.out] at hJ3
     have HJ3 := Aside0.mk hJ3
     have HK3 := Aside0.mk (keep2_t HK.out (⟨(below_drew (Below.refl n0 wr)).trans hk3.1, hk3.2⟩ : Keep2 n0 B1 B2 wr W3))
     clear hJ3 hk3 H4
     gi_wp2
     go_roundw
     case rel =>
      refine ⟨k + 1, ?_, ?_, HJ3, HK3⟩
      ·have := HL.out; omega
      ·have := HI.out; first | (rw [show i + 1 = ((k + 1 : Nat) : Int) from by omega]; done) | (simp; omega)
     case measure => have := HL.out; have := HI.out; simp [intOf]; omega
    ·rw [HEN.out] at hJx3
     have HJ3 := Aside0.mk hJx3
     clear hJx3 H4
     gi_wp2
     refine bodyPost_ret (results_none rfl _ _ _) rfl ?_
     exact ⟨⟨_, rfl⟩, .inr ⟨_, ⟨_, rfl⟩, HJ3.out⟩⟩
  ·have hkl : k = l0.length := by omega
   have hall : E.take k = E := List.take_of_length_le (by rw [HEL.out]; omega)
   rw [hall] at HJ
   have d1 : decide ((k : Int) < (l0.length : Int)) = false := decide_eq_false (by omega)
   have d1' : decide (k < l0.length) = false := decide_eq_false hlt
   clear hlt hkl hall
   gi_wp2
   go_end0
   exact ⟨⟨_, rfl⟩, .inl ⟨_, rfl, HJ.out⟩⟩
theorem pairs2_stops {α : Type} (val : α → S40 × S40) (E : List α) (n : Nat) (hn : 1 ≤ n) (B1 B2 n0 : Nat) (A0 A1 : Option Addr) (c0 c1 : Nat) (l0 l1 : List S40) (hl : l1.length = l0.length) (h64 : l0.length ≤ 64) (hEl : E.length = l0.length)
  (hE : ∀ k x, E[k]? = some x → val x = (rd_T40 l0 (k : Nat), rd_T40 l1 (k : Nat))) (w : World) (hB1 : w.heap[B1]? = some (.cells #[.slice A0 l0.length c0] 31 (0, 0))) (hB2 : w.heap[B2]? = some (.cells #[.slice A1 l1.length c1] 31 (0, 0)))
  (hC0 : ∀ W', Below n0 w W' → Kd.C k40 W' A0 l0.length l0) (hC1 : ∀ W', Below n0 w W' → Kd.C k40 W' A1 l1.length l1) (hn0 : n0 ≤ w.heap.size) :
  SeqStopsK Fence.wide n Try.prog 86 #[.pointer (some ⟨B1, 0, none⟩), .pointer (some ⟨B2, 0, none⟩)] (fun x => encP (val x)) (Keep2 n0 B1 B2) (fun xs => xs = E) (fun pre => ∃ k, pre = E.take k) (l0.length + 1) w := by
 intro lr J Jx W hW hJ _ hY h0
 exact pairs2_in val E n hn lr B1 B2 n0 A0 A1 c0 c1 l0 l1 hl h64 hEl hE J Jx (fun pre W h => hJ pre W W.drew none h (grown_drew (grown_refl W none)) (fun r e => by cases e)) hY W (blk_below hB1 hW) (blk_below hB2 hW) (fun W' h => hC0 W' ((hW.mono hn0).trans h)) (fun W' h => hC1 W' ((hW.mono hn0).trans h)) h0
def inB (p : S40 × S40) : Bool := decide (p.1.f2.f0 ≤ p.2.f2.f0) && decide (p.2.f2.f1 ≤ p.1.f2.f1)
def allB (f : S40 × S40 → Bool) (a b : List S40) : Bool := (List.range a.length).all (fun j => f (rd_T40 a j, rd_T40 b j))
theorem pairs_list (f : S40 × S40 → Bool) (a b : List S40) (h : allB f a b = true) : ∃ E : List {p : S40 × S40 // f p = true}, E.length = a.length ∧ ∀ k x, E[k]? = some x → x.val = (rd_T40 a (k : Nat), rd_T40 b (k : Nat)) := by
 unfold allB at h
 rw [List.all_eq_true] at h
 refine ⟨(List.range a.length).attach.map (fun j => ⟨(rd_T40 a (j.val : Nat), rd_T40 b (j.val : Nat)), h j.val j.property⟩), by simp, fun k x hx => ?_⟩
 rw [List.getElem?_map] at hx
 obtain ⟨y, hy, rfl⟩ := Option.map_eq_some_iff.1 hx
 obtain ⟨hk, rfl⟩ := List.getElem?_eq_some_iff.1 hy
 simp
theorem postM_doneW {F : Fence} {n : Nat} {P : Program} {fn : Func} {R : Ending → World → Prop} {T : Array Value} {v : Value} {D : Nat} {w : World} (hD : w.heap[D]? = some (.deferred (some []))) (h : (results fn T).run P (w.putObj D (.deferred none)) = .ok v (w.putObj D (.deferred none))) (hR : R (.returned v) (w.putObj D (.deferred none))) :
  bodyPostM F n P fn R .ret { tmps := T, defers := [{ target := .collected D, args := #[] }] } w := ⟨by simp, .inl ⟨_, _, rfl, run_takeDeferred hD, v, h, hR⟩⟩
theorem cells_putW {w : World} {g D : Nat} {o o' : Obj} (h : w.heap[g]? = some o) (hD : w.heap[D]? = some o') (hne : o.isCells = true) (hn : o'.isCells = false) (x : Obj) : (w.putObj D x).heap[g]? = some o :=
 (World.putObj_heap_other (fun e => by rw [e, hD] at h; cases h; rw [hn] at hne; cases hne)).trans h
theorem results_1s {P : Program} {fn : Func} {p : Tmp} {t : TypeId} (h : fn.results = #[.cell p t]) (T : Array Value) (w : World) (g : Nat) (v : Value) (hp : T[p]?.getD undef = .pointer (some ⟨g, 0, none⟩))
  (hu : ∀ w, (isAgg t).run P w = .ok false w) (hc : w.cell? ⟨g, 0, none⟩ = some v) : (results fn T).run P w = .ok v w := by
 simp [results, h, hp, asAddr, loadVar, hu, hc]
def pairC (p : S40 × S40) : Array Value := #[.int .i64 p.1.f0, .int .i64 p.1.f1, .int .i64 p.1.f2.f0, .int .i64 p.1.f2.f1, .bool p.1.f3, .int .i64 p.2.f0, .int .i64 p.2.f1, .int .i64 p.2.f2.f0, .int .i64 p.2.f2.f1, .bool p.2.f3]
theorem within_calls (w : World) (B1 B2 : Nat) (A0 A1 : Option Addr) (c0 c1 : Nat) (l0 l1 : List S40) (hl : l1.length = l0.length) (h64 : l0.length ≤ 64) (hin : allB inB l0 l1 = true)
  (hB1 : w.heap[B1]? = some (.cells #[.slice A0 l0.length c0] 31 (0, 0))) (hB2 : w.heap[B2]? = some (.cells #[.slice A1 l1.length c1] 31 (0, 0))) (hC0 : Kd.C k40 w A0 l0.length l0) (hC1 : Kd.C k40 w A1 l1.length l1) :
  Calls Try.prog 71 #[.func (.func 86) #[] #[.pointer (some ⟨B1, 0, none⟩), .pointer (some ⟨B2, 0, none⟩)]] w fun e w' => e = .returned (.bool true) ∧ Below w.heap.size w w' := by
 obtain ⟨E, hEl, hE⟩ := pairs_list inB l0 l1 hin
 refine (callsIn_wide (n := 5)).1 ?_
 refine callsIn_of_wp_marks Try.func71 rfl trivial ?_ rfl
 simp only [Try.ntmps71, List.size_toArray, List.length_cons, List.length_nil, Nat.reduceAdd, Nat.reduceSub, Array.replicate_succ, Array.replicate_zero, List.push_toArray, List.append_toArray, List.nil_append, List.cons_append]
 have hu38 := Try.underlying38
 have hu40 := Try.underlying40
 have hu125 := Try.underlying125
 obtain ⟨g2, hg2⟩ : ∃ g2, w.heap.size = g2 := ⟨_, rfl⟩
 have HC0 := Aside0.mk hC0
 have HC1 := Aside0.mk hC1
 have HE := Aside0.mk hE
 have HB1 := Aside0.mk hB1
 have HB2 := Aside0.mk hB2
 clear hC0 hC1 hE hB1 hB2
 gi_wp2
 obtain ⟨W3, h5⟩ : ∃ W3, W3 = w.alloc (Obj.cells #[Value.bool false] 4) := ⟨_, rfl⟩
 rw [← h5]
 have s5 : W3.heap.size = g2 + 1 := by rw [h5, World.size_alloc, hg2]
 have b1 : W3.heap[g2]? = some (.cells #[.bool false] 4 (0, 0)) := by rw [h5, ← hg2]; exact blk_new w _
 have hB3 : Below w.heap.size w W3 := by rw [h5]; exact below_alloc (Below.refl _ _) _
 have hle : w.heap.size ≤ W3.heap.size := by omega
 have k1 := blk_below HB1.out hB3
 have k2 := blk_below HB2.out hB3
 have l1_ := blk_lt HB1.out
 have l2_ := blk_lt HB2.out
 clear h5
 refine wpIn_rangeFunc_ownH rfl (by omega) (gf := 86) (lb := #[.pointer (some ⟨B1, 0, none⟩), .pointer (some ⟨B2, 0, none⟩)]) rfl trivial (enters_fn Try.func86 (by kernel_rfl) rfl)
  (pairs2_stops Subtype.val E 4 (by omega) B1 B2 w.heap.size A0 A1 c0 c1 l0 l1 hl h64 hEl HE.out W3 k1 k2 (fun W' h => Kd.C_below HC0.out (hB3.trans h)) (fun W' h => Kd.C_below HC1.out (hB3.trans h)) hle) keep2_t (keep2_b hle (by omega) (by omega)) (Below.refl _ _) (fun _ => rfl)
  (fun _ W => W.heap[g2]? = some (.cells #[.bool false] 4 (0, 0)) ∧ Below w.heap.size w W)
  (fun _ _ _ => False)
  (fun s A B row hs hg hr => by
   have hr' : ∀ r, row = some r → ∃ o : Obj, A.heap[r]? = some o ∧ o.isCells = false := fun r e => (hr r e).2
   exact ⟨blk_objs hs.1 hg hr', grown_below hs.2 hg (fun r e => by have := (hr r e).1; omega)⟩)
  (fun c s A B row hs hg hr => hs.elim)
  ⟨b1, hB3⟩
  (fun x a' W => ∃ g, a' = { tmps := #[.func (.func 86) #[] #[.pointer (some ⟨B1, 0, none⟩), .pointer (some ⟨B2, 0, none⟩)], undef, .pointer (some ⟨g2, 0, none⟩), .pointer (some ⟨g, 0, none⟩), .func (.func 86) #[] #[.pointer (some ⟨B1, 0, none⟩), .pointer (some ⟨B2, 0, none⟩)], .agg (pairC x.val), undef, undef, undef, undef, undef, undef, undef, undef, undef, undef, undef, undef, undef, undef, undef, undef, undef, undef, undef, undef], defers := [] } ∧ W.heap[g]? = some (.cells (pairC x.val) 125 (0, 0)))
  (fun x a' s A B row hs hg hr => by
   obtain ⟨g, e, hb⟩ := hs
   exact ⟨g, e, blk_objs hb hg (fun r e => (hr r e).2)⟩) ?assign ?body ?done ?stop
 case assign =>
  rintro lr pre ⟨p, hp⟩ W K ⟨i1, i2⟩ hK
  simp only [encP]
  gi_wp2
  exact hK _ _ ((KeepsOthers.alloc W _).from _) (keep2_below (below_size i2) (Nat.lt_of_lt_of_le l1_ (below_size i2)) (Nat.lt_of_lt_of_le l2_ (below_size i2)) (below_alloc (Below.refl _ _) _)) ⟨blk_alloc i1 _, below_alloc i2 _⟩ ⟨W.heap.size, rfl, blk_new W _⟩
 case done =>
  rintro D ys W hD hys ⟨q2, hBW⟩ hDD
  have hf2 := blk_frozen q2 0
  have hc2 : W.cell? ⟨g2, 0, none⟩ = some (.bool false) := (blk_cell q2 0).trans rfl
  gi_wp2
  obtain ⟨W1, hW1⟩ : ∃ W1, W1 = W.setCell ⟨g2, 0, none⟩ (.bool true) := ⟨_, rfl⟩
  rw [← hW1]
  have r2 : W1.heap[g2]? = some (.cells #[.bool true] 4 (0, 0)) := by rw [hW1]; exact blk_put q2 0 _ rfl
  have rD : W1.heap[D]? = some (.deferred (some [])) := by rw [hW1]; exact (Below.heap_setCell _ _ _ _ (show D ≠ g2 by omega)).trans hDD
  have rB : Below w.heap.size w W1 := by rw [hW1]; exact below_set hBW (show w.heap.size ≤ g2 by omega)
  show bodyPostM _ _ _ _ _ .ret _ _
  refine postM_doneW (D := D) rD (results_1s rfl _ _ g2 (.bool true) rfl (fun w => by have hu := Try.underlying4; simp [isAgg, run_underlying hu]) ((blk_cell (cells_putW r2 rD rfl rfl _) 0).trans rfl)) ⟨rfl, ?_⟩
  exact rB.trans (belowK_b (w := w) (Nat.le_refl _) _ D _ _ (by omega) rD rfl rfl)
 case stop =>
  rintro D c pre W hD _ h
  exact h.elim
 case body =>
  rintro lr pre ⟨p, hp⟩ a' W _ _ ⟨i1, i2⟩ ⟨g, rfl, hb⟩ hlen
  simp only [inB, Bool.and_eq_true, decide_eq_true_eq] at hp
  have d1 : decide (p.2.f2.f0 < p.1.f2.f0) = false := decide_eq_false (by omega)
  have d2 : decide (p.1.f2.f1 < p.2.f2.f1) = false := decide_eq_false (by omega)
  have hc2 : W.cell? ⟨g, 2, none⟩ = some (.int .i64 p.1.f2.f0) := (blk_cell hb 2).trans rfl
  have hc3 : W.cell? ⟨g, 3, none⟩ = some (.int .i64 p.1.f2.f1) := (blk_cell hb 3).trans rfl
  have hc7 : W.cell? ⟨g, 7, none⟩ = some (.int .i64 p.2.f2.f0) := (blk_cell hb 7).trans rfl
  have hc8 : W.cell? ⟨g, 8, none⟩ = some (.int .i64 p.2.f2.f1) := (blk_cell hb 8).trans rfl
  gi_wp2
  exact ⟨(KeepsOthers.refl _).from _, keep2_r _ _ _ _, i1, by first | exact i2 | exact hg2 ▸ i2⟩
end
section
def settle_sum.l0 : Nat → Int → List (S40) → Int → Int → Option (Int)
 | 0, _, _, _, _ => none
 | k + 1, x1, x7, x8, x9 => if x9 < x8 then (if 0 ≤ x9 then (if x9 < (x7.length : Int) then (settle_sum.l0 k (wrap64 (x1 + ((rd_T40 x7 x9).f1))) x7 x8 (wrap64 (x9 + 1))) else (none)) else (none)) else (some x1)
def settle_sum.f (k : Nat) (l0 : List (S40)) (a1 : Int) : Option (Int) := settle_sum.l0 k a1 l0 (l0.length : Int) 0
theorem settle_sum.calls (k : Nat) (A0 : Option Addr) (c0 : Nat) (l0 : List (S40)) (a1 : Int) (r : Int) (w : World) (hr0 : Kd.C k40 w A0 l0.length l0) (hc0 : l0.length ≤ c0) (h : settle_sum.f k l0 a1 = some r) :
  Calls Try.prog 72 #[.slice A0 l0.length c0, .int .i64 a1] w fun e w' => e = .returned (.int .i64 r) ∧ Below w.heap.size w w' := by
 have hu40 := Try.underlying40
 have HR0 := Aside0.mk hr0
 have HC0 := Aside0.mk hc0
 clear hr0 hc0
 have HB := Aside0.mk (Below.refl w.heap.size w)
 have H : (settle_sum.l0 k a1 l0 (l0.length : Int) 0) = some r := h
 clear h
 have H' := Aside0.mk H
 clear H
 go_enter Try.func72, Try.ntmps72
 go_wp2
 go_loopg [1, 9] k (fun kq v1 v9 w' => ∃ (x1_1 : Int) (x9_1 : Int), v1 = .int .i64 x1_1 ∧ v9 = .int .i64 x9_1 ∧ Aside0 (settle_sum.l0 kq x1_1 l0 (l0.length : Int) x9_1 = some r) ∧ Aside0 (kq ≤ k) ∧ Aside0 (Below w.heap.size w w'))
 case atStart => exact ⟨(a1), (0), sd_, sd_, H', ⟨Nat.le_refl _⟩, ⟨by repeat (first | (with_reducible first | exact HB.out | apply below_alloc | apply pw_below_drewN | apply below_drew1) | exact HB.out)⟩⟩
 case round =>
  clear H'
  try clear p2
  obtain ⟨x1_1, x9_1, rfl, rfl, HA, HK1, HB⟩ := hrel
  cases gk with
  | zero => exact absurd HA.out (by simp [settle_sum.l0])
  | succ k1 =>
   have H := HA.out
   clear HA
   simp only [settle_sum.l0] at H
   by_cases c3 : x9_1 < (l0.length : Int)
   ·rw [if_pos c3] at H
    have c3b0 : decide (x9_1 < (l0.length : Int)) = true := decide_eq_true c3
    clear c3
    by_cases c4 : 0 ≤ x9_1
    ·rw [if_pos c4] at H
     have c4b0 : decide (0 ≤ x9_1) = true := decide_eq_true c4
     clear c4
     by_cases c5 : x9_1 < (l0.length : Int)
     ·rw [if_pos c5] at H
      have c5b0 : decide (x9_1 < (l0.length : Int)) = true := decide_eq_true c5
      clear c5
      have H' := Aside0.mk H
      clear H
      have p512 : 0 ≤ (x9_1 : Int) := od_
      have q512 : x9_1 < (l0.length : Int) := od_
      obtain ⟨ad512, e512, hx512_0, hx512_1, hx512_2, hx512_3, hx512_4⟩ := at_T40 HR0.out x9_1 p512 q512
      cases e512
      replace hx512_0 := (HB.out.cell (World.block_lt_of_cell? w _ hx512_0)).trans hx512_0
      replace hx512_1 := (HB.out.cell (World.block_lt_of_cell? w _ hx512_1)).trans hx512_1
      replace hx512_2 := (HB.out.cell (World.block_lt_of_cell? w _ hx512_2)).trans hx512_2
      replace hx512_3 := (HB.out.cell (World.block_lt_of_cell? w _ hx512_3)).trans hx512_3
      replace hx512_4 := (HB.out.cell (World.block_lt_of_cell? w _ hx512_4)).trans hx512_4
      replace p512 := eq_true p512
      replace q512 := eq_true q512
      go_wp2_with (first | ((with_reducible refine gate_dst (N := 6) rfl ?_); refine box_event ?hg (N := 6) ?hd (cs := #[.int .i64 0, .int .i64 0, .int .i64 0, .int .i64 0, .bool false]) (t := 40) ?hr ?_; (case hd => rfl); (case hg => rfl); (case hr => first | (go_simp; done) | (go_simp; rfl)); intro gb513 hg w6 hbox hb; have n0_ := Aside0.mk (below_step (bb_ HB) hb); have n1_ := Aside0.mk (hbox); have n2_ := Aside0.mk ((by rw [hg]; exact (below_size (bb_ HB)) : w.heap.size ≤ gb513)); have n3_ := Aside0.mk ((by rw [hg]; exact (below_size (bb_ HB)) : w.heap.size ≤ gb513)); clear HB; have HB := n0_; have BK513 := n1_; have GW513 := n2_; have GE513 := n3_; clear n0_ n1_ n2_ n3_; clear hb hbox hg; have hcz7_0 : w6.cell? ⟨gb513, 0, none⟩ = some (.int .i64 0) := (blk_cell BK513.out 0).trans rfl; have hcz7_1 : w6.cell? ⟨gb513, 1, none⟩ = some (.int .i64 0) := (blk_cell BK513.out 1).trans rfl; have hcz7_2 : w6.cell? ⟨gb513, 2, none⟩ = some (.int .i64 0) := (blk_cell BK513.out 2).trans rfl; have hcz7_3 : w6.cell? ⟨gb513, 3, none⟩ = some (.int .i64 0) := (blk_cell BK513.out 3).trans rfl; have hcz7_4 : w6.cell? ⟨gb513, 4, none⟩ = some (.bool false) := (blk_cell BK513.out 4).trans rfl; have hfz7_0 := blk_frozen BK513.out 0; have hfz7_1 := blk_frozen BK513.out 1; have hfz7_2 := blk_frozen BK513.out 2; have hfz7_3 := blk_frozen BK513.out 3; have hfz7_4 := blk_frozen BK513.out 4))
      go_roundg k1
      case measure => have := HK1.out; omega
      case rel => exact ⟨(wrap64 (x1_1 + ((rd_T40 l0 x9_1).f1))), (wrap64 (x9_1 + 1)), sd_, sd_, H', ⟨by have := HK1.out; omega⟩, ⟨by repeat (first | (with_reducible first | exact HB.out | apply below_alloc | apply pw_below_drewN | apply below_drew1 | refine below_set ?_ GE513.out) | exact HB.out)⟩⟩
     ·rw [if_neg c5] at H
      exact absurd H (by simp)
    ·rw [if_neg c4] at H
     exact absurd H (by simp)
   ·rw [if_neg c3] at H
    have c3b0 : decide (x9_1 < (l0.length : Int)) = false := decide_eq_false c3
    clear c3
    obtain rfl := Option.some.inj H
    go_wp2
    go_ret
    exact ⟨ew_, by repeat (first | (with_reducible first | exact HB.out | apply below_alloc | apply pw_below_drewN | apply below_drew1) | exact HB.out)⟩
end
section
open Go.Proofs.YthjjabcbngffoaaH
def outC (p : S40 × S40) : S40 := ⟨p.2.f0, p.2.f1 - p.1.f1, ⟨p.2.f2.f0 - p.1.f1, p.2.f2.f1 - p.1.f1⟩, p.2.f3⟩
def amt3 (p : S40 × S40) : Bool := amtB [(outC p).f1, (outC p).f2.f0, (outC p).f2.f1]
def settleB (l0 l1 : List S40) (a2 a3 : Int) : Bool := pairB l0 l1 && (allB inB l0 l1 && (amtB [a2, a3] && (decide (settle_sum.f 65 l0 a2 = settle_sum.f 65 l1 a3) && ((settle_sum.f 65 l0 a2).isSome && (amtB [a3 - a2] && allB amt3 l0 l1)))))
theorem settleB_at {l0 l1 : List S40} {a2 a3 : Int} (h : settleB l0 l1 a2 a3 = true) : pairB l0 l1 = true ∧ allB inB l0 l1 = true ∧ amtB [a2, a3] = true ∧ (∃ s, settle_sum.f 65 l0 a2 = some s ∧ settle_sum.f 65 l1 a3 = some s) ∧ amtB [a3 - a2] = true ∧ allB amt3 l0 l1 = true := by
 unfold settleB at h
 simp only [Bool.and_eq_true, decide_eq_true_eq] at h
 obtain ⟨h1, h2, h3, h4, h5, h6, h7⟩ := h
 obtain ⟨s, hs⟩ := Option.isSome_iff_exists.1 h5
 exact ⟨h1, h2, h3, ⟨s, hs, h4 ▸ hs⟩, h6, h7⟩
theorem results_3s {P : Program} {fn : Func} {p q r : Tmp} {t t' t'' : TypeId} (h : fn.results = #[.cell p t, .cell q t', .cell r t'']) (T : Array Value) (w : World) (g g' g'' : Nat) (v v' v'' : Value) (hp : T[p]?.getD undef = .pointer (some ⟨g, 0, none⟩)) (hq : T[q]?.getD undef = .pointer (some ⟨g', 0, none⟩)) (hr : T[r]?.getD undef = .pointer (some ⟨g'', 0, none⟩))
  (hu : ∀ w, (isAgg t).run P w = .ok false w) (hu' : ∀ w, (isAgg t').run P w = .ok false w) (hu'' : ∀ w, (isAgg t'').run P w = .ok false w)
  (hc : w.cell? ⟨g, 0, none⟩ = some v) (hc' : w.cell? ⟨g', 0, none⟩ = some v') (hc'' : w.cell? ⟨g'', 0, none⟩ = some v'') : (results fn T).run P w = .ok (.tuple #[v, v', v'']) w := by
 simp [results, h, hp, hq, hr, asAddr, loadVar, hu, hu', hu'', hc, hc', hc'']
theorem out_list {f : S40 × S40 → Bool} {l0 l1 : List S40} {E : List {p : S40 × S40 // f p = true}} (hl : E.length = l0.length) (hE : ∀ k x, E[k]? = some x → x.val = (rd_T40 l0 (k : Nat), rd_T40 l1 (k : Nat))) :
  E.map (fun x => outC x.val) = (List.range l0.length).map (fun j => outC (rd_T40 l0 (j : Nat), rd_T40 l1 (j : Nat))) := by
 apply List.ext_getElem
 ·simp [hl]
 ·intro k h1 h2
  have hk : k < E.length := by simpa using h1
  have := hE k E[k] (List.getElem?_eq_getElem hk)
  simp [this]
theorem isAmount_callsN (n : Nat) (A0 : Option Addr) (c0 : Nat) (l0 : List Int) (hl : l0.length = n) (w : World) (hr0 : Kd.C (Kd.int .i64) w A0 l0.length l0) (hn : l0.length ≤ 140737488355328) (ha : amtB l0 = true) :
  Calls Try.prog 70 #[.slice A0 n c0] w fun e w' => e = .returned (.bool true) ∧ Below w.heap.size w w' := by
 subst hl
 exact isAmount_calls A0 c0 l0 w hr0 hn ha
def calmQS (Q : Exit → Act → World → Prop) : Exit → Act → World → Prop
 | .panic _, _, _ => False
 | .outgrown, _, _ => False
 | e, a, w => Q e a w
theorem wp_calmS {P : Program} {c : Code} {Q : Exit → Act → World → Prop} {a : Act} {w : World} (h : c.wp P (calmQS Q) a w) : c.wp P Q a w := wp_mono h (by
 intro e a w h
 cases e with
 | panic _ => exact h.elim
 | outgrown => exact h.elim
 | _ => exact h)
theorem at_frameS {F : Fence} {n : Nat} {P : Program} {c : Code} {Q : Exit → Act → World → Prop} {T : Array Value} {d : List Deferred} {w : World} (h : ∀ T0, T0 = T → c.wpIn F n P Q { tmps := T0, defers := d } w) : c.wpIn F n P Q { tmps := T, defers := d } w := h T rfl
attribute [local go_sem] Oper.semAt_some
set_option maxHeartbeats 16000000 in
theorem settle_calls (a2 a3 : Int) (A0 A1 : Option Addr) (c0 c1 : Nat) (l0 l1 : List (S40)) (w : World) (hr0 : Kd.C k40 w A0 l0.length l0) (hc0 : l0.length ≤ c0) (hr1 : Kd.C k40 w A1 l1.length l1) (hc1 : l1.length ≤ c1) (hs : settleB l0 l1 a2 a3 = true) :
  Calls Try.prog 52 #[.slice A0 l0.length c0, .slice A1 l1.length c1, .int .i64 a2, .int .i64 a3] w fun e w' => ∃ v0_ : Value, e = .returned (.tuple #[v0_, .int .i64 (a3 - a2), .int .i64 0]) ∧
   Kd.R k40 40 w' w.heap.size (fun _ => True) v0_ ((List.range l0.length).map (fun j => outC (rd_T40 l0 (j : Nat), rd_T40 l1 (j : Nat)))) ∧ Below w.heap.size w w' := by
 obtain ⟨hp, hin, ha, ⟨s, hs0, hs1⟩, hd, h3⟩ := settleB_at hs
 obtain ⟨p0, p1, p2⟩ := pairB_at hp
 obtain ⟨E, hEl, hE⟩ := pairs_list amt3 l0 l1 h3
 have h64 := (chgsB_at p0).1
 have hl := (sameHB_at p2).1.symm
 have hdd := amtB_at hd 0 (by simp) (by simp)
 simp [rd] at hdd
 have hz1 : a3 - a2 ≤ 9223372036854775807 := by omega
 have hz2 : -9223372036854775808 ≤ a3 - a2 := by omega
 have e1 : (s == s) = true := beq_self_eq_true s
 have e2 : (s != s) = false := bne_self_eq_false s
 refine (callsIn_wide (n := 5)).1 ?_
 refine callsIn_of_wp_marks Try.func52 rfl trivial ?_ rfl
 simp only [Try.ntmps52, List.size_toArray, List.length_cons, List.length_nil, Nat.reduceAdd, Nat.reduceSub, Array.replicate_succ, Array.replicate_zero, List.push_toArray, List.append_toArray, List.nil_append, List.cons_append]
 refine wpIn_wide.2 (wp_calmS ?_)
 have hu38 := Try.underlying38
 have hu40 := Try.underlying40
 have hu125 := Try.underlying125
 have HR0 := Aside0.mk hr0
 have HR1 := Aside0.mk hr1
 have HC0 := Aside0.mk hc0
 have HC1 := Aside0.mk hc1
 have HPB := Aside0.mk hp
 have HIN := Aside0.mk hin
 have HAM := Aside0.mk ha
 have HSU0 := Aside0.mk hs0
 have HSU1 := Aside0.mk hs1
 have HAD := Aside0.mk hd
 have HE := Aside0.mk hE
 have HEL := Aside0.mk hEl
 have H64 := Aside0.mk h64
 have HLL := Aside0.mk hl
 clear hr0 hr1 hc0 hc1 hp hin ha hs0 hs1 hd hE hEl h64 hl hs p0 p1 p2 h3 hdd
 have HB := Aside0.mk (Below.refl w.heap.size w)
 go_wp2_with (first | ((with_reducible refine gate_dst (N := 8) rfl ?_); refine box_event ?hg (N := 8) ?hd (cs := #[.slice none 0 0]) (t := 31) ?hr ?_; (case hd => rfl); (case hg => rfl); (case hr => first | (go_simp; done) | (go_simp; rfl)); intro ga hg_A w1 hbox_ hb_; have n0_ := Aside0.mk (below_step HB.out hb_); have BA := Aside0.mk hbox_; have GA := Aside0.mk (show w.heap.size ≤ ga by rw [hg_A]; exact below_size HB.out); have EA := Aside0.mk hg_A; have hcA0 : w1.cell? ⟨ga, 0, none⟩ = some (.slice none 0 0) := (blk_cell hbox_ 0).trans rfl; have hfA0 := blk_frozen hbox_ 0; clear HB hg_A hbox_ hb_; have HB := n0_; clear n0_) | ((with_reducible refine gate_dst (N := 9) rfl ?_); refine box_event ?hg (N := 9) ?hd (cs := #[.int .i64 0]) (t := 3) ?hr ?_; (case hd => rfl); (case hg => rfl); (case hr => first | (go_simp; done) | (go_simp; rfl)); intro gh hg_H w2 hbox_ hb_; have n0_ := Aside0.mk (below_step HB.out hb_); have BH := Aside0.mk hbox_; have GH := Aside0.mk (show w.heap.size ≤ gh by rw [hg_H]; exact below_size HB.out); have EH := Aside0.mk hg_H; have hcH0 : w2.cell? ⟨gh, 0, none⟩ = some (.int .i64 0) := (blk_cell hbox_ 0).trans rfl; have hfH0 := blk_frozen hbox_ 0; have BA := Aside0.mk (blk_below BA.out hb_); clear HB hg_H hbox_ hb_; have HB := n0_; clear n0_) | ((with_reducible refine gate_dst (N := 10) rfl ?_); refine box_event ?hg (N := 10) ?hd (cs := #[.int .i64 0]) (t := 27) ?hr ?_; (case hd => rfl); (case hg => rfl); (case hr => first | (go_simp; done) | (go_simp; rfl)); intro ge hg_E w3 hbox_ hb_; have n0_ := Aside0.mk (below_step HB.out hb_); have BE := Aside0.mk hbox_; have GE := Aside0.mk (show w.heap.size ≤ ge by rw [hg_E]; exact below_size HB.out); have EE := Aside0.mk hg_E; have hcE0 : w3.cell? ⟨ge, 0, none⟩ = some (.int .i64 0) := (blk_cell hbox_ 0).trans rfl; have hfE0 := blk_frozen hbox_ 0; have NHE := Aside0.mk (show gh ≠ ge by have := blk_lt BH.out; omega); have BA := Aside0.mk (blk_below BA.out hb_); have BH := Aside0.mk (blk_below BH.out hb_); clear HB hg_E hbox_ hb_; have HB := n0_; clear n0_) | (go_at_call 69; (with_reducible refine (pairs_calls A0 A1 c0 c1 l0 l1 _ (Kd.C_below HR0.out HB.out) (Kd.C_below HR1.out HB.out) HPB.out).mono ?_); rintro e w4 ⟨g1, g2, rfl, hp_, hq_, hg1_, hg2_, hb_⟩; have BP := Aside0.mk hp_; have BQ := Aside0.mk hq_; have G1 := Aside0.mk (Nat.le_trans (below_size HB.out) hg1_); have G2 := Aside0.mk (Nat.le_trans (below_size HB.out) hg2_); clear hp_ hq_; have NA1 := Aside0.mk (show ga ≠ g1 ∧ ga ≠ g2 by have := blk_lt BA.out; omega); clear hg1_ hg2_; have n0_ := Aside0.mk (below_step HB.out hb_); have BA := Aside0.mk (blk_below BA.out hb_); have BH := Aside0.mk (blk_below BH.out hb_); have BE := Aside0.mk (blk_below BE.out hb_); clear HB hb_; have HB := n0_; clear n0_) | ((with_reducible refine gate_dst (N := 29) rfl ?_); (try (refine gate_guard (by rfl) ?_; dsimp only)); refine Kd.R_lit (Kd.int .i64) _ 3 ?hg (N := 29) ?hd (xs := [a2, a3]) (inner := [.int .i64 a2, .int .i64 a3]) (ok := fun _ => True) (okp := fun _ => True) ?hr ?hp (fun _ hk => hk) trivial (Below.refl _ _) (Nat.le_refl _) (by simp) ?_; (case hd => rfl); (case hg => rfl); (case hr => first | (go_simp; done) | (go_simp; rfl)); (case hp => exact (Reps.one (show Kd.M (Kd.int .i64) _ _ _ (a2) [.int .i64 (a2)] from rfl) (Reps.one (show Kd.M (Kd.int .i64) _ _ _ (a3) [.int .i64 (a3)] from rfl) (Reps.none _ _)))); intro v29 w5 ho_ hb_ hg_ hnew_; obtain ⟨A29, c29, rfl⟩ := Kd.R_slice ho_; have HO29 := Aside0.mk ho_; clear ho_ hg_ hnew_; have n0_ := Aside0.mk (below_step HB.out hb_); have BA := Aside0.mk (blk_below BA.out hb_); have BH := Aside0.mk (blk_below BH.out hb_); have BE := Aside0.mk (blk_below BE.out hb_); have BP := Aside0.mk (blk_below BP.out hb_); have BQ := Aside0.mk (blk_below BQ.out hb_); clear HB hb_; have HB := n0_; clear n0_) | (go_at_call 70; (with_reducible refine (isAmount_callsN 2 A29 c29 [a2, a3] rfl _ (Kd.R_reads' HO29.out).2.2 (by simp) HAM.out).mono ?_); rintro e w6 ⟨rfl, hb_⟩; have n0_ := Aside0.mk (below_step HB.out hb_); have BA := Aside0.mk (blk_below BA.out hb_); have BH := Aside0.mk (blk_below BH.out hb_); have BE := Aside0.mk (blk_below BE.out hb_); have BP := Aside0.mk (blk_below BP.out hb_); have BQ := Aside0.mk (blk_below BQ.out hb_); clear HB hb_; have HB := n0_; clear n0_) | (go_at_call 71; (with_reducible refine (within_calls _ g1 g2 A0 A1 c0 c1 l0 l1 HLL.out H64.out HIN.out BP.out BQ.out (Kd.C_below HR0.out HB.out) (Kd.C_below HR1.out HB.out)).mono ?_); rintro e w7 ⟨rfl, hb_⟩; have n0_ := Aside0.mk (below_step HB.out hb_); have BA := Aside0.mk (blk_below BA.out hb_); have BH := Aside0.mk (blk_below BH.out hb_); have BE := Aside0.mk (blk_below BE.out hb_); have BP := Aside0.mk (blk_below BP.out hb_); have BQ := Aside0.mk (blk_below BQ.out hb_); clear HB hb_; have HB := n0_; clear n0_) | (go_at_call 72; (with_reducible refine (settle_sum.calls 65 A0 c0 l0 a2 s _ (Kd.C_below HR0.out HB.out) HC0.out HSU0.out).mono ?_); rintro e w8 ⟨rfl, hb_⟩; have n0_ := Aside0.mk (below_step HB.out hb_); have BA := Aside0.mk (blk_below BA.out hb_); have BH := Aside0.mk (blk_below BH.out hb_); have BE := Aside0.mk (blk_below BE.out hb_); have BP := Aside0.mk (blk_below BP.out hb_); have BQ := Aside0.mk (blk_below BQ.out hb_); clear HB hb_; have HB := n0_; clear n0_) | (go_at_call 72; (with_reducible refine (settle_sum.calls 65 A1 c1 l1 a3 s _ (Kd.C_below HR1.out HB.out) HC1.out HSU1.out).mono ?_); rintro e w9 ⟨rfl, hb_⟩; have n0_ := Aside0.mk (below_step HB.out hb_); have BA := Aside0.mk (blk_below BA.out hb_); have BH := Aside0.mk (blk_below BH.out hb_); have BE := Aside0.mk (blk_below BE.out hb_); have BP := Aside0.mk (blk_below BP.out hb_); have BQ := Aside0.mk (blk_below BQ.out hb_); clear HB hb_; have HB := n0_; clear n0_) | ((with_reducible refine gate_dst (N := 49) rfl ?_); (try (refine gate_guard (by rfl) ?_; dsimp only)); refine Kd.R_lit (Kd.int .i64) _ 3 ?hg (N := 49) ?hd (xs := [a3 - a2]) (inner := [.int .i64 (a3 - a2)]) (ok := fun _ => True) (okp := fun _ => True) ?hr ?hp (fun _ hk => hk) trivial (Below.refl _ _) (Nat.le_refl _) (by simp) ?_; (case hd => rfl); (case hg => rfl); (case hr => first | (go_simp; done) | (go_simp; rfl)); (case hp => exact (Reps.one (show Kd.M (Kd.int .i64) _ _ _ (a3 - a2) [.int .i64 (a3 - a2)] from rfl) (Reps.none _ _))); intro v49 w10 ho_ hb_ hg_ hnew_; obtain ⟨A49, c49, rfl⟩ := Kd.R_slice ho_; have HO49 := Aside0.mk ho_; clear ho_ hg_ hnew_; have n0_ := Aside0.mk (below_step HB.out hb_); have BA := Aside0.mk (blk_below BA.out hb_); have BH := Aside0.mk (blk_below BH.out hb_); have BE := Aside0.mk (blk_below BE.out hb_); have BP := Aside0.mk (blk_below BP.out hb_); have BQ := Aside0.mk (blk_below BQ.out hb_); clear HB hb_; have HB := n0_; clear n0_) | (go_at_call 70; (with_reducible refine (isAmount_callsN 1 A49 c49 [a3 - a2] rfl _ (Kd.R_reads' HO49.out).2.2 (by simp) HAD.out).mono ?_); rintro e w11 ⟨rfl, hb_⟩; have n0_ := Aside0.mk (below_step HB.out hb_); have BA := Aside0.mk (blk_below BA.out hb_); have BH := Aside0.mk (blk_below BH.out hb_); have BE := Aside0.mk (blk_below BE.out hb_); have BP := Aside0.mk (blk_below BP.out hb_); have BQ := Aside0.mk (blk_below BQ.out hb_); clear HB hb_; have HB := n0_; clear n0_) | ((with_reducible refine gate_dst (N := 13) rfl ?_); refine box_event ?hg (N := 13) ?hd (cs := #[.slice none 0 0]) (t := 31) ?hr ?_; (case hd => rfl); (case hg => rfl); (case hr => first | (go_simp; done) | (go_simp; rfl)); intro go hg_O w12 hbox_ hb_; have n0_ := Aside0.mk (below_step HB.out hb_); have BO := Aside0.mk hbox_; have GO := Aside0.mk (show w.heap.size ≤ go by rw [hg_O]; exact below_size HB.out); have EO := Aside0.mk hg_O; have hcO0 : w12.cell? ⟨go, 0, none⟩ = some (.slice none 0 0) := (blk_cell hbox_ 0).trans rfl; have hfO0 := blk_frozen hbox_ 0; have NO := Aside0.mk (show (go ≠ ga ∧ go ≠ g1 ∧ go ≠ g2) by have := blk_lt BA.out; have := blk_lt BP.out; have := blk_lt BQ.out; omega); have BA := Aside0.mk (blk_below BA.out hb_); have BH := Aside0.mk (blk_below BH.out hb_); have BE := Aside0.mk (blk_below BE.out hb_); have BP := Aside0.mk (blk_below BP.out hb_); have BQ := Aside0.mk (blk_below BQ.out hb_); clear HB hg_O hbox_ hb_; have HB := n0_; clear n0_))
 have hlt1 := blk_lt BP.out
 have hlt2 := blk_lt BQ.out
 have hle := below_size HB.out
 refine (wpIn_wide (n := 4)).1 ?_
 refine at_frameS (fun T0 hT0 => ?_)
 refine wpIn_rangeFunc_ownH rfl (by omega) (gf := 86) (lb := #[.pointer (some ⟨g1, 0, none⟩), .pointer (some ⟨g2, 0, none⟩)]) (by subst hT0; rfl) trivial (enters_fn Try.func86 (by kernel_rfl) rfl)
  (pairs2_stops Subtype.val E 3 (by omega) g1 g2 w.heap.size A0 A1 c0 c1 l0 l1 HLL.out H64.out HEL.out HE.out w12 BP.out BQ.out (fun W' h => Kd.C_below HR0.out (HB.out.trans h)) (fun W' h => Kd.C_below HR1.out (HB.out.trans h)) hle) keep2_t (keep2_b hle hlt1 hlt2) (Below.refl _ _) (fun _ => rfl)
  (fun pre W => (W.heap[ga]? = some (.cells #[.slice none 0 0] 31 (0, 0)) ∧ W.heap[gh]? = some (.cells #[.int .i64 0] 3 (0, 0)) ∧ W.heap[ge]? = some (.cells #[.int .i64 0] 27 (0, 0)) ∧ W.heap[g1]? = some (.cells #[.slice A0 l0.length c0] 31 (0, 0)) ∧ W.heap[g2]? = some (.cells #[.slice A1 l1.length c1] 31 (0, 0)))
   ∧ (∃ v, W.heap[go]? = some (.cells #[v] 31 (0, 0)) ∧ Kd.R k40 40 W w.heap.size (fun _ => True) v (pre.map (fun x => outC x.val))) ∧ Below w.heap.size w W)
  (fun _ _ _ => False)
  (fun st A B row hs hg hr => by
   have hr' : ∀ r, row = some r → ∃ o : Obj, A.heap[r]? = some o ∧ o.isCells = false := fun r e => (hr r e).2
   obtain ⟨⟨i1, i2, i3, i4, i5⟩, ⟨v, i6, i7⟩, i8⟩ := hs
   exact ⟨⟨blk_objs i1 hg hr', blk_objs i2 hg hr', blk_objs i3 hg hr', blk_objs i4 hg hr', blk_objs i5 hg hr'⟩, ⟨v, blk_objs i6 hg hr', R_objs i7 hg hr'⟩, grown_below i8 hg (fun r e => by have := (hr r e).1; omega)⟩)
  (fun _ _ _ _ _ hs _ _ => hs)
  ⟨⟨BA.out, BH.out, BE.out, BP.out, BQ.out⟩, ⟨_, BO.out, Kd.R_nil _ _ _ _ _⟩, HB.out⟩
  (fun x a' W => ∃ g, a' = { tmps := (T0.setIfInBounds 53 (.agg (pairC x.val))).setIfInBounds 14 (.pointer (some ⟨g, 0, none⟩)), defers := [] } ∧ W.heap[g]? = some (.cells (pairC x.val) 125 (0, 0)))
  (fun x a' s A B row hs hg hr => by
   obtain ⟨g, e, hb⟩ := hs
   exact ⟨g, e, blk_objs hb hg (fun r e => (hr r e).2)⟩) ?assign ?body ?done ?stop
 case assign =>
  rintro lr pre ⟨p, hp⟩ W K ⟨⟨i1, i2, i3, i4, i5⟩, ⟨v, i6, i7⟩, i8⟩ hK
  subst hT0
  simp only [sI_, s0_, sS_] at hK
  simp only [encP]
  gi_wp2
  exact hK _ _ ((KeepsOthers.alloc W _).from _) (keep2_below (below_size i8) (blk_lt i4) (blk_lt i5) (below_alloc (Below.refl _ _) _)) ⟨⟨blk_alloc i1 _, blk_alloc i2 _, blk_alloc i3 _, blk_alloc i4 _, blk_alloc i5 _⟩, ⟨v, blk_alloc i6 _, Kd.R_alloc i7 _⟩, below_alloc i8 _⟩ ⟨W.heap.size, rfl, blk_new W _⟩
 case stop =>
  rintro D c pre W _ _ h _
  exact h.elim
 case done =>
  rintro D ys W hD hys ⟨⟨q1, q2, q3, q4, q5⟩, ⟨v, qo, hR⟩, hBW⟩ hDD
  subst hT0
  rw [hys, out_list HEL.out HE.out] at hR
  obtain ⟨Av, cv, ev⟩ := Kd.R_slice hR
  obtain ⟨nv, hnv⟩ : ∃ nv, nv = ((List.range l0.length).map (fun j => outC (rd_T40 l0 (j : Nat), rd_T40 l1 (j : Nat)))).length := ⟨_, rfl⟩
  rw [← hnv] at ev
  subst ev
  clear hnv
  obtain ⟨v, ev⟩ : ∃ v, v = Value.slice Av nv cv := ⟨_, rfl⟩
  rw [← ev] at qo hR
  have hco : W.cell? ⟨go, 0, none⟩ = some (Value.slice Av nv cv) := by rw [← ev]; exact (blk_cell qo 0).trans rfl
  have hca : W.cell? ⟨ga, 0, none⟩ = some (.slice none 0 0) := (blk_cell q1 0).trans rfl
  have hch : W.cell? ⟨gh, 0, none⟩ = some (.int .i64 0) := (blk_cell q2 0).trans rfl
  have hce : W.cell? ⟨ge, 0, none⟩ = some (.int .i64 0) := (blk_cell q3 0).trans rfl
  have hfa := blk_frozen q1 0
  have hfh := blk_frozen q2 0
  have hfe := blk_frozen q3 0
  have nah : ga ≠ gh := blk_ne q1 q2 (by decide)
  have nae : ga ≠ ge := blk_ne q1 q3 (by decide)
  have nhe := NHE.out
  have Q1 := Aside0.mk q1
  have Q2 := Aside0.mk q2
  have Q3 := Aside0.mk q3
  have HRV := Aside0.mk hR
  have HBV := Aside0.mk hBW
  have HDV := Aside0.mk hDD
  have HDL := Aside0.mk (show w.heap.size ≤ D from Nat.le_trans hle hD)
  have NDA := Aside0.mk (show D ≠ ga ∧ D ≠ gh ∧ D ≠ ge from ⟨(fun e => by rw [e, q1] at hDD; cases hDD), (fun e => by rw [e, q2] at hDD; cases hDD), (fun e => by rw [e, q3] at hDD; cases hDD)⟩)
  clear q1 q2 q3 q4 q5 qo hR hBW hDD hys hD
  go_wp2
  rw [← ev]
  obtain ⟨W1, hW1⟩ : ∃ W1, W1 = ((W.setCell ⟨ga, 0, none⟩ v).setCell ⟨gh, 0, none⟩ (.int .i64 (a3 - a2))).setCell ⟨ge, 0, none⟩ (.int .i64 0) := ⟨_, rfl⟩
  rw [← hW1]
  have r1 : W1.heap[ga]? = some (.cells #[v] 31 (0, 0)) := by rw [hW1]; exact blk_far (p := ⟨ge, 0, none⟩) (blk_far (p := ⟨gh, 0, none⟩) (blk_put Q1.out 0 _ rfl) nah _) nae _
  have r2 : W1.heap[gh]? = some (.cells #[.int .i64 (a3 - a2)] 3 (0, 0)) := by rw [hW1]; exact blk_far (p := ⟨ge, 0, none⟩) (blk_put (blk_far (p := ⟨ga, 0, none⟩) Q2.out nah.symm _) 0 _ rfl) nhe _
  have r3 : W1.heap[ge]? = some (.cells #[.int .i64 0] 27 (0, 0)) := by rw [hW1]; exact blk_put (blk_far (p := ⟨gh, 0, none⟩) (blk_far (p := ⟨ga, 0, none⟩) Q3.out nae.symm _) nhe.symm _) 0 _ rfl
  have rD : W1.heap[D]? = some (.deferred (some [])) := by rw [hW1]; exact (Below.heap_setCell _ _ _ _ NDA.out.2.2).trans ((Below.heap_setCell _ _ _ _ NDA.out.2.1).trans ((Below.heap_setCell _ _ _ _ NDA.out.1).trans HDV.out))
  have rB : Below w.heap.size w W1 := by rw [hW1]; exact below_set (below_set (below_set HBV.out GA.out) GH.out) GE.out
  have rR : Kd.R k40 40 W1 w.heap.size (fun _ => True) v ((List.range l0.length).map (fun j => outC (rd_T40 l0 (j : Nat), rd_T40 l1 (j : Nat)))) := by
   rw [hW1]
   exact Kd.R_set (Kd.R_set (Kd.R_set HRV.out Q1.out (by decide) _ _) (blk_far (p := ⟨ga, 0, none⟩) Q2.out nah.symm _) (by decide) _ _) (blk_far (p := ⟨gh, 0, none⟩) (blk_far (p := ⟨ga, 0, none⟩) Q3.out nae.symm _) nhe.symm _) (by decide) _ _
  show bodyPostM _ _ _ _ _ .ret _ _
  refine postM_doneW (D := D) rD (results_3s rfl _ _ ga gh ge v (.int .i64 (a3 - a2)) (.int .i64 0) rfl rfl rfl (fun w => by have hu := Try.underlying31; simp [isAgg, run_underlying hu]) (fun w => by have hu := Try.underlying3; simp [isAgg, run_underlying hu]) (fun w => by have hu := Try.underlying27; simp [isAgg, run_underlying hu])
   ((blk_cell (cells_putW r1 rD rfl rfl _) 0).trans rfl) ((blk_cell (cells_putW r2 rD rfl rfl _) 0).trans rfl) ((blk_cell (cells_putW r3 rD rfl rfl _) 0).trans rfl)) ⟨v, rfl, ?_, ?_⟩
  ·exact R_objs rR (grownBy_putObj' W1 D _) (fun r e => by cases e; exact ⟨_, rD, rfl⟩)
  ·exact rB.trans (belowK_b (w := w) (Nat.le_refl _) _ D _ _ HDL.out rD rfl rfl)
 case body =>
  rintro lr pre ⟨p, hp⟩ a' W _ _ ⟨⟨q1, q2, q3, q4, q5⟩, ⟨v, qo, hR⟩, hBW⟩ ⟨g, rfl, hb⟩ hlen
  subst hT0
  simp only [sI_, s0_, sS_]
  have hp0 := amtB_at hp 0 (by simp) (by simp)
  have hp1 := amtB_at hp 1 (by simp) (by simp)
  have hp2 := amtB_at hp 2 (by simp) (by simp)
  simp [rd, outC] at hp0 hp1 hp2
  have y1 : p.2.f1 - p.1.f1 ≤ 9223372036854775807 := by omega
  have y2 : -9223372036854775808 ≤ p.2.f1 - p.1.f1 := by omega
  have y3 : p.2.f2.f0 - p.1.f1 ≤ 9223372036854775807 := by omega
  have y4 : -9223372036854775808 ≤ p.2.f2.f0 - p.1.f1 := by omega
  have y5 : p.2.f2.f1 - p.1.f1 ≤ 9223372036854775807 := by omega
  have y6 : -9223372036854775808 ≤ p.2.f2.f1 - p.1.f1 := by omega
  have HPA := Aside0.mk (show amtB [p.2.f1 - p.1.f1, p.2.f2.f0 - p.1.f1, p.2.f2.f1 - p.1.f1] = true from hp)
  have BG := Aside0.mk hb
  have Q1 := Aside0.mk q1
  have Q2 := Aside0.mk q2
  have Q3 := Aside0.mk q3
  have Q4 := Aside0.mk q4
  have Q5 := Aside0.mk q5
  have QO := Aside0.mk qo
  obtain ⟨Ao, co, ev⟩ := Kd.R_slice hR
  obtain ⟨no, hno⟩ : ∃ no, no = (pre.map (fun x => outC x.val)).length := ⟨_, rfl⟩
  rw [← hno] at ev
  subst ev
  have HNO := Aside0.mk hno
  clear hno
  have HRV := Aside0.mk hR
  have HBV := Aside0.mk hBW
  have HLN := Aside0.mk (show pre.length ≤ 64 by have := H64.out; omega)
  clear hp0 hp1 hp2 q1 q2 q3 q4 q5 qo hR hBW hb hlen
  gi_wp2_with (fail)
  refine start_R (m := 8) (S := fun w' => w'.cell? ⟨g, 5, none⟩ = some (.int .i64 p.2.f0) ∧ w'.cell? ⟨g, 6, none⟩ = some (.int .i64 p.2.f1) ∧ w'.cell? ⟨g, 7, none⟩ = some (.int .i64 p.2.f2.f0) ∧ w'.cell? ⟨g, 8, none⟩ = some (.int .i64 p.2.f2.f1) ∧ w'.cell? ⟨g, 9, none⟩ = some (.bool p.2.f3) ∧ w'.cell? ⟨g, 1, none⟩ = some (.int .i64 p.1.f1)) (ds := []) (by kernel_rfl) (by rintro ⟨_, _, h⟩; exact h) #[n_, n_, n_, n_, n_, n_, n_, n_] (by kernel_rfl) rfl rfl ⟨(blk_cell (show W.drew.heap[g]? = _ from BG.out) 5).trans rfl, (blk_cell (show W.drew.heap[g]? = _ from BG.out) 6).trans rfl, (blk_cell (show W.drew.heap[g]? = _ from BG.out) 7).trans rfl, (blk_cell (show W.drew.heap[g]? = _ from BG.out) 8).trans rfl, (blk_cell (show W.drew.heap[g]? = _ from BG.out) 9).trans rfl, (blk_cell (show W.drew.heap[g]? = _ from BG.out) 1).trans rfl⟩ (fun hHeld => ?_)
  refine pv_ 0 54 (w_ 8 1) rfl ?_
  refine pv_ 2 56 (w_ 8 5) rfl ?_
  refine pv_ 3 57 (w_ 8 13) rfl ?_
  refine tb_ 1 55 (w_ 8 15) rfl hHeld (by rintro w' ⟨s0, s1, s2, s3, s4, s5⟩; go_simp; with_reducible rfl) ?_
  refine tb_ 4 58 (w_ 8 31) rfl hHeld (by rintro w' ⟨s0, s1, s2, s3, s4, s5⟩; go_simp; with_reducible rfl) ?_
  refine one_ (i := 5) (N := some 15) (w_ 8 63) rfl rfl (by kernel_rfl) (by decide) (fun K hK => ?_)
  refine box_step ?hw (N := 15) ?hd (cs := #[.int .i64 0, .int .i64 0, .int .i64 0, .int .i64 0, .bool false]) (t := 40) ?hr ?_
  (case hw => rfl)
  (case hd => rfl)
  (case hr => first | (go_simp; done) | (go_simp; rfl))
  intro gx hgx w13 hbx_ hb_
  have BX13 := Aside0.mk hbx_
  have BG13 := Aside0.mk (blk_below (show W.drew.heap[g]? = _ from BG.out) hb_)
  have HW13 := Aside0.mk (below_step (below_drew (Below.refl W.heap.size W)) hb_)
  have GX := Aside0.mk (show W.heap.size ≤ gx by rw [hgx]; exact Nat.le_refl _)
  have NGX := Aside0.mk (show g ≠ gx by have := blk_lt BG.out; have := GX.out; omega)
  have hcx0 : w13.cell? ⟨gx, 0, none⟩ = some (.int .i64 0) := (blk_cell hbx_ 0).trans rfl
  have hcx1 : w13.cell? ⟨gx, 1, none⟩ = some (.int .i64 0) := (blk_cell hbx_ 1).trans rfl
  have hcx2 : w13.cell? ⟨gx, 2, none⟩ = some (.int .i64 0) := (blk_cell hbx_ 2).trans rfl
  have hcx3 : w13.cell? ⟨gx, 3, none⟩ = some (.int .i64 0) := (blk_cell hbx_ 3).trans rfl
  have hcx4 : w13.cell? ⟨gx, 4, none⟩ = some (.bool false) := (blk_cell hbx_ 4).trans rfl
  have hfx0 := blk_frozen hbx_ 0
  have hfx1 := blk_frozen hbx_ 1
  have hfx2 := blk_frozen hbx_ 2
  have hfx3 := blk_frozen hbx_ 3
  have hfx4 := blk_frozen hbx_ 4
  clear hgx hbx_ hb_
  refine hK.out _ _ ⟨(blk_cell (BG13.out) 5).trans rfl, (blk_cell (BG13.out) 6).trans rfl, (blk_cell (BG13.out) 7).trans rfl, (blk_cell (BG13.out) 8).trans rfl, (blk_cell (BG13.out) 9).trans rfl, (blk_cell (BG13.out) 1).trans rfl⟩ (fun hHeld => ?_)
  clear hK K
  refine norm_ (a' := ?_) ?_ ?_
  rotate_left
  ·show Act.put _ (some 15) _ = _
   simp only [Act.put, sI_, s0_, sS_, i64_w, i32_w]
   rfl
  refine one_ (i := 6) (N := none) (w_ 8 127) rfl rfl (by kernel_rfl) (by decide) (fun K hK => ?_)
  refine skip_ (w1 := ?_) (by rfl) rfl ?_ ?_
  rotate_left
  ·go_simp
   rfl
  refine hK.out _ _ ⟨(blk_cell (blk_far (p := ⟨gx, 4, none⟩) (blk_far (p := ⟨gx, 3, none⟩) (blk_far (p := ⟨gx, 2, none⟩) (blk_far (p := ⟨gx, 1, none⟩) (blk_far (p := ⟨gx, 0, none⟩) (BG13.out) NGX.out _) NGX.out _) NGX.out _) NGX.out _) NGX.out _) 5).trans rfl, (blk_cell (blk_far (p := ⟨gx, 4, none⟩) (blk_far (p := ⟨gx, 3, none⟩) (blk_far (p := ⟨gx, 2, none⟩) (blk_far (p := ⟨gx, 1, none⟩) (blk_far (p := ⟨gx, 0, none⟩) (BG13.out) NGX.out _) NGX.out _) NGX.out _) NGX.out _) NGX.out _) 6).trans rfl, (blk_cell (blk_far (p := ⟨gx, 4, none⟩) (blk_far (p := ⟨gx, 3, none⟩) (blk_far (p := ⟨gx, 2, none⟩) (blk_far (p := ⟨gx, 1, none⟩) (blk_far (p := ⟨gx, 0, none⟩) (BG13.out) NGX.out _) NGX.out _) NGX.out _) NGX.out _) NGX.out _) 7).trans rfl, (blk_cell (blk_far (p := ⟨gx, 4, none⟩) (blk_far (p := ⟨gx, 3, none⟩) (blk_far (p := ⟨gx, 2, none⟩) (blk_far (p := ⟨gx, 1, none⟩) (blk_far (p := ⟨gx, 0, none⟩) (BG13.out) NGX.out _) NGX.out _) NGX.out _) NGX.out _) NGX.out _) 8).trans rfl, (blk_cell (blk_far (p := ⟨gx, 4, none⟩) (blk_far (p := ⟨gx, 3, none⟩) (blk_far (p := ⟨gx, 2, none⟩) (blk_far (p := ⟨gx, 1, none⟩) (blk_far (p := ⟨gx, 0, none⟩) (BG13.out) NGX.out _) NGX.out _) NGX.out _) NGX.out _) NGX.out _) 9).trans rfl, (blk_cell (blk_far (p := ⟨gx, 4, none⟩) (blk_far (p := ⟨gx, 3, none⟩) (blk_far (p := ⟨gx, 2, none⟩) (blk_far (p := ⟨gx, 1, none⟩) (blk_far (p := ⟨gx, 0, none⟩) (BG13.out) NGX.out _) NGX.out _) NGX.out _) NGX.out _) NGX.out _) 1).trans rfl⟩ (fun hHeld => ?_)
  clear hK K
  refine pv_ 7 16 (w_ 8 255) rfl ?_
  refine done_ (by kernel_rfl) ?_
  obtain ⟨w14, hw14⟩ : ∃ w14, w14 = ((((w13.setCell ⟨gx, 0, none⟩ (.int .i64 p.2.f0)).setCell ⟨gx, 1, none⟩ (.int .i64 p.2.f1)).setCell ⟨gx, 2, none⟩ (.int .i64 p.2.f2.f0)).setCell ⟨gx, 3, none⟩ (.int .i64 p.2.f2.f1)).setCell ⟨gx, 4, none⟩ (.bool p.2.f3) := ⟨_, rfl⟩
  rw [← hw14]
  have BX14 := Aside0.mk (show w14.heap[gx]? = some (.cells #[.int .i64 p.2.f0, .int .i64 p.2.f1, .int .i64 p.2.f2.f0, .int .i64 p.2.f2.f1, .bool p.2.f3] 40 (0, 0)) by rw [hw14]; exact blk_put (blk_put (blk_put (blk_put (blk_put BX13.out 0 _ rfl) 1 _ rfl) 2 _ rfl) 3 _ rfl) 4 _ rfl)
  have HW14 := Aside0.mk (show Below W.heap.size W w14 by rw [hw14]; exact below_set (below_set (below_put3 HW13.out GX.out _ _ _) GX.out) GX.out)
  clear hw14 BX13 HW13 BG13 hcx0 hcx1 hcx2 hcx3 hcx4 hfx0 hfx1 hfx2 hfx3 hfx4
  have hcx1 : w14.cell? ⟨gx, 1, none⟩ = some (.int .i64 p.2.f1) := (blk_cell BX14.out 1).trans rfl
  have hcx2 : w14.cell? ⟨gx, 2, none⟩ = some (.int .i64 p.2.f2.f0) := (blk_cell BX14.out 2).trans rfl
  have hcx3 : w14.cell? ⟨gx, 3, none⟩ = some (.int .i64 p.2.f2.f1) := (blk_cell BX14.out 3).trans rfl
  have hfx1 := blk_frozen BX14.out 1
  have hfx2 := blk_frozen BX14.out 2
  have hfx3 := blk_frozen BX14.out 3
  gi_upto_region 15 with (fail)
  obtain ⟨w15, hw15⟩ : ∃ w15, w15 = ((w14.setCell ⟨gx, 1, none⟩ (.int .i64 (p.2.f1 - p.1.f1))).setCell ⟨gx, 2, none⟩ (.int .i64 (p.2.f2.f0 - p.1.f1))).setCell ⟨gx, 3, none⟩ (.int .i64 (p.2.f2.f1 - p.1.f1)) := ⟨_, rfl⟩
  rw [← hw15]
  have BX := Aside0.mk (show w15.heap[gx]? = some (.cells #[.int .i64 p.2.f0, .int .i64 (p.2.f1 - p.1.f1), .int .i64 (p.2.f2.f0 - p.1.f1), .int .i64 (p.2.f2.f1 - p.1.f1), .bool p.2.f3] 40 (0, 0)) by rw [hw15]; exact blk_put (blk_put (blk_put BX14.out 1 _ rfl) 2 _ rfl) 3 _ rfl)
  have HB := Aside0.mk (show Below W.heap.size W w15 by rw [hw15]; exact below_set (below_set (below_set HW14.out GX.out) GX.out) GX.out)
  clear hw15 BX14 HW14 hcx1 hcx2 hcx3 hfx1 hfx2 hfx3
  have hcx1 : w15.cell? ⟨gx, 1, none⟩ = some (.int .i64 (p.2.f1 - p.1.f1)) := (blk_cell BX.out 1).trans rfl
  have hcx2 : w15.cell? ⟨gx, 2, none⟩ = some (.int .i64 (p.2.f2.f0 - p.1.f1)) := (blk_cell BX.out 2).trans rfl
  have hcx3 : w15.cell? ⟨gx, 3, none⟩ = some (.int .i64 (p.2.f2.f1 - p.1.f1)) := (blk_cell BX.out 3).trans rfl
  refine round_region (by kernel_rfl) (by rintro ⟨_, _, h⟩; exact h) ?_
  go_wp2_with (first | ((with_reducible refine gate_dst (N := 86) rfl ?_); (try (refine gate_guard (by rfl) ?_; dsimp only)); refine Kd.R_lit (Kd.int .i64) _ 3 ?hg (N := 86) ?hd (xs := [p.2.f1 - p.1.f1, p.2.f2.f0 - p.1.f1, p.2.f2.f1 - p.1.f1]) (inner := [.int .i64 (p.2.f1 - p.1.f1), .int .i64 (p.2.f2.f0 - p.1.f1), .int .i64 (p.2.f2.f1 - p.1.f1)]) (ok := fun _ => True) (okp := fun _ => True) ?hr ?hp (fun _ hk => hk) trivial (Below.refl _ _) (Nat.le_refl _) (by simp) ?_; (case hd => rfl); (case hg => rfl); (case hr => first | (go_simp; done) | (go_simp; rfl)); (case hp => exact (Reps.one (show Kd.M (Kd.int .i64) _ _ _ (p.2.f1 - p.1.f1) [.int .i64 (p.2.f1 - p.1.f1)] from rfl) (Reps.one (show Kd.M (Kd.int .i64) _ _ _ (p.2.f2.f0 - p.1.f1) [.int .i64 (p.2.f2.f0 - p.1.f1)] from rfl) (Reps.one (show Kd.M (Kd.int .i64) _ _ _ (p.2.f2.f1 - p.1.f1) [.int .i64 (p.2.f2.f1 - p.1.f1)] from rfl) (Reps.none _ _))))); intro v86 w16 ho_ hb_ hg_ hnew_; obtain ⟨A86, c86, rfl⟩ := Kd.R_slice ho_; have HO86 := Aside0.mk ho_; clear ho_ hg_ hnew_; have n0_ := Aside0.mk (below_step HB.out hb_); have BX := Aside0.mk (blk_below BX.out hb_); clear HB hb_; have HB := n0_; clear n0_) | (go_at_call 70; (with_reducible refine (isAmount_callsN 3 A86 c86 [p.2.f1 - p.1.f1, p.2.f2.f0 - p.1.f1, p.2.f2.f1 - p.1.f1] rfl _ (Kd.R_reads' HO86.out).2.2 (by simp) HPA.out).mono ?_); rintro e w17 ⟨rfl, hb_⟩; have n0_ := Aside0.mk (below_step HB.out hb_); have BX := Aside0.mk (blk_below BX.out hb_); clear HB hb_; have HB := n0_; clear n0_))
  have BX17 := BX
  have HW17 := HB
  have BO17 := Aside0.mk (blk_below QO.out HW17.out)
  have HR17 := Aside0.mk (Kd.R_below HRV.out HW17.out)
  have HBW := Aside0.mk (below_step HBV.out HW17.out)
  have hcx0 : w17.cell? ⟨gx, 0, none⟩ = some (.int .i64 p.2.f0) := (blk_cell BX17.out 0).trans rfl
  have hcx1 : w17.cell? ⟨gx, 1, none⟩ = some (.int .i64 (p.2.f1 - p.1.f1)) := (blk_cell BX17.out 1).trans rfl
  have hcx2 : w17.cell? ⟨gx, 2, none⟩ = some (.int .i64 (p.2.f2.f0 - p.1.f1)) := (blk_cell BX17.out 2).trans rfl
  have hcx3 : w17.cell? ⟨gx, 3, none⟩ = some (.int .i64 (p.2.f2.f1 - p.1.f1)) := (blk_cell BX17.out 3).trans rfl
  have hcx4 : w17.cell? ⟨gx, 4, none⟩ = some (.bool p.2.f3) := (blk_cell BX17.out 4).trans rfl
  have hco : w17.cell? ⟨go, 0, none⟩ = some (.slice Ao no co) := (blk_cell BO17.out 0).trans rfl
  clear BX HB
  gi_upto_region 17 with (fail)
  refine round_region (by kernel_rfl) (by rintro ⟨_, _, h⟩; exact h) ?_
  go_wp2_with (first | ((with_reducible refine gate_builtin (b := .append) (xs := #[.tmp 89, .tmp 91]) rfl ?_); at_builtin; refine Kd.R_append k40 (w0 := w) w.heap.size rfl (.tmp 89) (.tmp 91) 31 40 (.agg #[.int .i64 0, .int .i64 0, .int .i64 0, .int .i64 0, .bool false]) 40 rfl Try.underlying31 info40 rfl (by decide) (by omega) (.slice Ao no co) (pre.map (fun x => outC x.val)) (outC p) [.int .i64 p.2.f0, .int .i64 (p.2.f1 - p.1.f1), .int .i64 (p.2.f2.f0 - p.1.f1), .int .i64 (p.2.f2.f1 - p.1.f1), .bool p.2.f3] (fun _ => True) (fun _ => False) rfl rfl (k40_mkM _ _ _ (outC p)) (fun _ hk => hk.elim) (fun _ _ => trivial) HR17.out HBW.out (below_size HBW.out) (by rw [List.length_map]; have := HLN.out; omega) ?_; intro v9 w18 ho_ hb_ hg_ hat_; obtain ⟨A9, c9, e9_⟩ := Kd.R_slice ho_; obtain ⟨n9, hn9_⟩ : ∃ n9, n9 = (pre.map (fun x => outC x.val) ++ [outC p]).length := ⟨_, rfl⟩; rw [← hn9_] at e9_; subst e9_; clear hn9_; have HR18 := Aside0.mk ho_; have HG18 := Aside0.mk hg_; have BO18 := Aside0.mk (blk_grown BO17.out hg_ (Kd.R_ne HR17.out BO17.out (by decide))); have hco8 : w18.cell? ⟨go, 0, none⟩ = some (.slice Ao no co) := (blk_cell BO18.out 0).trans rfl; have hfo8 := blk_frozen BO18.out 0; clear ho_ hb_ hg_ hat_))
  obtain ⟨v9, hv9⟩ : ∃ v9, v9 = Value.slice A9 n9 c9 := ⟨_, rfl⟩
  rw [← hv9] at HR18 ⊢
  have hkf : KeepsOthers W (w18.setCell ⟨go, 0, none⟩ v9) := (KeepsOthers.of_grownBy (grown_of_below HW17.out none) (by simp)).trans ((KeepsOthers.of_grownBy HG18.out (R_row_cells HR17.out)).trans (KeepsOthers.setCell _ _ _))
  have k1 := blk_far (p := ⟨go, 0, none⟩) (blk_grown (blk_below Q1.out HW17.out) HG18.out (Kd.R_ne HR17.out (blk_below Q1.out HW17.out) (by decide))) NO.out.1.symm v9
  have k2 := blk_far (p := ⟨go, 0, none⟩) (blk_grown (blk_below Q2.out HW17.out) HG18.out (Kd.R_ne HR17.out (blk_below Q2.out HW17.out) (by decide))) (blk_ne Q2.out QO.out (by decide)) v9
  have k3 := blk_far (p := ⟨go, 0, none⟩) (blk_grown (blk_below Q3.out HW17.out) HG18.out (Kd.R_ne HR17.out (blk_below Q3.out HW17.out) (by decide))) (blk_ne Q3.out QO.out (by decide)) v9
  have k4 := blk_far (p := ⟨go, 0, none⟩) (blk_grown (blk_below Q4.out HW17.out) HG18.out (Kd.R_ne HR17.out (blk_below Q4.out HW17.out) (by decide))) NO.out.2.1.symm v9
  have k5 := blk_far (p := ⟨go, 0, none⟩) (blk_grown (blk_below Q5.out HW17.out) HG18.out (Kd.R_ne HR17.out (blk_below Q5.out HW17.out) (by decide))) NO.out.2.2.symm v9
  have kb : Below w.heap.size W (w18.setCell ⟨go, 0, none⟩ v9) := ((HW17.out.mono (below_size HBV.out)).grown HG18.out (below_size HBW.out) (fun k e => by
   rcases Kd.R_base2 HR17.out with e0 | ⟨k', e1, hk'⟩
   ·rw [e0] at e; cases e
   ·rw [e1] at e; cases e; exact hk')).setCell (p := ⟨go, 0, none⟩) GO.out _
  refine ⟨hkf.from _, ⟨kb, k4.trans Q4.out.symm, k5.trans Q5.out.symm⟩, ⟨k1, k2, k3, k4, k5⟩, ⟨v9, blk_put BO18.out 0 _ rfl, ?_⟩, HBV.out.trans kb⟩
  rw [List.map_append]
  exact Kd.R_set HR18.out BO18.out (by decide) 0 v9
def settle_Settle.f (l0 l1 : List S40) (a2 a3 : Int) : Option (List S40 × Int × Int) := if settleB l0 l1 a2 a3 = true then some ((List.range l0.length).map (fun j => outC (rd_T40 l0 (j : Nat), rd_T40 l1 (j : Nat))), a3 - a2, 0) else none
theorem settle_Settle.calls (A0 : Option Addr) (c0 : Nat) (l0 : List (S40)) (A1 : Option Addr) (c1 : Nat) (l1 : List (S40)) (a2 a3 : Int) (r1 : List (S40)) (r2 r3 : Int) (w : World) (hr0 : Kd.C k40 w A0 l0.length l0) (hc0 : l0.length ≤ c0) (hr1 : Kd.C k40 w A1 l1.length l1) (hc1 : l1.length ≤ c1) (h : settle_Settle.f l0 l1 a2 a3 = some (r1, r2, r3)) :
  Calls Try.prog 52 #[.slice A0 l0.length c0, .slice A1 l1.length c1, .int .i64 a2, .int .i64 a3] w fun e w' => ∃ v0_ : Value, e = .returned (.tuple #[v0_, .int .i64 r2, .int .i64 r3]) ∧ Kd.R k40 40 w' w.heap.size (fun _ => True) v0_ r1 ∧ Below w.heap.size w w' := by
 unfold settle_Settle.f at h
 by_cases hf : settleB l0 l1 a2 a3 = true
 case neg => rw [if_neg hf] at h; cases h
 rw [if_pos hf] at h
 simp only [Option.some.injEq, Prod.mk.injEq] at h
 obtain ⟨rfl, rfl, rfl⟩ := h
 exact settle_calls a2 a3 A0 A1 c0 c1 l0 l1 w hr0 hc0 hr1 hc1 hf
end
end Go.Proofs.Ythjjabcbngffoaa.P
end
