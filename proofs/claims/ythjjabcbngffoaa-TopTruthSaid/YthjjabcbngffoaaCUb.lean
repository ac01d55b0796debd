/- Part 2 of the base that the seat's proofs share: words, walks and plain laws. -/
import Derived.ArgAppend
import Derived.Below
import Derived.BigQuiet
import Derived.ChangeOld
import Derived.ChangeSlices
import Derived.Deep.AppendLies
import Derived.Deep.CutBlock
import Derived.Deep.DeepCutAuto
import Derived.Deep.Draws
import Derived.Deep.LoopGhost
import Derived.Deep.OwnRows
import Derived.Deep.QuietTactic
import Derived.Deep.RegionHeld3
import Derived.Deep.Slices
import Derived.KernelRfl
import Derived.Laws.BitsLemmas
import Derived.Laws.BytesArg
import Derived.Laws.IdiomCopy
import Derived.Laws.MakeOwn
import Derived.Laws.OwnMore
import Derived.Laws.Rows
import Derived.Laws.Slices
import Derived.Laws.StructEq
import Derived.Lib.AppendStr
import Derived.Lib.ConvBytes
import Derived.LoopIn
import Derived.LoopNIn
import Derived.Maps.AppendAt
import Derived.Maps.Own
import Derived.OpenShut
import Derived.OrdersHeld
import Derived.OwnWalk
import Derived.OwnWalkIn
import Derived.ProofKit
import Derived.RangeFuncBound
import Derived.RangeFuncCalls
import Derived.RangeFuncLeaves
import Derived.RangeFuncNested
import Derived.RowKit
import Derived.RowKit3
import Derived.ShutString
import Derived.SizedLaws
import Derived.Sort.CutIn
import Derived.Stop.RegionWithIn
import Derived.Tactics
import Derived.TacticsInMore
import Derived.Test.YthjjabcbngffoaaProg
import Derived.WalkKit
import Derived.WideLaws
import Derived.Test.YthjjabcbngffoaaCUa
set_option linter.unusedVariables false
set_option linter.unusedSimpArgs false
section
namespace Go.Proofs.Ythjjabcbngffoaa.P
open Go.RowKit Go.Proofs.YthjjabcbngffoaaW.PrintWords Go.Proofs.YthjjabcbngffoaaW.PrintLast Go.Proofs.YthjjabcbngffoaaW.PrintMore
attribute [local go_sem] max2_int min2_int max_two min_two max_three min_three max_four min_four
set_option linter.unusedVariables false
set_option linter.unusedSimpArgs false
set_option maxHeartbeats 8000000
set_option maxRecDepth 100000
section
open Go.Proofs.YthjjabcbngffoaaH
theorem hinfo22 : (Try.prog.info? 22).map (fun i => (i.zero, i.size, i.bytes)) = some (some (.slice none 0 0), 1, 24) := by kernel_rfl
def isVol (n : Int) : Bool := decide (0 ≤ n) && decide (n ≤ 1000000000)
def badP (l : List S63) (i : Int) (has : Bool) : Bool :=
 decide ((rd_T63 l i).f0 < 1) || (decide (0 < i) && decide ((rd_T63 l i).f0 ≤ (rd_T63 l (i - 1)).f0)) || !isVol (rd_T63 l i).f2 || ((rd_T63 l i).f1 != 0 && !has)
def setI (m : Int → Option Int) (k v : Int) : Int → Option Int := fun k' => if k' = k then some v else m k'
def addKid (kids : List (List Int)) (a : Option Int) (i : Int) : List (List Int) := match a with | some j => kids.set j.toNat (rdK kids j ++ [i]) | none => kids
theorem addKid_len (kids : List (List Int)) (a : Option Int) (i : Int) : (addKid kids a i).length = kids.length := by
 cases a <;> simp [addKid]
theorem addKid_le (kids : List (List Int)) (av i : Int) (hi : 0 ≤ i) (h : ∀ j, (rdK kids j).length ≤ i.toNat) (j : Int) : (rdK (addKid kids (some av) i) j).length ≤ (i + 1).toNat := by
 have h1 := h j
 have h2 := h av
 simp only [addKid, rdK, List.getD_eq_getElem?_getD] at *
 rw [List.getElem?_set]
 split
 ·split
  ·simp; omega
  ·simp
 ·omega
def openL (l : List S63) : Nat → List (List Int) → (Int → Option Int) → Int → Option (List (List Int))
 | 0, kids, _, _ => some kids
 | k + 1, kids, m, i => if badP l i (m (rd_T63 l i).f1).isSome then none else openL l k (addKid kids (m (rd_T63 l i).f1) i) (setI m (rd_T63 l i).f0 i) (i + 1)
def openK (l : List S63) : Option (List (List Int)) := openL l l.length (List.replicate l.length []) (fun _ => none) 0
theorem vol_f {a : Int} {b : Bool} (h : isVol a = b) : flow_isVolume.f a = some b := by
 subst h
 unfold flow_isVolume.f isVol
 by_cases h0 : 0 ≤ a <;> simp [h0]
def mapV (m : Int → Option Int) : Int → Option Value := fun k => (m k).map (Value.int .i64)
theorem mapV_look (m : Int → Option Int) (k : Int) : Value.tuple #[(mapV m k).getD (.int .i64 0), .bool (mapV m k).isSome] = .tuple #[.int .i64 ((m k).getD 0), .bool (m k).isSome] := by
 unfold mapV
 cases m k <;> rfl
theorem mapV_set (m : Int → Option Int) (k v : Int) : ∀ x, setM (mapV m) k (.int .i64 v) x = mapV (setI m k v) x := by
 intro x
 unfold setM mapV setI
 by_cases h : x = k <;> simp [h]
def OpenPost (A0 : Option Addr) (c0 : Nat) (l0 : List (S63)) (w : World) (e : Ending) (w' : World) : Prop :=
 Below w.heap.size w w' ∧ ((openK l0 = none ∧ e = .returned (.tuple #[.agg #[.slice none 0 0, .slice none 0 0], .bool false])) ∨
  (∃ kids v, openK l0 = some kids ∧ e = .returned (.tuple #[.agg #[.slice A0 l0.length c0, v], .bool (decide ((l0.length : Int) ≤ 200))]) ∧ Kd.S (Kd.slice 3 (Kd.int .i64)) 22 w' w.heap.size (fun _ => True) v kids))
theorem open_calls (A0 : Option Addr) (c0 : Nat) (l0 : List (S63)) (w : World) (hr0 : Kd.C k63 w A0 l0.length l0) (hc0 : l0.length ≤ c0) (hsz : l0.length ≤ 5864062014805) :
  Calls Try.prog 40 #[.slice A0 l0.length c0] w (OpenPost A0 c0 l0 w) := by
 have hu80 := Try.underlying80
 have hu63 := Try.underlying63
 have HR0 := Aside0.mk hr0
 have HC0 := Aside0.mk hc0
 have HSZ := Aside0.mk hsz
 clear hr0 hc0 hsz
 have HB := Aside0.mk (Below.refl w.heap.size w)
 have hmm := @run_makeMap Try.prog
 go_enter Try.func40, Try.ntmps40
 go_wp2_with (first
  | ((with_reducible refine gate_dst (N := 2) rfl ?_); refine box_event ?hg (N := 2) ?hd (cs := #[.slice none 0 0, .slice none 0 0]) (t := 80) ?hr ?_; (case hd => rfl); (case hg => rfl); (case hr => first | (go_simp; done) | (go_simp; rfl)); intro gr hgr w1 hbr hb1; have BR := Aside0.mk hbr; have HB1 := Aside0.mk (below_step HB.out hb1); have GR := Aside0.mk (show w.heap.size ≤ gr by rw [hgr]; exact Nat.le_refl _); clear HB hbr hb1 hgr)
  | ((with_reducible refine gate_dst (N := 13) rfl ?_); refine Kd.S_make (Kd.slice 3 (Kd.int .i64)) _ 22 rfl (N := 13) rfl 78 _ _ rfl (l0.length : Int) rfl rfl Try.underlying78 (.slice none 0 0) 24 hinfo22 rfl (by decide) (by omega) [] (ok := fun _ => True) (okp := fun _ => True) ⟨_, rfl, Kd.R_nil _ _ _ _ _⟩ (fun _ hk => hk) trivial (by omega) (by have := HSZ.out; omega) (Below.refl _ _) (Nat.le_refl _) ?_; intro v1 w2 ho hb2 hg_ hnew_; obtain ⟨A1, c1, e1⟩ := Kd.S_slice ho; rw [List.length_replicate, Int.toNat_natCast] at e1; subst e1; rw [Int.toNat_natCast] at ho; have HK := Aside0.mk (Kd.S_lower ho (below_size HB1.out)); have BR2 := Aside0.mk (blk_below BR.out hb2); have HB2 := Aside0.mk (below_step HB1.out hb2); clear ho hb2 hg_ hnew_ HB1 BR)
  | ((with_reducible refine gate_dst (N := 4) rfl ?_); refine box_event ?hg (N := 4) ?hd (cs := #[.slice none 0 0, .slice none 0 0]) (t := 80) ?hr ?_; (case hd => rfl); (case hg => rfl); (case hr => first | (go_simp; done) | (go_simp; rfl)); intro gn hgn w3 hbn hb3; have hcn0 : w3.cell? ⟨gn, 0, none⟩ = some (.slice none 0 0) := (blk_cell hbn 0).trans rfl; have hcn1 : w3.cell? ⟨gn, 1, none⟩ = some (.slice none 0 0) := (blk_cell hbn 1).trans rfl; have hfn0 := blk_frozen hbn 0; have hfn1 := blk_frozen hbn 1; have BN := Aside0.mk hbn; have HK3 := Aside0.mk (Kd.S_below HK.out hb3); have BR3 := Aside0.mk (blk_below BR2.out hb3); have HB3 := Aside0.mk (below_step HB2.out hb3); have GN := Aside0.mk (show w.heap.size ≤ gn by rw [hgn]; exact below_size HB2.out); have GRN := Aside0.mk (show gr ≠ gn by rw [hgn]; exact Nat.ne_of_lt (blk_lt BR2.out)); clear HB2 HK BR2 hbn hb3 hgn)
  | ((with_reducible refine gate_store (t := 80) (p := 4) (v := .tmp 14) rfl ?_); refine store_event rfl (t := 80) (p := 4) (v := .tmp 14) rfl rfl (by first | (go_simp; done) | (go_simp; rfl)) ?_; intro w4 hw4; have BN4 := Aside0.mk (show w4.heap[gn]? = some (.cells #[.slice A0 l0.length c0, .slice A1 l0.length c1] 80 (0, 0)) by rw [hw4]; exact blk_put (blk_put BN.out 0 _ rfl) 1 _ rfl); have HB4 := Aside0.mk (show Below w.heap.size w w4 by rw [hw4]; exact below_set (below_set HB3.out GN.out) GN.out); have BR4 := Aside0.mk (show w4.heap[gr]? = some (.cells #[.slice none 0 0, .slice none 0 0] 80 (0, 0)) by rw [hw4]; exact blk_far (blk_far BR3.out GRN.out _) GRN.out _); have HK4 := Aside0.mk (show Kd.S (Kd.slice 3 (Kd.int .i64)) 22 w4 w.heap.size (fun _ => True) (.slice A1 l0.length c1) (List.replicate l0.length []) by rw [hw4]; have ht := Kd.S_far (p := ⟨gn, 0, none⟩) (Kd.S_types HK3.out BN.out (by decide)) (fun _ hk => hk.2) (.slice A0 l0.length c0); exact Kd.S_mono (Kd.S_far (p := ⟨gn, 1, none⟩) ht (fun _ hk => hk.2) (.slice A1 l0.length c1)) (fun _ hk => hk.1)); clear hw4 BN HB3 BR3 HK3 hcn0 hcn1 hfn0 hfn1)
  )
 obtain ⟨w5, hw5⟩ : ∃ w5, w5 = w4.alloc (.map #[] 0) := ⟨_, rfl⟩
 obtain ⟨gm, hgm⟩ : ∃ gm, gm = w4.heap.size := ⟨_, rfl⟩
 rw [← hw5, ← hgm]
 have hb5 : Below w4.heap.size w4 w5 := by rw [hw5]; exact below_alloc (Below.refl _ _) _
 have HM5 := Aside0.mk (show MapI w5 gm (mapV fun _ => none) by rw [hw5, hgm]; exact (MapI.made w4).eq (fun k => rfl))
 have HK5 := Aside0.mk (Kd.S_below HK4.out hb5)
 have BR5 := Aside0.mk (blk_below BR4.out hb5)
 have BN5 := Aside0.mk (blk_below BN4.out hb5)
 have HB5 := Aside0.mk (below_step HB4.out hb5)
 have GM := Aside0.mk (show w.heap.size ≤ gm by rw [hgm]; exact below_size HB4.out)
 clear hw5 hgm hb5 HK4 BR4 BN4 HB4
 go_loopg [18] l0.length (fun kq v18 w' => ∃ (i : Int) (kids : List (List Int)) (m : Int → Option Int), v18 = .int .i64 i ∧ Aside0 (openL l0 kq kids m i = openK l0) ∧ Aside0 (0 ≤ i ∧ kq + i.toNat = l0.length ∧ kids.length = l0.length) ∧ Aside0 ((∀ k j, m k = some j → 0 ≤ j ∧ j < l0.length) ∧ ∀ j, (rdK kids j).length ≤ i.toNat)
   ∧ Aside0 (w'.heap[gr]? = some (.cells #[.slice none 0 0, .slice none 0 0] 80 (0, 0))) ∧ Aside0 (w'.heap[gn]? = some (.cells #[.slice A0 l0.length c0, .slice A1 l0.length c1] 80 (0, 0)))
   ∧ Aside0 (Kd.S (Kd.slice 3 (Kd.int .i64)) 22 w' w.heap.size (fun _ => True) (.slice A1 l0.length c1) kids) ∧ Aside0 (MapI w' gm (mapV m)) ∧ Aside0 (Below w.heap.size w w'))
 case atStart => exact ⟨0, _, _, rfl, ⟨rfl⟩, ⟨by simp⟩, ⟨fun k j h => by simp at h, fun j => by simp only [rdK, List.getD_eq_getElem?_getD, List.getElem?_replicate]; split <;> simp⟩, BR5, BN5, HK5, HM5, HB5⟩
 case round =>
  clear HM5 HK5 BR5 BN5 HB5
  obtain ⟨i, kids, m, rfl, HA, HI, HJ, BR, BN, HK, HM, HB⟩ := hrel
  by_cases hlt : i < l0.length
  ·have c1b : decide ((i:Int) < (l0.length : Int)) = true := decide_eq_true hlt
   obtain ⟨ad, e, hx0, hx1, hx2⟩ := at_T63 HR0.out i HI.out.1 hlt
   have c2b : (0 ≤ i) = True := eq_true HI.out.1
   have c3b : (i < l0.length) = True := eq_true hlt
   have HL := Aside0.mk hlt
   clear hlt
   cases e
   replace hx0 := (HB.out.cell (World.block_lt_of_cell? w _ hx0)).trans hx0
   replace hx1 := (HB.out.cell (World.block_lt_of_cell? w _ hx1)).trans hx1
   replace hx2 := (HB.out.cell (World.block_lt_of_cell? w _ hx2)).trans hx2
   go_upto_region 7 with (first
    | ((with_reducible refine gate_dst (N := 7) rfl ?_); refine box_event ?hg (N := 7) ?hd (cs := #[.int .i64 0, .int .i64 0, .int .i64 0]) (t := 63) ?hr ?_; (case hd => rfl); (case hg => rfl); (case hr => first | (go_simp; done) | (go_simp; rfl)); intro gp hgp w6 hbp hb6; have hcp0 : w6.cell? ⟨gp, 0, none⟩ = some (.int .i64 0) := (blk_cell hbp 0).trans rfl; have hcp1 : w6.cell? ⟨gp, 1, none⟩ = some (.int .i64 0) := (blk_cell hbp 1).trans rfl; have hcp2 : w6.cell? ⟨gp, 2, none⟩ = some (.int .i64 0) := (blk_cell hbp 2).trans rfl; have hfp0 := blk_frozen hbp 0; have hfp1 := blk_frozen hbp 1; have hfp2 := blk_frozen hbp 2; have BP := Aside0.mk hbp; have HB6 := Aside0.mk hb6; have GP := Aside0.mk hgp; clear hbp hb6 hgp)
    | ((with_reducible refine gate_store (t := 63) (p := 7) (v := .tmp 22) rfl ?_); refine store_event rfl (t := 63) (p := 7) (v := .tmp 22) rfl rfl (by first | (go_simp; done) | (go_simp; rfl)) ?_; intro w7 hw7; have BP7 := Aside0.mk (show w7.heap[gp]? = some (.cells #[.int .i64 (rd_T63 l0 i).f0, .int .i64 (rd_T63 l0 i).f1, .int .i64 (rd_T63 l0 i).f2] 63 (0, 0)) by rw [hw7]; exact blk_put3 BP.out _ _ _); have HB7 := Aside0.mk (below_new3 GP.out HB6.out hw7); clear hw7 hcp0 hcp1 hcp2 hfp0 hfp1 hfp2 BP HB6; have hq0 : w7.cell? ⟨gp, 0, none⟩ = some (.int .i64 (rd_T63 l0 i).f0) := (blk_cell BP7.out 0).trans rfl; have hq1 : w7.cell? ⟨gp, 1, none⟩ = some (.int .i64 (rd_T63 l0 i).f1) := (blk_cell BP7.out 1).trans rfl; have hq2 : w7.cell? ⟨gp, 2, none⟩ = some (.int .i64 (rd_T63 l0 i).f2) := (blk_cell BP7.out 2).trans rfl; have HM7 := Aside0.mk (HM.out.below HB7.out))
    | ((with_reducible refine gate_ (op := .lookup 108 (.tmp 24) (.tmp 26) true) rfl ?_); refine wpList_lookI _ rfl (.tmp 24) (.tmp 26) 108 true rfl 3 3 Try.underlying108 Try.underlying3 (Try.zeroValue3 _) gm (mapV m) rfl HM7.out (rd_T63 l0 i).f1 rfl ?_; rw [if_pos rfl, mapV_look]; generalize hav : (m (rd_T63 l0 i).f1).getD 0 = av; generalize hab : (m (rd_T63 l0 i).f1).isSome = ab; have HAV := Aside0.mk hav; have HAB := Aside0.mk hab; clear hav hab)
    )
   have HX := Aside0.mk (And.intro hq0 (And.intro hq1 hq2))
   clear hq0 hq1 hq2 hx0 hx1 hx2
   go_cut [62] (fun v62 wc => v62 = .bool (badP l0 i ab) ∧ Drawn0 w7 wc)
   case first =>
    obtain ⟨hq0, hq1, hq2⟩ := HX.out
    by_cases b1 : (rd_T63 l0 i).f0 < 1
    ·have d1 : decide ((rd_T63 l0 i).f0 < 1) = true := decide_eq_true b1
     have HBAD := Aside0.mk (show badP l0 i ab = true by simp [badP, b1])
     try clear b1
     repeat (go_quiet ((fail)); try go_wp2_with ((fail)))
     go_meet
     case rel => exact ⟨by first | rfl | (rw [HBAD.out]; done) | (rw [HBAD.out]; simp; done), by repeat (first | exact Drawn0.refl _ | apply Drawn0.step)⟩
    ·have d1 : decide ((rd_T63 l0 i).f0 < 1) = false := decide_eq_false b1
     by_cases b2 : 0 < i
     ·have d2 : decide (0 < i) = true := decide_eq_true b2
      obtain ⟨ad2, e, hy0, hy1, hy2⟩ := at_T63 HR0.out (i - 1) (by omega) (by have := HL.out; omega)
      cases e
      replace hy0 := (HB.out.cell (World.block_lt_of_cell? w _ hy0)).trans hy0
      replace hy0 := (HB7.out.cell (World.block_lt_of_cell? wr _ hy0)).trans hy0
      rw [show (i - 1).toNat = i.toNat - 1 from by omega] at hy0
      clear hy1 hy2
      have q1 : (0 ≤ i - 1) = True := eq_true (by omega)
      have q2 : (i - 1 < l0.length) = True := eq_true (by have := HL.out; omega)
      have q6 : (1 ≤ i) = True := eq_true (by omega)
      have q7 : (i ≤ l0.length) = True := eq_true (by have := HL.out; omega)
      have q8 : (0 < i) = True := eq_true b2
      have q5 : IntKind.i64.wrap (i - 1) = i - 1 := IntWalk.i64_in _ (by have := HL.out; have := HSZ.out; omega)
      by_cases b3 : (rd_T63 l0 i).f0 ≤ (rd_T63 l0 (i - 1)).f0
      ·have d3 : decide ((rd_T63 l0 i).f0 ≤ (rd_T63 l0 (i - 1)).f0) = true := decide_eq_true b3
       have HBAD := Aside0.mk (show badP l0 i ab = true by simp [badP, b1, b2, b3])
       try clear b1
       try clear b2
       try clear b3
       repeat (go_quiet ((fail)); try go_wp2_with ((fail)))
       go_meet
       case rel => exact ⟨by first | rfl | (rw [HBAD.out]; done) | (rw [HBAD.out]; simp; done), by repeat (first | exact Drawn0.refl _ | apply Drawn0.step)⟩
      ·have d3 : decide ((rd_T63 l0 i).f0 ≤ (rd_T63 l0 (i - 1)).f0) = false := decide_eq_false b3
       cases hv : isVol (rd_T63 l0 i).f2 with
       | false =>
        have HV := Aside0.mk (vol_f hv)
        have HBAD := Aside0.mk (show badP l0 i ab = true by simp [badP, b1, b2, b3, hv])
        try clear b1
        try clear b2
        try clear b3
        try clear hv
        repeat (go_quiet ((first | (go_at_call 60; (with_reducible refine (flow_isVolume.calls ((rd_T63 l0 i).f2) false _ HV.out).mono ?_); rintro e w' ⟨rfl, ⟨nd, rfl⟩⟩; (try first | exact ⟨rfl, _, World.drewN_drewN _ _ _⟩ | exact ⟨rfl, _, Eq.trans (World.drewN_drewN _ _ _) (congrArg (World.drewN _) (Nat.add_assoc _ _ _))⟩)))); try go_wp2_with ((first | (go_at_call 60; (with_reducible refine (flow_isVolume.calls ((rd_T63 l0 i).f2) false _ HV.out).mono ?_); rintro e w' ⟨rfl, ⟨nd, rfl⟩⟩; (try first | exact ⟨rfl, _, World.drewN_drewN _ _ _⟩ | exact ⟨rfl, _, Eq.trans (World.drewN_drewN _ _ _) (congrArg (World.drewN _) (Nat.add_assoc _ _ _))⟩)))))
        go_meet
        case rel => exact ⟨by first | rfl | (rw [HBAD.out]; done) | (rw [HBAD.out]; simp; done), by repeat (first | exact Drawn0.refl _ | apply Drawn0.step)⟩
       | true =>
        have HV := Aside0.mk (vol_f hv)
        by_cases b5 : (rd_T63 l0 i).f1 = 0
        ·have e1 : ((rd_T63 l0 i).f1 == 0) = true := by simp [b5]
         have e2 : ((rd_T63 l0 i).f1 != 0) = false := by simp [b5]
         have HBAD := Aside0.mk (show badP l0 i ab = false by simp [badP, b1, b2, b3, hv, b5])
         try clear b1
         try clear b2
         try clear b3
         try clear hv
         try clear b5
         repeat (go_quiet ((first | (go_at_call 60; (with_reducible refine (flow_isVolume.calls ((rd_T63 l0 i).f2) true _ HV.out).mono ?_); rintro e w' ⟨rfl, ⟨nd, rfl⟩⟩; (try first | exact ⟨rfl, _, World.drewN_drewN _ _ _⟩ | exact ⟨rfl, _, Eq.trans (World.drewN_drewN _ _ _) (congrArg (World.drewN _) (Nat.add_assoc _ _ _))⟩)))); try go_wp2_with ((first | (go_at_call 60; (with_reducible refine (flow_isVolume.calls ((rd_T63 l0 i).f2) true _ HV.out).mono ?_); rintro e w' ⟨rfl, ⟨nd, rfl⟩⟩; (try first | exact ⟨rfl, _, World.drewN_drewN _ _ _⟩ | exact ⟨rfl, _, Eq.trans (World.drewN_drewN _ _ _) (congrArg (World.drewN _) (Nat.add_assoc _ _ _))⟩)))))
         go_meet
         case rel => exact ⟨by first | rfl | (rw [HBAD.out]; done) | (rw [HBAD.out]; simp; done), by repeat (first | exact Drawn0.refl _ | apply Drawn0.step)⟩
        ·have e1 : ((rd_T63 l0 i).f1 == 0) = false := by simp [b5]
         have e2 : ((rd_T63 l0 i).f1 != 0) = true := by simp [b5]
         clear HAB
         cases ab with
         | false =>
          have HBAD := Aside0.mk (show badP l0 i false = true by simp [badP, b1, b2, b3, hv, b5])
          try clear b1
          try clear b2
          try clear b3
          try clear hv
          try clear b5
          repeat (go_quiet ((first | (go_at_call 60; (with_reducible refine (flow_isVolume.calls ((rd_T63 l0 i).f2) true _ HV.out).mono ?_); rintro e w' ⟨rfl, ⟨nd, rfl⟩⟩; (try first | exact ⟨rfl, _, World.drewN_drewN _ _ _⟩ | exact ⟨rfl, _, Eq.trans (World.drewN_drewN _ _ _) (congrArg (World.drewN _) (Nat.add_assoc _ _ _))⟩)))); try go_wp2_with ((first | (go_at_call 60; (with_reducible refine (flow_isVolume.calls ((rd_T63 l0 i).f2) true _ HV.out).mono ?_); rintro e w' ⟨rfl, ⟨nd, rfl⟩⟩; (try first | exact ⟨rfl, _, World.drewN_drewN _ _ _⟩ | exact ⟨rfl, _, Eq.trans (World.drewN_drewN _ _ _) (congrArg (World.drewN _) (Nat.add_assoc _ _ _))⟩)))))
          go_meet
          case rel => exact ⟨by first | rfl | (rw [HBAD.out]; done) | (rw [HBAD.out]; simp; done), by repeat (first | exact Drawn0.refl _ | apply Drawn0.step)⟩
         | true =>
          have HBAD := Aside0.mk (show badP l0 i true = false by simp [badP, b1, b2, b3, hv, b5])
          try clear b1
          try clear b2
          try clear b3
          try clear hv
          try clear b5
          repeat (go_quiet ((first | (go_at_call 60; (with_reducible refine (flow_isVolume.calls ((rd_T63 l0 i).f2) true _ HV.out).mono ?_); rintro e w' ⟨rfl, ⟨nd, rfl⟩⟩; (try first | exact ⟨rfl, _, World.drewN_drewN _ _ _⟩ | exact ⟨rfl, _, Eq.trans (World.drewN_drewN _ _ _) (congrArg (World.drewN _) (Nat.add_assoc _ _ _))⟩)))); try go_wp2_with ((first | (go_at_call 60; (with_reducible refine (flow_isVolume.calls ((rd_T63 l0 i).f2) true _ HV.out).mono ?_); rintro e w' ⟨rfl, ⟨nd, rfl⟩⟩; (try first | exact ⟨rfl, _, World.drewN_drewN _ _ _⟩ | exact ⟨rfl, _, Eq.trans (World.drewN_drewN _ _ _) (congrArg (World.drewN _) (Nat.add_assoc _ _ _))⟩)))))
          go_meet
          case rel => exact ⟨by first | rfl | (rw [HBAD.out]; done) | (rw [HBAD.out]; simp; done), by repeat (first | exact Drawn0.refl _ | apply Drawn0.step)⟩
     ·have d2 : decide (0 < i) = false := decide_eq_false b2
      cases hv : isVol (rd_T63 l0 i).f2 with
      | false =>
       have HV := Aside0.mk (vol_f hv)
       have HBAD := Aside0.mk (show badP l0 i ab = true by simp [badP, b1, b2, hv])
       try clear b1
       try clear b2
       try clear hv
       repeat (go_quiet ((first | (go_at_call 60; (with_reducible refine (flow_isVolume.calls ((rd_T63 l0 i).f2) false _ HV.out).mono ?_); rintro e w' ⟨rfl, ⟨nd, rfl⟩⟩; (try first | exact ⟨rfl, _, World.drewN_drewN _ _ _⟩ | exact ⟨rfl, _, Eq.trans (World.drewN_drewN _ _ _) (congrArg (World.drewN _) (Nat.add_assoc _ _ _))⟩)))); try go_wp2_with ((first | (go_at_call 60; (with_reducible refine (flow_isVolume.calls ((rd_T63 l0 i).f2) false _ HV.out).mono ?_); rintro e w' ⟨rfl, ⟨nd, rfl⟩⟩; (try first | exact ⟨rfl, _, World.drewN_drewN _ _ _⟩ | exact ⟨rfl, _, Eq.trans (World.drewN_drewN _ _ _) (congrArg (World.drewN _) (Nat.add_assoc _ _ _))⟩)))))
       go_meet
       case rel => exact ⟨by first | rfl | (rw [HBAD.out]; done) | (rw [HBAD.out]; simp; done), by repeat (first | exact Drawn0.refl _ | apply Drawn0.step)⟩
      | true =>
       have HV := Aside0.mk (vol_f hv)
       by_cases b5 : (rd_T63 l0 i).f1 = 0
       ·have e1 : ((rd_T63 l0 i).f1 == 0) = true := by simp [b5]
        have e2 : ((rd_T63 l0 i).f1 != 0) = false := by simp [b5]
        have HBAD := Aside0.mk (show badP l0 i ab = false by simp [badP, b1, b2, hv, b5])
        try clear b1
        try clear b2
        try clear hv
        try clear b5
        repeat (go_quiet ((first | (go_at_call 60; (with_reducible refine (flow_isVolume.calls ((rd_T63 l0 i).f2) true _ HV.out).mono ?_); rintro e w' ⟨rfl, ⟨nd, rfl⟩⟩; (try first | exact ⟨rfl, _, World.drewN_drewN _ _ _⟩ | exact ⟨rfl, _, Eq.trans (World.drewN_drewN _ _ _) (congrArg (World.drewN _) (Nat.add_assoc _ _ _))⟩)))); try go_wp2_with ((first | (go_at_call 60; (with_reducible refine (flow_isVolume.calls ((rd_T63 l0 i).f2) true _ HV.out).mono ?_); rintro e w' ⟨rfl, ⟨nd, rfl⟩⟩; (try first | exact ⟨rfl, _, World.drewN_drewN _ _ _⟩ | exact ⟨rfl, _, Eq.trans (World.drewN_drewN _ _ _) (congrArg (World.drewN _) (Nat.add_assoc _ _ _))⟩)))))
        go_meet
        case rel => exact ⟨by first | rfl | (rw [HBAD.out]; done) | (rw [HBAD.out]; simp; done), by repeat (first | exact Drawn0.refl _ | apply Drawn0.step)⟩
       ·have e1 : ((rd_T63 l0 i).f1 == 0) = false := by simp [b5]
        have e2 : ((rd_T63 l0 i).f1 != 0) = true := by simp [b5]
        clear HAB
        cases ab with
        | false =>
         have HBAD := Aside0.mk (show badP l0 i false = true by simp [badP, b1, b2, hv, b5])
         try clear b1
         try clear b2
         try clear hv
         try clear b5
         repeat (go_quiet ((first | (go_at_call 60; (with_reducible refine (flow_isVolume.calls ((rd_T63 l0 i).f2) true _ HV.out).mono ?_); rintro e w' ⟨rfl, ⟨nd, rfl⟩⟩; (try first | exact ⟨rfl, _, World.drewN_drewN _ _ _⟩ | exact ⟨rfl, _, Eq.trans (World.drewN_drewN _ _ _) (congrArg (World.drewN _) (Nat.add_assoc _ _ _))⟩)))); try go_wp2_with ((first | (go_at_call 60; (with_reducible refine (flow_isVolume.calls ((rd_T63 l0 i).f2) true _ HV.out).mono ?_); rintro e w' ⟨rfl, ⟨nd, rfl⟩⟩; (try first | exact ⟨rfl, _, World.drewN_drewN _ _ _⟩ | exact ⟨rfl, _, Eq.trans (World.drewN_drewN _ _ _) (congrArg (World.drewN _) (Nat.add_assoc _ _ _))⟩)))))
         go_meet
         case rel => exact ⟨by first | rfl | (rw [HBAD.out]; done) | (rw [HBAD.out]; simp; done), by repeat (first | exact Drawn0.refl _ | apply Drawn0.step)⟩
        | true =>
         have HBAD := Aside0.mk (show badP l0 i true = false by simp [badP, b1, b2, hv, b5])
         try clear b1
         try clear b2
         try clear hv
         try clear b5
         repeat (go_quiet ((first | (go_at_call 60; (with_reducible refine (flow_isVolume.calls ((rd_T63 l0 i).f2) true _ HV.out).mono ?_); rintro e w' ⟨rfl, ⟨nd, rfl⟩⟩; (try first | exact ⟨rfl, _, World.drewN_drewN _ _ _⟩ | exact ⟨rfl, _, Eq.trans (World.drewN_drewN _ _ _) (congrArg (World.drewN _) (Nat.add_assoc _ _ _))⟩)))); try go_wp2_with ((first | (go_at_call 60; (with_reducible refine (flow_isVolume.calls ((rd_T63 l0 i).f2) true _ HV.out).mono ?_); rintro e w' ⟨rfl, ⟨nd, rfl⟩⟩; (try first | exact ⟨rfl, _, World.drewN_drewN _ _ _⟩ | exact ⟨rfl, _, Eq.trans (World.drewN_drewN _ _ _) (congrArg (World.drewN _) (Nat.add_assoc _ _ _))⟩)))))
         go_meet
         case rel => exact ⟨by first | rfl | (rw [HBAD.out]; done) | (rw [HBAD.out]; simp; done), by repeat (first | exact Drawn0.refl _ | apply Drawn0.step)⟩
   case rest =>
    obtain ⟨hv, ⟨nd, rfl⟩⟩ := hcut
    have BR8 := Aside0.mk (blk_drewN (blk_below BR.out HB7.out) nd)
    have BN8 := Aside0.mk (blk_drewN (blk_below BN.out HB7.out) nd)
    have BP8 := Aside0.mk (blk_drewN BP7.out nd)
    have HK8 := Aside0.mk (Kd.S_drewN (Kd.S_below HK.out HB7.out) nd)
    have HM8 := Aside0.mk (HM7.out.drewN nd)
    have HB8 := Aside0.mk (pw_below_drewN (below_step HB.out HB7.out) nd)
    clear BR BN BP7 HK HM HM7 HB HB7 HX
    obtain ⟨w8, hw8⟩ : ∃ w8, w8 = w7.drewN nd := ⟨_, rfl⟩
    rw [← hw8] at BR8 BN8 BP8 HK8 HM8 HB8
    rw [← hw8]
    clear hw8
    cases hbad : badP l0 i ab with
    | true =>
     rw [hbad] at hv
     subst hv
     have hr0 : w8.cell? ⟨gr, 0, none⟩ = some (.slice none 0 0) := (blk_cell BR8.out 0).trans rfl
     have hr1 : w8.cell? ⟨gr, 1, none⟩ = some (.slice none 0 0) := (blk_cell BR8.out 1).trans rfl
     have hf0 := blk_frozen BR8.out 0
     have hf1 := blk_frozen BR8.out 1
     have HBAD := Aside0.mk hbad
     clear hbad
     go_wp2
     refine bodyPost_ret (results_list (rs := [.cell 2 80, .tmp 3]) rfl (by simp) (.cell gr 80 #[.slice none 0 0, .slice none 0 0] (0, 0) _ rfl (blk_put2 BR8.out _ _) Try.underlying80 rfl (by kernel_rfl) (.tmp .nil))) rfl ?_
     refine ⟨below_put2 HB8.out GR.out _ _, .inl ⟨?_, rfl⟩⟩
     rw [← HA.out]
     obtain ⟨kq, rfl⟩ : ∃ kq, gk = kq + 1 := ⟨gk - 1, by have := HI.out; have := HL.out; omega⟩
     unfold openL
     rw [HAB.out, HBAD.out]
     rfl
    | false =>
     rw [hbad] at hv
     subst hv
     have HBAD := Aside0.mk hbad
     clear hbad
     have hp0 : w8.cell? ⟨gp, 0, none⟩ = some (.int .i64 (rd_T63 l0 i).f0) := (blk_cell BP8.out 0).trans rfl
     have hw1 : i + 1 ≤ 9223372036854775807 := by have := HL.out; have := HSZ.out; omega
     have hw2 : 0 ≤ i + 1 := by have := HI.out; omega
     obtain ⟨kq, HKQ⟩ : ∃ kq, Aside0 (gk = kq + 1) := ⟨gk - 1, ⟨by have := HI.out; have := HL.out; omega⟩⟩
     have HNEXT := Aside0.mk (show openL l0 kq (addKid kids (m (rd_T63 l0 i).f1) i) (setI m (rd_T63 l0 i).f0 i) (i + 1) = openK l0 by
      rw [← HA.out, HKQ.out]
      conv => rhs; unfold openL
      rw [HAB.out, HBAD.out]
      rfl)
     cases ab with
     | false =>
      have hmn : m (rd_T63 l0 i).f1 = none := isSome_f HAB.out
      rw [hmn] at HNEXT
      have HMN := Aside0.mk hmn
      clear hmn
      go_wp2_with (first
       | ((with_reducible refine gate_ (op := .mapUpdate 108 (.tmp 77) (.tmp 79) (.tmp 80)) rfl ?_); refine wpList_storeI _ rfl (.tmp 77) (.tmp 79) (.tmp 80) 108 rfl 3 3 Try.underlying108 Try.underlying3 gm (mapV m) rfl HM8.out (rd_T63 l0 i).f0 rfl (.int .i64 i) rfl ?_; intro w9 hm9 hg9; have HM9 := Aside0.mk (hm9.eq (mapV_set m _ _)); have HG9 := Aside0.mk hg9; clear hm9 hg9))
      go_roundg kq
      case measure => have := HKQ.out; omega
      case rel =>
       refine ⟨i + 1, _, _, by first | rfl | (simp; done), HNEXT, ⟨by have := HI.out; have := HKQ.out; rw [addKid_len]; omega⟩, ?_, ⟨blk_grown BR8.out HG9.out (HM8.out.ne_blk BR8.out)⟩, ⟨blk_grown BN8.out HG9.out (HM8.out.ne_blk BN8.out)⟩, ⟨S_map HK8.out HM8.out HG9.out⟩, HM9, ⟨pw_below_grown HB8.out _ (below_size HB8.out) HG9.out (fun k hk => by cases hk; exact GM.out)⟩⟩
       ·refine ⟨fun k j h => ?_, fun j => ?_⟩
        ·unfold setI at h
         split at h
         ·have := HI.out; have := HL.out; cases h; omega
         ·exact HJ.out.1 k j h
        ·have := HJ.out.2 j; have := HI.out; simp only [addKid]; omega
     | true =>
      have hms : m (rd_T63 l0 i).f1 = some av := isSome_t HAB.out HAV.out
      have hjb := HJ.out.1 _ _ hms
      rw [hms] at HNEXT
      clear hms HAB HAV
      obtain ⟨g1, cap1, e1, gb1, gl1, cl1, hcl1⟩ := Kd.S_form HK8.out (by have := HI.out; omega)
      injection e1 with ea en ec
      subst ea
      subst ec
      have EN := Aside0.mk en
      have GB1 := Aside0.mk gb1
      have HCL := Aside0.mk hcl1
      clear en gb1 gl1 hcl1
      obtain ⟨Ak, ck, oki, hkc, hkf, hRk, hoki, hback⟩ := kid_lend (Kd.S_drew HK8.out) av hjb.1 (by have := EN.out; have := HI.out; omega)
      obtain ⟨yk, hyk⟩ : ∃ yk, yk = kids.getD av.toNat [] := ⟨_, rfl⟩
      rw [← hyk] at hkc hRk hback
      have NYK := Aside0.mk hyk
      clear hyk
      obtain ⟨yn, hyn⟩ : ∃ yn, yn = yk ++ [i] := ⟨_, rfl⟩
      have NYN := Aside0.mk hyn
      clear hyn
      have HRK := Aside0.mk hRk
      have HOKI := Aside0.mk hoki
      have HBACK := Aside0.mk hback
      have hj1 : (0 ≤ av) = True := eq_true hjb.1
      have hj2 : (av < l0.length) = True := eq_true hjb.2
      have HJB := Aside0.mk hjb
      clear hRk hoki hback hjb hkf
      have hn1 : w8.drew.cell? ⟨gn, 1, none⟩ = some (.slice (some ⟨g1, 0, none⟩) l0.length c1) := (blk_cell BN8.out 1).trans rfl
      go_wp2
      refine start_ (n := 13) (S := fun w' => w'.cell? ⟨gn, 1, none⟩ = some (.slice (some ⟨g1, 0, none⟩) l0.length c1) ∧ w'.cell? ⟨g1, av.toNat, none⟩ = some (.slice Ak yk.length ck)) (ds := [12]) #[n_, n_, n_, n_, n_, n_, n_, n_, n_, n_, n_, n_, n_] (by kernel_rfl) rfl rfl ⟨hn1, hkc⟩ (fun hHeld => ?_)
      refine pv_ 0 65 (w_ 13 1) rfl ?_
      refine pv_ 2 67 (w_ 13 5) rfl ?_
      refine pv_ 3 68 (w_ 13 13) rfl ?_
      refine pv_ 5 70 (w_ 13 45) rfl ?_
      refine pv_ 8 73 (w_ 13 301) rfl ?_
      refine tb_ 1 66 (w_ 13 303) rfl hHeld (by rintro w' ⟨s0, s1⟩; go_simp; with_reducible rfl) ?_
      refine tb_ 4 69 (w_ 13 319) rfl hHeld (by rintro w' ⟨s0, s1⟩; go_simp; with_reducible rfl) ?_
      refine pv_ 6 71 (w_ 13 383) rfl ?_
      refine tb_ 7 72 (w_ 13 511) rfl hHeld (by rintro w' ⟨s0, s1⟩; go_simp; with_reducible rfl) ?_
      refine one_ (i := 9) (N := some 74) (w_ 13 1023) rfl rfl (by kernel_rfl) (by decide) (fun K hK => ?_)
      refine value_ (w1 := ?_) (v := ?_) (by rfl) rfl ?_ ?_
      rotate_left 2
      ·go_simp
       constructor
       ·rfl
       ·rfl
      refine hK.out _ _ ⟨(World.cell?_alloc_lt _ _ _ (World.block_lt_of_cell? _ _ (hHeld.1))).trans (hHeld.1), (World.cell?_alloc_lt _ _ _ (World.block_lt_of_cell? _ _ (hHeld.2))).trans (hHeld.2)⟩ (fun hHeld => ?_)
      clear hK K
      refine norm_ (a' := ?_) ?_ ?_
      rotate_left
      ·show Act.put _ (some 74) _ = _
       simp only [Act.put, sI_, s0_, sS_, i64_w, i32_w]
       rfl
      refine one_ (i := 10) (N := some 75) (w_ 13 2047) rfl rfl (by kernel_rfl) (by decide) (fun K hK => ?_)
      refine Kd.R_append_step (W := w8.drew) (Kd.int .i64) (w0 := w) w.heap.size rfl (.tmp 72) (.tmp 74) 22 3 (.int .i64 0) 8 rfl Try.underlying22 info3 rfl (by decide) (by omega) (.slice Ak yk.length ck) yk i [.int .i64 i] (fun k_ => oki k_ ∨ True ∧ w8.drew.heap.size ≤ k_) (fun _ => False) rfl rfl rfl (fun _ hk => hk.elim) (fun k_ hk => .inr ⟨trivial, hk⟩) (Kd.R_mono HRK.out (fun _ h_ => .inl h_)) (below_drew HB8.out) (below_size (below_drew HB8.out)) (by have h1_ := HJ.out.2 av; simp only [rdK] at h1_; rw [← NYK.out] at h1_; have := HI.out; have := HSZ.out; omega) ?_
      intro v10 w10 ho10 hb10 hg10 hat10
      rw [← NYN.out] at ho10
      obtain ⟨A10, c10, e10⟩ := Kd.R_slice ho10
      subst e10
      have HO10 := Aside0.mk ho10
      have HG10 := Aside0.mk hg10
      have HB10 := Aside0.mk hb10
      have HS10 := Aside0.mk (HBACK.out _ _ _ hg10 ho10)
      have hc12 := HS10.out.2.2.1
      have hf12 := HS10.out.2.2.2
      clear ho10 hb10 hg10 hat10
      refine hK.out _ _ ⟨(blk_cell (blk_grown (blk_drew BN8.out) HG10.out (Kd.R_ne HRK.out (blk_drew BN8.out) (by decide))) 1).trans rfl, hc12⟩ (fun hHeld => ?_)
      clear hK K
      refine norm_ (a' := ?_) ?_ ?_
      rotate_left
      ·show Act.put _ (some 75) _ = _
       simp only [Act.put, sI_, s0_, sS_, i64_w, i32_w]
       rfl
      refine pv_ 11 76 (w_ 13 4095) rfl ?_
      refine last_ (i := 12) (N := none) (w_ 13 8191) rfl rfl (by kernel_rfl) (by decide) (fun K hK => ?_)
      refine skip_ (w1 := ?_) (by rfl) rfl ?_ ?_
      rotate_left
      ·go_simp
       rfl
      refine hK.out _ _ ?_
      clear hK K
      refine done_ (by kernel_rfl) ?_
      obtain ⟨w12, hw12⟩ : ∃ w12, w12 = w10.setCell ⟨g1, av.toNat, none⟩ (.slice A10 yn.length c10) := ⟨_, rfl⟩
      have hs12 := HS10.out.1
      have hg12 := HS10.out.2.1
      rw [← hw12] at hs12 hg12
      rw [← hw12]
      have HK12 := Aside0.mk (show Kd.S (Kd.slice 3 (Kd.int .i64)) 22 w12 w.heap.size (fun _ => True) (.slice (some ⟨g1, 0, none⟩) l0.length c1) (addKid kids (some av) i) by rw [NYN.out, NYK.out] at hs12; exact hs12)
      have hrow : some g1 = (Value.slice (some ⟨g1, 0, none⟩) l0.length c1).ownBlock := by simp [Value.ownBlock]
      have hcl := HCL.out
      have hcl10 : w10.heap[g1]? = some (.cells cl1 22 (0, 0)) := blk_grown (blk_drew hcl) HG10.out (Kd.R_ne HRK.out (blk_drew hcl) (by decide))
      have BR10 := blk_grown (blk_drew BR8.out) HG10.out (Kd.R_ne HRK.out (blk_drew BR8.out) (by decide))
      have BN10 := blk_grown (blk_drew BN8.out) HG10.out (Kd.R_ne HRK.out (blk_drew BN8.out) (by decide))
      have BP10 := blk_grown (blk_drew BP8.out) HG10.out (Kd.R_ne HRK.out (blk_drew BP8.out) (by decide))
      have HM10 := HM8.out.drew.kept HG10.out (MapI.ne_row HM8.out.drew HRK.out)
      have BR12 := Aside0.mk (blk_grown BR10 hg12 (by have := blk_ne BR10 hcl10 (by decide); simpa using this))
      have BN12 := Aside0.mk (blk_grown BN10 hg12 (by have := blk_ne BN10 hcl10 (by decide); simpa using this))
      have BP12 := Aside0.mk (blk_grown BP10 hg12 (by have := blk_ne BP10 hcl10 (by decide); simpa using this))
      have HM12 := Aside0.mk (HM10.kept hg12 (fun e => HM10.ne_blk hcl10 e.symm))
      have HB12 := Aside0.mk (pw_below_grown HB10.out _ (below_size HB10.out) hg12 (fun k hk => by cases hk; exact GB1.out))
      have hp0 : w12.cell? ⟨gp, 0, none⟩ = some (.int .i64 (rd_T63 l0 i).f0) := (blk_cell BP12.out 0).trans rfl
      clear hw12 hs12 hg12 hrow hcl hcl10 BR10 BN10 BP10 HM10 HS10 HO10 HG10 HB10 hc12 hf12 HRK HBACK BP12
      go_wp2_with (first
       | ((with_reducible refine gate_ (op := .mapUpdate 108 (.tmp 77) (.tmp 79) (.tmp 80)) rfl ?_); refine wpList_storeI _ rfl (.tmp 77) (.tmp 79) (.tmp 80) 108 rfl 3 3 Try.underlying108 Try.underlying3 gm (mapV m) rfl HM12.out (rd_T63 l0 i).f0 rfl (.int .i64 i) rfl ?_; intro w9 hm9 hg9; have HM9 := Aside0.mk (hm9.eq (mapV_set m _ _)); have HG9 := Aside0.mk hg9; clear hm9 hg9))
      go_roundg kq
      case measure => have := HKQ.out; omega
      case rel =>
       refine ⟨i + 1, _, _, by first | rfl | (simp; done), HNEXT, ⟨by have := HI.out; have := HKQ.out; rw [addKid_len]; omega⟩, ?_, ⟨blk_grown BR12.out HG9.out (HM12.out.ne_blk BR12.out)⟩, ⟨blk_grown BN12.out HG9.out (HM12.out.ne_blk BN12.out)⟩, ⟨S_map HK12.out HM12.out HG9.out⟩, HM9, ⟨pw_below_grown HB12.out _ (below_size HB12.out) HG9.out (fun k hk => by cases hk; exact GM.out)⟩⟩
       refine ⟨fun k j h => ?_, fun j => addKid_le kids av i HI.out.1 HJ.out.2 j⟩
       unfold setI at h
       split at h
       ·have := HI.out; have := HL.out; cases h; omega
       ·exact HJ.out.1 k j h
  ·have c1b : decide ((i:Int) < (l0.length : Int)) = false := decide_eq_false hlt
   have hz : gk = 0 := by have := HI.out; omega
   have HFIN := Aside0.mk (show openK l0 = some kids by rw [← HA.out, hz]; rfl)
   clear hlt hz
   have hn0 : wr.cell? ⟨gn, 0, none⟩ = some (.slice A0 l0.length c0) := (blk_cell BN.out 0).trans rfl
   have hn1 : wr.cell? ⟨gn, 1, none⟩ = some (.slice A1 l0.length c1) := (blk_cell BN.out 1).trans rfl
   have hr0 : wr.cell? ⟨gr, 0, none⟩ = some (.slice none 0 0) := (blk_cell BR.out 0).trans rfl
   have hr1 : wr.cell? ⟨gr, 1, none⟩ = some (.slice none 0 0) := (blk_cell BR.out 1).trans rfl
   have hf0 := blk_frozen BR.out 0
   have hf1 := blk_frozen BR.out 1
   go_wp2
   refine bodyPost_ret (results_list (rs := [.cell 2 80, .tmp 3]) rfl (by simp) (.cell gr 80 #[.slice A0 l0.length c0, .slice A1 l0.length c1] (0, 0) _ rfl (blk_put2 BR.out _ _) Try.underlying80 rfl (by kernel_rfl) (.tmp .nil))) rfl ?_
   refine ⟨below_put2 HB.out GR.out _ _, .inr ⟨kids, _, HFIN.out, rfl, ?_⟩⟩
   have ht := Kd.S_types HK.out BR.out (by decide)
   exact Kd.S_mono (Kd.S_far (p := ⟨gr, 1, none⟩) (Kd.S_far (p := ⟨gr, 0, none⟩) ht (fun _ hk => hk.2) _) (fun _ hk => hk.2) _) (fun _ hk => hk.1)
end
section
def flow_interval_empty.f (a0_0 : Int) (a0_1 : Int) : Option (Bool) := some (decide (a0_0 > a0_1))
theorem flow_interval_empty.calls (a0_0 : Int) (a0_1 : Int) (r : Bool) (w : World) (h : flow_interval_empty.f a0_0 a0_1 = some r) :
  Calls Try.prog 51 #[.agg #[.int .i64 a0_0, .int .i64 a0_1]] w fun e w' => e = .returned (.bool r) ∧ Below w.heap.size w w' := by
 have hu85 := Try.underlying85
 have HB := Aside0.mk (Below.refl w.heap.size w)
 have H : (some (decide (a0_0 > a0_1))) = some r := h
 clear h
 obtain rfl := Option.some.inj H
 go_enter Try.func51, Try.ntmps51
 go_wp2_with (first | ((with_reducible refine gate_dst (N := 1) rfl ?_); refine box_event ?hg (N := 1) ?hd (cs := #[.int .i64 a0_0, .int .i64 a0_1]) (t := 85) ?hr ?_; (case hd => rfl); (case hg => rfl); (case hr => first | (go_simp; done) | (go_simp; rfl)); intro gb120 hg w2 hbox hb; have n0_ := Aside0.mk (below_step (bb_ HB) hb); have n1_ := Aside0.mk (hbox); have n2_ := Aside0.mk ((by rw [hg]; exact (below_size (bb_ HB)) : w.heap.size ≤ gb120)); have n3_ := Aside0.mk ((by rw [hg]; exact (below_size (bb_ HB)) : w.heap.size ≤ gb120)); clear HB; have HB := n0_; have BK120 := n1_; have GW120 := n2_; have GE120 := n3_; clear n0_ n1_ n2_ n3_; clear hb hbox hg; have hcz3_0 : w2.cell? ⟨gb120, 0, none⟩ = some (.int .i64 a0_0) := (blk_cell BK120.out 0).trans rfl; have hcz3_1 : w2.cell? ⟨gb120, 1, none⟩ = some (.int .i64 a0_1) := (blk_cell BK120.out 1).trans rfl; have hfz3_0 := blk_frozen BK120.out 0; have hfz3_1 := blk_frozen BK120.out 1))
 go_ret
 exact ⟨ew_, by repeat (first | (with_reducible first | exact HB.out | apply below_alloc | apply pw_below_drewN | apply below_drew1 | refine below_set ?_ GE120.out) | exact HB.out)⟩
end
section
open Go.Proofs.YthjjabcbngffoaaH
def emptyI (r : S85) : Bool := decide (r.f0 > r.f1)
theorem emptyI_f {b : Bool} {r : S85} (h : emptyI r = b) : flow_interval_empty.f r.f0 r.f1 = some b := by
 subst h
 rfl
def idxB85 (p : S85 → Bool) (l : List S85) : Int := match l.findIdx? p with | some i => i | none => -1
theorem idxB85_some (p : S85 → Bool) (l : List S85) (i : Int) (h0 : 0 ≤ i) (h1 : i < l.length) (hp : p (rd_T85 l i) = true) (hb : ∀ j : Nat, j < i.toNat → p (rd_T85 l j) = false) : idxB85 p l = i := by
 have h' : i.toNat < l.length := by omega
 have hf : l.findIdx? p = some i.toNat := by
  rw [List.findIdx?_eq_some_iff_getElem]
  refine ⟨h', ?_, fun j hj => ?_⟩
  ·have := hp
   simpa [rd_T85, List.getD_eq_getElem?_getD, h'] using this
  ·have := hb j hj
   have hj' : j < l.length := by omega
   simpa [rd_T85, List.getD_eq_getElem?_getD, hj'] using this
 unfold idxB85
 rw [hf]
 show ((i.toNat : Nat) : Int) = i
 omega
theorem idxB85_none (p : S85 → Bool) (l : List S85) (hb : ∀ j : Nat, j < l.length → p (rd_T85 l j) = false) : idxB85 p l = -1 := by
 have hf : l.findIdx? p = none := by
  rw [List.findIdx?_eq_none_iff]
  intro x hx
  obtain ⟨j, hj, rfl⟩ := List.mem_iff_getElem.1 hx
  have := hb j hj
  simpa [rd_T85, List.getD_eq_getElem?_getD, hj] using this
 unfold idxB85
 rw [hf]
theorem idxB85_any (p : S85 → Bool) (l : List S85) : decide (idxB85 p l ≥ 0) = l.any p := by
 unfold idxB85
 cases h : l.findIdx? p with
 | none =>
  rw [List.findIdx?_eq_none_iff] at h
  rw [show decide (((match (none : Option Nat) with | some i => (i : Int) | none => (-1 : Int)) : Int) ≥ 0) = false from rfl]
  symm
  rw [List.any_eq_false]
  intro x hx
  simp [h x hx]
 | some i =>
  obtain ⟨h1, h2, _⟩ := List.findIdx?_eq_some_iff_getElem.1 h
  rw [show decide (((match (some i : Option Nat) with | some i => (i : Int) | none => (-1 : Int)) : Int) ≥ 0) = true from decide_eq_true (Int.natCast_nonneg i)]
  symm
  rw [List.any_eq_true]
  exact ⟨_, List.getElem_mem h1, h2⟩
theorem interval_index (A0 : Option Addr) (c0 : Nat) (l0 : List (S85)) (w : World) (hr0 : Kd.C k85 w A0 l0.length l0) (hc0 : l0.length ≤ c0) (hn : l0.length ≤ 140737488355328) :
 Calls Try.prog 82 #[.slice A0 l0.length c0, .func (.func 51) #[] #[]] w fun e w' => e = .returned (.int .i64 (idxB85 emptyI l0)) ∧ Below w.heap.size w w' := by
 have hu85 := Try.underlying85
 have HR0 := Aside0.mk hr0
 have HC0 := Aside0.mk hc0
 have HN := Aside0.mk hn
 clear hr0 hc0 hn
 have HB := Aside0.mk (Below.refl w.heap.size w)
 go_enter Try.func82, Try.ntmps82
 go_wp2
 go_loopg [8] l0.length (fun kq v8 w' => ∃ (i : Int), v8 = .int .i64 i ∧ Aside0 (∀ j : Nat, j < i.toNat → emptyI (rd_T85 l0 j) = false) ∧ Aside0 (0 ≤ i ∧ kq + i.toNat = l0.length) ∧ Aside0 (Below w.heap.size w w'))
 case atStart => exact ⟨0, rfl, ⟨fun j hj => by simp at hj⟩, ⟨by simp⟩, HB⟩
 case round =>
  obtain ⟨i, rfl, HS, HK, HB⟩ := hrel
  by_cases hlt : i < l0.length
  ·have c1 : decide ((i:Int) < (l0.length : Int)) = true := decide_eq_true hlt
   have c2 : (0 ≤ i) = True := eq_true HK.out.1
   have c3 : (i < l0.length) = True := eq_true hlt
   obtain ⟨ad, e, hx0, hx1⟩ := at_T85 HR0.out i HK.out.1 hlt
   cases e
   replace hx0 := (HB.out.cell (World.block_lt_of_cell? w _ hx0)).trans hx0
   replace hx1 := (HB.out.cell (World.block_lt_of_cell? w _ hx1)).trans hx1
   have HL := Aside0.mk hlt
   clear hlt
   have hw1 : i + 1 ≤ 9223372036854775807 := by have := HN.out; have := HL.out; omega
   have hw2 : 0 ≤ i + 1 := by have := HK.out; omega
   cases hp : emptyI (rd_T85 l0 i) with
   | true =>
    have HP := Aside0.mk hp
    clear hp
    go_wp2_with (first | ((with_reducible refine (flow_interval_empty.calls (rd_T85 l0 i).f0 (rd_T85 l0 i).f1 _ _ (emptyI_f HP.out)).mono ?_); rintro e w1 ⟨rfl, hb⟩; have HB1 := Aside0.mk hb; clear hb))
    go_ret
    refine ⟨?_, HB.out.trans (HB1.out.mono HB.out.size)⟩
    rw [idxB85_some _ _ i HK.out.1 HL.out HP.out HS.out]
    first | rfl | (simp; done)
   | false =>
    have HP := Aside0.mk hp
    clear hp
    go_wp2_with (first | ((with_reducible refine (flow_interval_empty.calls (rd_T85 l0 i).f0 (rd_T85 l0 i).f1 _ _ (emptyI_f HP.out)).mono ?_); rintro e w1 ⟨rfl, hb⟩; have HB1 := Aside0.mk hb; clear hb))
    go_roundg (gk - 1)
    case measure => have := HK.out; have := HL.out; omega
    case rel =>
     refine ⟨i + 1, ?_, ⟨fun j hj => ?_⟩, ⟨by have := HK.out; have := HL.out; omega⟩, ⟨HB.out.trans (HB1.out.mono HB.out.size)⟩⟩
     ·first | rfl | (simp; done)
     ·by_cases hji : j < i.toNat
      ·exact HS.out j hji
      ·have : (j : Int) = i := by have := HK.out; omega
       rw [this]
       exact HP.out
  ·have c1 : decide ((i:Int) < (l0.length : Int)) = false := decide_eq_false hlt
   have HL := Aside0.mk hlt
   clear hlt
   go_wp2
   go_ret
   refine ⟨?_, HB.out⟩
   rw [idxB85_none _ _ (fun j hj => HS.out j (by have := HK.out; have := HL.out; omega))]
   first | rfl | (simp; done)
theorem interval_contains (A0 : Option Addr) (c0 : Nat) (l0 : List (S85)) (w : World) (hr0 : Kd.C k85 w A0 l0.length l0) (hc0 : l0.length ≤ c0) (hn : l0.length ≤ 140737488355328) :
 Calls Try.prog 68 #[.slice A0 l0.length c0, .func (.func 51) #[] #[]] w fun e w' => e = .returned (.bool (l0.any emptyI)) ∧ Below w.heap.size w w' := by
 have HR0 := Aside0.mk hr0
 clear hr0
 go_enter Try.func68, Try.ntmps68
 go_wp2_with (first | ((with_reducible refine (interval_index _ _ l0 _ HR0.out hc0 hn).mono ?_); rintro e w1 ⟨rfl, hb⟩; have HB1 := Aside0.mk hb; clear hb))
 go_ret
 refine ⟨?_, HB1.out⟩
 rw [← idxB85_any]
 first | rfl | (simp; done)
theorem u114 : Try.prog.underlying 114 = some (.array 2 113) := by kernel_rfl
theorem ix0 (n1 n2 : FuncId) (a1 a2 : Array Value) (w : World) : (Instr.index 114 (.agg #[.func (.func n1) a1 #[], .func (.func n2) a2 #[]]) (.int .i64 0)).run Try.prog w = .ok (.func (.func n1) a1 #[]) w := by
 simp [Instr.index, run_underlying u114, asIntOf, go_sem]
theorem ix1 (n1 n2 : FuncId) (a1 a2 : Array Value) (w : World) : (Instr.index 114 (.agg #[.func (.func n1) a1 #[], .func (.func n2) a2 #[]]) (.int .i64 1)).run Try.prog w = .ok (.func (.func n2) a2 #[]) w := by
 simp [Instr.index, run_underlying u114, asIntOf, go_sem]
attribute [local go_sem] ix0 ix1
def boundsF (l : List S63) (kids : List (List Int)) (r : List S85) : Bool × List S85 :=
 if (upF l kids r).any emptyI then (false, upF l kids r) else
 if (downF l kids (upF l kids r)).any emptyI then (false, downF l kids (upF l kids r)) else (true, downF l kids (upF l kids r))
theorem upF_len (l : List S63) (kids : List (List Int)) (r : List S85) : (upF l kids r).length = r.length := upFold_len _ _ _ _
theorem downF_len (l : List S63) (kids : List (List Int)) (r : List S85) : (downF l kids r).length = r.length := downFold_len _ _ _ _
theorem boundsF_len (l : List S63) (kids : List (List Int)) (r : List S85) : (boundsF l kids r).2.length = r.length := by
 unfold boundsF
 (repeat' split) <;> simp [upF_len, downF_len]
theorem bounds_calls (w0 w : World) (A0 : Option Addr) (c0 : Nat) (l : List S63) (A2 : Option Addr) (c2 : Nat) (kids : List (List Int)) (A1 : Option Addr) (c1 : Nat) (xs : List S85)
  (hB : Below w0.heap.size w0 w) (hr0 : Kd.C k63 w0 A0 l.length l) (hc0 : l.length ≤ c0) (hsz : l.length ≤ 5864062014805)
  (hk : Kd.S (Kd.slice 3 (Kd.int .i64)) 22 w w0.heap.size (fun _ => True) (.slice A2 l.length c2) kids) (hkids : KidsOk kids l.length)
  (hr : Kd.R k85 85 w w0.heap.size (fun _ => True) (.slice A1 l.length c1) xs) (hxl : xs.length = l.length) :
  Calls Try.prog 49 #[.agg #[.slice A0 l.length c0, .slice A2 l.length c2], .slice A1 l.length c1] w fun e w' => e = .returned (.bool (boundsF l kids xs).1) ∧
   Kd.R k85 85 w' w0.heap.size (fun _ => True) (.slice A1 l.length c1) (boundsF l kids xs).2 ∧ w.grownBy w' (Value.slice A1 l.length c1).ownBlock := by
 have hu80 := Try.underlying80
 have HBW0 := Aside0.mk hB
 have HR0 := Aside0.mk hr0
 have HSZ := Aside0.mk hsz
 have HC0 := Aside0.mk hc0
 have HK := Aside0.mk hk
 have HKO := Aside0.mk hkids
 have HR := Aside0.mk hr
 have HXL := Aside0.mk hxl
 clear hB hr0 hsz hk hkids hr hxl hc0
 have HGO := Aside0.mk (show ∀ k, (Value.slice A1 l.length c1).ownBlock = some k → w0.heap.size ≤ k from fun k hk => by obtain ⟨inner, ho⟩ := Kd.R_own HR.out; exact own_base ho k hk)
 have HB := Aside0.mk (Below.refl w.heap.size w)
 go_enter Try.func49, Try.ntmps49
 go_wp2_with (first | ((with_reducible refine gate_dst (N := 2) rfl ?_); refine box_event ?hg (N := 2) ?hd (cs := #[.slice A0 l.length c0, .slice A2 l.length c2]) (t := 80) ?hr ?_; (case hd => rfl); (case hg => rfl); (case hr => first | (go_simp; done) | (go_simp; rfl)); intro gb hg wb hbox hb; have n0_ := Aside0.mk (below_step HB.out hb); have BK := Aside0.mk hbox; have GW := Aside0.mk ((by rw [hg]; exact (below_size HB.out)) : w.heap.size ≤ gb); clear HB; have HB := n0_; clear n0_; clear hb hbox hg; have hcz0 : wb.cell? ⟨gb, 0, none⟩ = some (.slice A0 l.length c0) := (blk_cell BK.out 0).trans rfl; have hcz1 : wb.cell? ⟨gb, 1, none⟩ = some (.slice A2 l.length c2) := (blk_cell BK.out 1).trans rfl))
 go_loopg [12] 3 (fun kq v12 wr => (Aside0 (Kd.S (Kd.slice 3 (Kd.int .i64)) 22 wr w0.heap.size (fun _ => True) (.slice A2 l.length c2) kids) ∧ Aside0 (w.grownBy wr (Value.slice A1 l.length c1).ownBlock)) ∧
  ((v12 = .int .i64 0 ∧ Aside0 (kq = 3) ∧ Aside0 (Kd.R k85 85 wr w0.heap.size (fun _ => True) (.slice A1 l.length c1) xs)) ∨
   (v12 = .int .i64 1 ∧ Aside0 (kq = 2) ∧ Aside0 (Kd.R k85 85 wr w0.heap.size (fun _ => True) (.slice A1 l.length c1) (upF l kids xs)) ∧ Aside0 ((upF l kids xs).any emptyI = false)) ∨
   (v12 = .int .i64 2 ∧ Aside0 (kq = 1) ∧ Aside0 (Kd.R k85 85 wr w0.heap.size (fun _ => True) (.slice A1 l.length c1) (downF l kids (upF l kids xs))) ∧ Aside0 ((upF l kids xs).any emptyI = false) ∧ Aside0 ((downF l kids (upF l kids xs)).any emptyI = false))))
 case atStart => exact ⟨⟨⟨Kd.S_below HK.out HB.out⟩, ⟨grown_of_below HB.out _⟩⟩, .inl ⟨rfl, ⟨rfl⟩, ⟨Kd.R_below HR.out HB.out⟩⟩⟩
 case round =>
  clear hcz0 hcz1 BK HB
  obtain ⟨⟨HSS, HG⟩, ⟨rfl, HM, HRR⟩ | ⟨rfl, HM, HRR, HU⟩ | ⟨rfl, HM, HRR, HU, HD⟩⟩ := hrel
  ·have HBW := Aside0.mk (grown_below HBW0.out HG.out HGO.out)
   cases hany : (upF l kids xs).any emptyI with
   | true =>
    have HA := Aside0.mk hany
    clear hany
    go_wp2_with (first | (go_at_call 66; (with_reducible refine (up_calls w0 _ A0 c0 l A2 c2 kids A1 c1 xs HBW.out HR0.out HC0.out HSZ.out HSS.out HKO.out HRR.out (by first | exact HXL.out | (rw [upF_len]; exact HXL.out))).mono ?_); rintro e w1 ⟨rfl, hr1, hg⟩; have HR1 := Aside0.mk (show Kd.R k85 85 w1 w0.heap.size (fun _ => True) (.slice A1 l.length c1) (upF l kids xs) from hr1); have HG1 := Aside0.mk hg; have HS1 := Aside0.mk (show Kd.S (Kd.slice 3 (Kd.int .i64)) 22 w1 w0.heap.size (fun _ => True) (.slice A2 l.length c2) kids from Kd.S_mono (Kd.S_grown (Kd.S_apart' HSS.out (Kd.R_typed HRR.out) (by decide)) hg (fun _ hk => hk.2)) (fun _ hk => hk.1)); clear hr1 hg) | (go_at_call 68; (with_reducible refine (show Calls _ _ #[.slice A1 l.length c1, .func (.func 51) #[] #[]] _ _ from (Kd.R_reads' HR1.out).1 ▸ interval_contains A1 c1 (upF l kids xs) _ (Kd.R_reads' HR1.out).2.2 ((Kd.R_reads' HR1.out).1 ▸ (Kd.R_reads' HR1.out).2.1) (by have h1 := (Kd.R_reads' HR1.out).1; have := HSZ.out; omega)).mono ?_); rw [HA.out]; rintro e w2 ⟨rfl, hb⟩; have HB2 := Aside0.mk hb; clear hb))
    go_ret
    have e1 : boundsF l kids xs = (false, upF l kids xs) := by unfold boundsF; rw [if_pos HA.out]
    rw [e1]
    exact ⟨rfl, Kd.R_below HR1.out HB2.out, grown_then (grown_trans HG.out HG1.out) HB2.out⟩
   | false =>
    have HA := Aside0.mk hany
    clear hany
    go_wp2_with (first | (go_at_call 66; (with_reducible refine (up_calls w0 _ A0 c0 l A2 c2 kids A1 c1 xs HBW.out HR0.out HC0.out HSZ.out HSS.out HKO.out HRR.out (by first | exact HXL.out | (rw [upF_len]; exact HXL.out))).mono ?_); rintro e w1 ⟨rfl, hr1, hg⟩; have HR1 := Aside0.mk (show Kd.R k85 85 w1 w0.heap.size (fun _ => True) (.slice A1 l.length c1) (upF l kids xs) from hr1); have HG1 := Aside0.mk hg; have HS1 := Aside0.mk (show Kd.S (Kd.slice 3 (Kd.int .i64)) 22 w1 w0.heap.size (fun _ => True) (.slice A2 l.length c2) kids from Kd.S_mono (Kd.S_grown (Kd.S_apart' HSS.out (Kd.R_typed HRR.out) (by decide)) hg (fun _ hk => hk.2)) (fun _ hk => hk.1)); clear hr1 hg) | (go_at_call 68; (with_reducible refine (show Calls _ _ #[.slice A1 l.length c1, .func (.func 51) #[] #[]] _ _ from (Kd.R_reads' HR1.out).1 ▸ interval_contains A1 c1 (upF l kids xs) _ (Kd.R_reads' HR1.out).2.2 ((Kd.R_reads' HR1.out).1 ▸ (Kd.R_reads' HR1.out).2.1) (by have h1 := (Kd.R_reads' HR1.out).1; have := HSZ.out; omega)).mono ?_); rw [HA.out]; rintro e w2 ⟨rfl, hb⟩; have HB2 := Aside0.mk hb; clear hb))
    go_roundg (gk - 1)
    case measure => have := HM.out; omega
    case rel => exact ⟨⟨⟨Kd.S_below HS1.out HB2.out⟩, ⟨grown_then (grown_trans HG.out HG1.out) HB2.out⟩⟩, .inr (.inl ⟨rfl, ⟨by have := HM.out; omega⟩, ⟨Kd.R_below HR1.out HB2.out⟩, HA⟩)⟩
  ·have HBW := Aside0.mk (grown_below HBW0.out HG.out HGO.out)
   cases hany : (downF l kids (upF l kids xs)).any emptyI with
   | true =>
    have HA := Aside0.mk hany
    clear hany
    go_wp2_with (first | (go_at_call 67; (with_reducible refine (down_calls w0 _ A0 c0 l A2 c2 kids A1 c1 (upF l kids xs) HBW.out HR0.out HC0.out HSZ.out HSS.out HKO.out HRR.out (by first | exact HXL.out | (rw [upF_len]; exact HXL.out))).mono ?_); rintro e w1 ⟨rfl, hr1, hg⟩; have HR1 := Aside0.mk (show Kd.R k85 85 w1 w0.heap.size (fun _ => True) (.slice A1 l.length c1) (downF l kids (upF l kids xs)) from hr1); have HG1 := Aside0.mk hg; have HS1 := Aside0.mk (show Kd.S (Kd.slice 3 (Kd.int .i64)) 22 w1 w0.heap.size (fun _ => True) (.slice A2 l.length c2) kids from Kd.S_mono (Kd.S_grown (Kd.S_apart' HSS.out (Kd.R_typed HRR.out) (by decide)) hg (fun _ hk => hk.2)) (fun _ hk => hk.1)); clear hr1 hg) | (go_at_call 68; (with_reducible refine (show Calls _ _ #[.slice A1 l.length c1, .func (.func 51) #[] #[]] _ _ from (Kd.R_reads' HR1.out).1 ▸ interval_contains A1 c1 (downF l kids (upF l kids xs)) _ (Kd.R_reads' HR1.out).2.2 ((Kd.R_reads' HR1.out).1 ▸ (Kd.R_reads' HR1.out).2.1) (by have h1 := (Kd.R_reads' HR1.out).1; have := HSZ.out; omega)).mono ?_); rw [HA.out]; rintro e w2 ⟨rfl, hb⟩; have HB2 := Aside0.mk hb; clear hb))
    go_ret
    have e1 : boundsF l kids xs = (false, downF l kids (upF l kids xs)) := by unfold boundsF; rw [if_neg (by rw [HU.out]; decide), if_pos HA.out]
    rw [e1]
    exact ⟨rfl, Kd.R_below HR1.out HB2.out, grown_then (grown_trans HG.out HG1.out) HB2.out⟩
   | false =>
    have HA := Aside0.mk hany
    clear hany
    go_wp2_with (first | (go_at_call 67; (with_reducible refine (down_calls w0 _ A0 c0 l A2 c2 kids A1 c1 (upF l kids xs) HBW.out HR0.out HC0.out HSZ.out HSS.out HKO.out HRR.out (by first | exact HXL.out | (rw [upF_len]; exact HXL.out))).mono ?_); rintro e w1 ⟨rfl, hr1, hg⟩; have HR1 := Aside0.mk (show Kd.R k85 85 w1 w0.heap.size (fun _ => True) (.slice A1 l.length c1) (downF l kids (upF l kids xs)) from hr1); have HG1 := Aside0.mk hg; have HS1 := Aside0.mk (show Kd.S (Kd.slice 3 (Kd.int .i64)) 22 w1 w0.heap.size (fun _ => True) (.slice A2 l.length c2) kids from Kd.S_mono (Kd.S_grown (Kd.S_apart' HSS.out (Kd.R_typed HRR.out) (by decide)) hg (fun _ hk => hk.2)) (fun _ hk => hk.1)); clear hr1 hg) | (go_at_call 68; (with_reducible refine (show Calls _ _ #[.slice A1 l.length c1, .func (.func 51) #[] #[]] _ _ from (Kd.R_reads' HR1.out).1 ▸ interval_contains A1 c1 (downF l kids (upF l kids xs)) _ (Kd.R_reads' HR1.out).2.2 ((Kd.R_reads' HR1.out).1 ▸ (Kd.R_reads' HR1.out).2.1) (by have h1 := (Kd.R_reads' HR1.out).1; have := HSZ.out; omega)).mono ?_); rw [HA.out]; rintro e w2 ⟨rfl, hb⟩; have HB2 := Aside0.mk hb; clear hb))
    go_roundg (gk - 1)
    case measure => have := HM.out; omega
    case rel => exact ⟨⟨⟨Kd.S_below HS1.out HB2.out⟩, ⟨grown_then (grown_trans HG.out HG1.out) HB2.out⟩⟩, .inr (.inr ⟨rfl, ⟨by have := HM.out; omega⟩, ⟨Kd.R_below HR1.out HB2.out⟩, HU, HA⟩)⟩
  ·go_wp2
   go_ret
   have e1 : boundsF l kids xs = (true, downF l kids (upF l kids xs)) := by unfold boundsF; rw [if_neg (by rw [HU.out]; decide), if_neg (by rw [HD.out]; decide)]
   rw [e1]
   exact ⟨rfl, HRR.out, HG.out⟩
open Go.Proofs.YthjjabcbngffoaaH
theorem openL_len (l : List S63) : ∀ (k : Nat) (kids : List (List Int)) (m : Int → Option Int) (i : Int) (r : List (List Int)), openL l k kids m i = some r → r.length = kids.length := by
 intro k
 induction k with
 | zero => intro kids m i r h; simp only [openL, Option.some.injEq] at h; rw [h]
 | succ k ih =>
  intro kids m i r h
  simp only [openL] at h
  split at h
  ·cases h
  ·rw [ih _ _ _ _ h, addKid_len]
theorem openK_len {l : List S63} {kids : List (List Int)} (h : openK l = some kids) : kids.length = l.length := by
 have := openL_len l _ _ _ _ _ h
 rw [this, List.length_replicate]
theorem addKid_rd {kids : List (List Int)} {a : Option Int} {i : Int} (j : Int) : rdK (addKid kids a i) j = rdK kids j ∨ rdK (addKid kids a i) j = rdK kids j ++ [i] := by
 cases a with
 | none => exact .inl rfl
 | some av =>
  simp only [addKid, rdK, List.getD_eq_getElem?_getD]
  rw [List.getElem?_set]
  split
  ·rename_i h
   split
   ·exact .inr (by rw [h]; rfl)
   ·rename_i h2
    exact .inl (by rw [← h, List.getElem?_eq_none (by omega)])
  ·exact .inl rfl
theorem openL_ok (l : List S63) (n : Nat) : ∀ (k : Nat) (kids : List (List Int)) (m : Int → Option Int) (i : Int) (r : List (List Int)), openL l k kids m i = some r → 0 ≤ i → i + k = n →
  (∀ j, (rdK kids j).length ≤ i.toNat ∧ ∀ x ∈ rdK kids j, 0 ≤ x ∧ x < i) → ∀ j, (rdK r j).length ≤ n ∧ ∀ x ∈ rdK r j, 0 ≤ x ∧ x < n := by
 intro k
 induction k with
 | zero =>
  intro kids m i r h h0 hn hk j
  simp only [openL, Option.some.injEq] at h
  subst h
  have := hk j
  exact ⟨by omega, fun x hx => by have := this.2 x hx; omega⟩
 | succ k ih =>
  intro kids m i r h h0 hn hk
  simp only [openL] at h
  split at h
  ·cases h
  ·refine ih _ _ _ _ h (by omega) (by omega) (fun j => ?_)
   have h1 := hk j
   rcases addKid_rd (kids := kids) (a := m (rd_T63 l i).f1) (i := i) j with e | e
   ·rw [e]
    exact ⟨by omega, fun x hx => by have := h1.2 x hx; omega⟩
   ·rw [e]
    refine ⟨by rw [List.length_append]; simp; omega, fun x hx => ?_⟩
    rcases List.mem_append.1 hx with hx | hx
    ·have := h1.2 x hx; omega
    ·rw [List.mem_singleton] at hx; omega
theorem openK_ok {l : List S63} {kids : List (List Int)} (h : openK l = some kids) : KidsOk kids l.length := by
 refine ⟨openK_len h, openL_ok l l.length _ _ _ _ _ h (by omega) (by omega) (fun j => ?_)⟩
 have : rdK (List.replicate l.length []) j = [] := by
  simp only [rdK, List.getD_eq_getElem?_getD, List.getElem?_replicate]
  split <;> rfl
 rw [this]
 exact ⟨by simp, by simp⟩
theorem open_none (A0 : Option Addr) (c0 : Nat) (l0 : List (S63)) (w : World) (hr0 : Kd.C k63 w A0 l0.length l0) (hc0 : l0.length ≤ c0) (hsz : l0.length ≤ 5864062014805) (h : openK l0 = none) :
  Calls Try.prog 40 #[.slice A0 l0.length c0] w fun e w' => e = .returned (.tuple #[.agg #[.slice none 0 0, .slice none 0 0], .bool false]) ∧ Below w.heap.size w w' := by
 refine (open_calls A0 c0 l0 w hr0 hc0 hsz).mono ?_
 rintro e w' ⟨hb, ⟨_, he⟩ | ⟨kids, v, hk, _⟩⟩
 ·exact ⟨he, hb⟩
 ·rw [h] at hk
  cases hk
theorem open_some (A0 : Option Addr) (c0 : Nat) (l0 : List (S63)) (w : World) (hr0 : Kd.C k63 w A0 l0.length l0) (hc0 : l0.length ≤ c0) (hsz : l0.length ≤ 5864062014805) {kids : List (List Int)} (h : openK l0 = some kids) :
  Calls Try.prog 40 #[.slice A0 l0.length c0] w fun e w' => ∃ A2 c2, e = .returned (.tuple #[.agg #[.slice A0 l0.length c0, .slice A2 l0.length c2], .bool (decide (l0.length ≤ 200))]) ∧ Kd.S (Kd.slice 3 (Kd.int .i64)) 22 w' w.heap.size (fun _ => True) (.slice A2 l0.length c2) kids ∧ Below w.heap.size w w' := by
 refine (open_calls A0 c0 l0 w hr0 hc0 hsz).mono ?_
 rintro e w' ⟨hb, ⟨hn, _⟩ | ⟨kids', v, hk, he, hS⟩⟩
 ·rw [h] at hn
  cases hn
 ·rw [h] at hk
  injection hk with hk
  subst hk
  obtain ⟨A2, c2, rfl⟩ := Kd.S_slice hS
  rw [openK_len h] at he hS
  rw [show decide ((l0.length : Int) ≤ 200) = decide (l0.length ≤ 200) from decide_eq_decide.2 (by omega)] at he
  exact ⟨A2, c2, he, hS, hb⟩
end
section
def flow_intervals.l0 : Nat → List (S38) → List (S85) → Int → Int → Option ((List (S85)))
 | 0, _, _, _, _ => none
 | k + 1, x0, x3, x9, x10 => if x10 < x9 then (if 0 ≤ x10 then (if x10 < (x0.length : Int) then (if x10 < (x3.length : Int) then (flow_intervals.l0 k x0 (x3.set (x10 : Int).toNat (⟨(rd_T38 x0 x10).f0, (rd_T38 x0 x10).f1⟩ : S85)) x9 (wrap64 (x10 + 1))) else (none)) else (none)) else (none)) else (some x3)
def flow_intervals.f (k : Nat) (l0 : List (S38)) : Option ((List (S85))) := if 0 ≤ (l0.length : Int) then (if ((l0.length : Int) : Int).toNat ≤ 17592186044416 then (flow_intervals.l0 k l0 (List.replicate ((l0.length : Int) : Int).toNat z85) (l0.length : Int) 0) else (none)) else (none)
theorem flow_intervals.calls (k : Nat) (A0 : Option Addr) (c0 : Nat) (l0 : List (S38)) (r : List (S85)) (w : World) (hr0 : Kd.C k38 w A0 l0.length l0) (hc0 : l0.length ≤ c0) (h : flow_intervals.f k l0 = some r) :
  Calls Try.prog 48 #[.slice A0 l0.length c0] w fun e w' => ∃ v0_ : Value, e = .returned (v0_) ∧ Kd.R k85 85 w' w.heap.size (fun _ => True) v0_ r ∧ Below w.heap.size w w' := by
 have hu38 := Try.underlying38
 have hu85 := Try.underlying85
 have HR0 := Aside0.mk hr0
 have HC0 := Aside0.mk hc0
 clear hr0 hc0
 have HB := Aside0.mk (Below.refl w.heap.size w)
 have H : (if 0 ≤ (l0.length : Int) then (if ((l0.length : Int) : Int).toNat ≤ 17592186044416 then (flow_intervals.l0 k l0 (List.replicate ((l0.length : Int) : Int).toNat z85) (l0.length : Int) 0) else (none)) else (none)) = some r := h
 clear h
 by_cases c2 : 0 ≤ (l0.length : Int)
 ·rw [if_pos c2] at H
  have c2b0 := eq_true c2
  have c2b1 : decide (0 ≤ (l0.length : Int)) = true := decide_eq_true c2
  clear c2
  by_cases c3 : ((l0.length : Int) : Int).toNat ≤ 17592186044416
  ·rw [if_pos c3] at H
   have c3b0 := eq_true c3
   have c3b1 : decide (((l0.length : Int) : Int).toNat ≤ 17592186044416) = true := decide_eq_true c3
   clear c3
   obtain ⟨y104, hy104⟩ : ∃ y_ : List (S85), y_ = (List.replicate ((l0.length : Int) : Int).toNat z85) := ⟨_, rfl⟩
   replace H : (flow_intervals.l0 k l0 y104 (l0.length : Int) 0) = some r := by first | (rw [hy104]; with_reducible exact H) | (have H2_ := (Option.bind_some _ _).symm.trans H; rw [hy104]; with_reducible exact H2_) | (have H2_ := (Option.bind_some _ _).symm.trans H; with_reducible exact H2_) | with_reducible exact H | (rw [hy104]; exact H) | exact H
   have Ny104 := Aside0.mk hy104
   clear hy104
   have H' := Aside0.mk H
   clear H
   go_enter Try.func48, Try.ntmps48
   go_wp2_with (first | ((with_reducible refine gate_dst (N := 7) rfl ?_); refine Kd.R_make k85 _ 85 rfl (N := 7) rfl 84 _ _ rfl (l0.length : Int) rfl rfl Try.underlying84 (.agg #[(.int .i64 0), (.int .i64 0)]) 16 info85 rfl (by decide) (by omega) z85 (ok := fun _ => True) (okp := fun _ => True) (k85_mkM _ _ _ z85 ) (fun _ hk => hk) trivial (od_) (Nat.le_trans (Nat.mul_le_mul_right _ (od_ : (l0.length : Int).toNat ≤ 17592186044416)) (by omega)) (Below.refl _ _) (Nat.le_refl _) ?_; intro v105 w4 ho5 hb hg_ hnew_; clear hg_ hnew_; (first | rw [← Ny104.out] at ho5 | (simp only [Int.reduceToNat] at ho5; rw [← Ny104.out] at ho5)); have n0_ := Aside0.mk (Kd.R_lower ho5 (below_size (bb_ HB))); have n1_ := Aside0.mk (below_step (bb_ HB) hb); clear HB; have HO106 := n0_; have HB := n1_; clear n0_ n1_; clear hb ho5))
   go_loopg [10] k (fun kq v10 w' => ∃ (x3_1 : List (S85)) (x10_1 : Int), v10 = .int .i64 x10_1 ∧ Aside0 (flow_intervals.l0 kq l0 x3_1 (l0.length : Int) x10_1 = some r) ∧ Aside0 (kq ≤ k) ∧ Aside0 (Kd.R k85 85 w' w.heap.size (fun _ => True) v105 x3_1) ∧ Aside0 (Below w.heap.size w w'))
   case atStart => exact ⟨(y104), (0), sd_, H', ⟨Nat.le_refl _⟩, ⟨by (with_reducible repeat (first | apply Kd.R_alloc | apply Kd.R_drewN | apply Kd.R_drew)); exact HO106.out⟩, ⟨by repeat (first | (with_reducible first | exact HB.out | apply below_alloc | apply pw_below_drewN | apply below_drew1) | exact HB.out)⟩⟩
   case round =>
    clear H'
    try clear c2
    try clear c2b0
    try clear c2b1
    try clear p2
    try clear c3
    try clear c3b0
    try clear c3b1
    try clear c4
    obtain ⟨x3_1, x10_1, rfl, HA, HK1, HO_3, HB⟩ := hrel
    cases gk with
    | zero => exact absurd HA.out (by simp [flow_intervals.l0])
    | succ k1 =>
     have H := HA.out
     clear HA
     simp only [flow_intervals.l0] at H
     by_cases c6 : x10_1 < (l0.length : Int)
     ·rw [if_pos c6] at H
      have c6b0 : decide (x10_1 < (l0.length : Int)) = true := decide_eq_true c6
      clear c6
      by_cases c7 : 0 ≤ x10_1
      ·rw [if_pos c7] at H
       have c7b0 : decide (0 ≤ x10_1) = true := decide_eq_true c7
       clear c7
       by_cases c8 : x10_1 < (l0.length : Int)
       ·rw [if_pos c8] at H
        have c8b0 : decide (x10_1 < (l0.length : Int)) = true := decide_eq_true c8
        clear c8
        by_cases c9 : x10_1 < (x3_1.length : Int)
        ·rw [if_pos c9] at H
         have c9b0 : decide (x10_1 < (x3_1.length : Int)) = true := decide_eq_true c9
         clear c9
         obtain ⟨y108, hy108⟩ : ∃ y_ : List (S85), y_ = (x3_1.set (x10_1 : Int).toNat (⟨(rd_T38 l0 x10_1).f0, (rd_T38 l0 x10_1).f1⟩ : S85)) := ⟨_, rfl⟩
         replace H : (flow_intervals.l0 k1 l0 y108 (l0.length : Int) (wrap64 (x10_1 + 1))) = some r := by first | (rw [hy108]; with_reducible exact H) | (have H2_ := (Option.bind_some _ _).symm.trans H; rw [hy108]; with_reducible exact H2_) | (have H2_ := (Option.bind_some _ _).symm.trans H; with_reducible exact H2_) | with_reducible exact H | (rw [hy108]; exact H) | exact H
         have Ny108 := Aside0.mk hy108
         clear hy108
         have H' := Aside0.mk H
         clear H
         have p107 : 0 ≤ (x10_1 : Int) := od_
         have q107 : x10_1 < (l0.length : Int) := od_
         obtain ⟨ad107, e107, hx107_0, hx107_1⟩ := at_T38 HR0.out x10_1 p107 q107
         cases e107
         replace hx107_0 := (HB.out.cell (World.block_lt_of_cell? w _ hx107_0)).trans hx107_0
         replace hx107_1 := (HB.out.cell (World.block_lt_of_cell? w _ hx107_1)).trans hx107_1
         replace p107 := eq_true p107
         replace q107 := eq_true q107
         have p10 : 0 ≤ (x10_1 : Int) := od_
         have q10 : (x10_1 : Int) < ((x3_1.length : Int) : Int) := od_
         obtain ⟨go10, co10, eo10, gb10, gl10, cl10, HG10⟩ := Kd.R_form HO_3.out (by omega)
         (first | cases eo10 | (injection eo10 with ea_ en_ ec_; (first | subst ea_ | (injection ea_ with ea_; subst ea_)); subst ec_; clear en_))
         have GB10 := Aside0.mk gb10
         have GG10 := Aside0.mk HG10
         clear gb10 gl10 HG10
         obtain ⟨ce10, hcl10, hM10, hcc10, hfr10⟩ := Kd.R_elem HO_3.out z85 (x10_1 : Int) p10 q10
         obtain rfl := k85_openM hM10
         have hx10_0 : wr.cell? ⟨go10, (x10_1 : Int).toNat * 2, none⟩ = some (.int .i64 ((rd_T85 x3_1 x10_1).f0)) := hcc10 0 _ rfl
         have hx10_1 : wr.cell? ⟨go10, (x10_1 : Int).toNat * 2 + 1, none⟩ = some (.int .i64 ((rd_T85 x3_1 x10_1).f1)) := hcc10 1 _ rfl
         have hf10_0 : wr.frozen? ⟨go10, (x10_1 : Int).toNat * 2, none⟩ = false := hfr10 0
         have hf10_1 : wr.frozen? ⟨go10, (x10_1 : Int).toNat * 2 + 1, none⟩ = false := hfr10 1
         clear hcl10 hcc10 hfr10 hM10
         replace p10 := eq_true p10
         replace q10 := eq_true q10
         have HX11 := Aside0.mk (show Kd.R k85 85 wr w.heap.size (fun _ => True) (.slice (some ⟨go10, 0, none⟩) x3_1.length co10) x3_1 from (rr_ HO_3))
         obtain ⟨ce11, hcl11, hM11, hcc11, hfr11⟩ := Kd.R_elem HX11.out z85 (x10_1 : Int) (od_) (by have h_ : (x10_1 : Int) < ((x3_1.length : Int) : Int) := od_; first | exact h_ | (have e_ := (Kd.R_reads' HO_3.out).1; omega) | simpa using h_)
         obtain rfl := k85_openM hM11
         have HP11 := Kd.R_seg HX11.out (x10_1 : Int) (od_) (by have h_ : (x10_1 : Int) < ((x3_1.length : Int) : Int) := od_; first | exact h_ | (have e_ := (Kd.R_reads' HO_3.out).1; omega) | simpa using h_) (seg := [.int .i64 ((rd_T38 l0 x10_1).f0), .int .i64 ((rd_T38 l0 x10_1).f1)]) (j := 0) hcl11 hcc11 (show 2 ≤ 2 from by decide) (x' := (⟨(rd_T38 l0 x10_1).f0, (rd_T38 l0 x10_1).f1⟩ : S85)) (k85_mkM _ _ _ (⟨(rd_T38 l0 x10_1).f0, (rd_T38 l0 x10_1).f1⟩ : S85) ) (fun _ hk => hk)
         have hx11_0 := hcc11 0 _ rfl
         (try simp only [show (k85).sz = 2 from rfl, Nat.mul_one, Nat.add_zero] at hx11_0)
         have hf11_0 := hfr11 0
         (try simp only [show (k85).sz = 2 from rfl, Nat.mul_one, Nat.add_zero] at hf11_0)
         have hx11_1 := hcc11 1 _ rfl
         (try simp only [show (k85).sz = 2 from rfl, Nat.mul_one, Nat.add_zero] at hx11_1)
         have hf11_1 := hfr11 1
         (try simp only [show (k85).sz = 2 from rfl, Nat.mul_one, Nat.add_zero] at hf11_1)
         clear hcl11 hcc11 hfr11 hM11
         go_wp2_with (first | ((with_reducible refine gate_store (t := 85) (p := 19) rfl ?_); refine store_event (t := 85) (p := 19) (v := ?vo_w12) (w1 := ((wr.setCell ⟨go10, (x10_1 : Int).toNat * 2, none⟩ (.int .i64 ((rd_T38 l0 x10_1).f0))).setCell ⟨go10, (x10_1 : Int).toNat * 2 + 1, none⟩ (.int .i64 ((rd_T38 l0 x10_1).f1)))) ?hg ?ho ?hn ?hr ?_; (case ho => rfl); (case hg => rfl); (case hn => rfl); (case hr => first | (go_simp; done) | (go_simp; rfl)); intro w12 hw; have hg : wr.grownBy w12 (some go10) := (by rw [hw]; exact HP11.2); have hp_ : Kd.R k85 85 w12 w.heap.size (fun _ => True) (.slice (some ⟨go10, 0, none⟩) x3_1.length co10) y108 := (by rw [hw, Ny108.out]; exact HP11.1); clear HP11; have n0_ := Aside0.mk (hp_); have n1_ := Aside0.mk ((by rw [hw]; exact below_set (below_set (HB.out) GB10.out) GB10.out : Below w.heap.size w w12)); clear HO_3; clear HB; have HO_3 := n0_; have HB := n1_; clear n0_ n1_; clear hg hw hp_))
         go_roundg k1
         case measure => have := HK1.out; omega
         case rel => exact ⟨(y108), (wrap64 (x10_1 + 1)), sd_, H', ⟨by have := HK1.out; omega⟩, ⟨by (with_reducible repeat (first | apply Kd.R_alloc | apply Kd.R_drewN | apply Kd.R_drew)); exact HO_3.out⟩, ⟨by repeat (first | (with_reducible first | exact HB.out | apply below_alloc | apply pw_below_drewN | apply below_drew1) | exact HB.out)⟩⟩
        ·rw [if_neg c9] at H
         exact absurd H (by simp)
       ·rw [if_neg c8] at H
        exact absurd H (by simp)
      ·rw [if_neg c7] at H
       exact absurd H (by simp)
     ·rw [if_neg c6] at H
      have c6b0 : decide (x10_1 < (l0.length : Int)) = false := decide_eq_false c6
      clear c6
      obtain rfl := Option.some.inj H
      go_wp2
      go_ret
      exact ⟨_, ew_, by (with_reducible repeat (first | apply Kd.R_alloc | apply Kd.R_drewN | apply Kd.R_drew)); exact HO_3.out, by repeat (first | (with_reducible first | exact HB.out | apply below_alloc | apply pw_below_drewN | apply below_drew1) | exact HB.out)⟩
  ·rw [if_neg c3] at H
   exact absurd H (by simp)
 ·rw [if_neg c2] at H
  exact absurd H (by simp)
end
section
open Go.Proofs.YthjjabcbngffoaaH
def toI (r : S38) : S85 := ⟨r.f0, r.f1⟩
def toR (r : S85) : S38 := ⟨r.f0, r.f1⟩
def netOk (l : List S63) : Option (List (List Int)) := if l.length ≤ 200 then openK l else none
theorem fold_set {α : Type} (f : Nat → α) (x : List α) : ∀ (i : Nat), i ≤ x.length → (List.range i).foldl (fun y (j : Nat) => y.set j (f j)) x = (List.range i).map f ++ x.drop i := by
 intro i
 induction i with
 | zero => intro _; simp
 | succ i ih =>
  intro h
  rw [foldl_range_succ, ih (by omega), List.range_succ, List.map_append]
  rw [List.set_append_right _ _ (by simp)]
  simp only [List.length_map, List.length_range, Nat.sub_self, List.map_cons, List.map_nil, List.append_assoc]
  congr 1
  rw [List.drop_eq_getElem_cons (by omega)]
  rfl
theorem fold_map {α β : Type} (d : α) (f : α → β) (l : List α) : (List.range l.length).map (fun j => f (l.getD j d)) = l.map f := by
 apply List.ext_getElem
 ·simp
 ·intro i h1 h2
  simp only [List.length_map] at h2
  simp [List.getD_eq_getElem?_getD, h2]
theorem fold_len {α : Type} (f : Nat → α) (is : List Nat) : ∀ x : List α, (is.foldl (fun y (j : Nat) => y.set j (f j)) x).length = x.length := by
 induction is with
 | nil => intro x; rfl
 | cons i is ih => intro x; rw [List.foldl_cons, ih]; simp
theorem intervals_l0 (l : List S38) (hn : l.length ≤ 5864062014805) : ∀ (d k : Nat) (i : Nat) (x : List S85), i + d = l.length → d < k → x.length = l.length →
  flow_intervals.l0 k l x (l.length : Int) (i : Int) = some ((List.range' i d).foldl (fun y (j : Nat) => y.set j (toI (rd_T38 l j))) x) := by
 intro d
 induction d with
 | zero =>
  intro k i x hi hk hx
  obtain ⟨k, rfl⟩ : ∃ m, k = m + 1 := ⟨k - 1, by omega⟩
  simp only [flow_intervals.l0]
  rw [if_neg (by omega)]
  rfl
 | succ d ih =>
  intro k i x hi hk hx
  obtain ⟨k, rfl⟩ : ∃ m, k = m + 1 := ⟨k - 1, by omega⟩
  simp only [flow_intervals.l0]
  rw [if_pos (by omega), if_pos (by omega), if_pos (by omega), if_pos (by omega)]
  have hw : wrap64 ((i : Int) + 1) = ((i + 1 : Nat) : Int) := by unfold wrap64; omega
  rw [hw, ih k (i + 1) _ (by omega) (by omega) (by simp [hx])]
  rw [List.range'_succ, List.foldl_cons]
  rfl
theorem intervals_f (l : List S38) (hn : l.length ≤ 5864062014805) : flow_intervals.f (l.length + 1) l = some (l.map toI) := by
 unfold flow_intervals.f
 rw [if_pos (by omega), if_pos (by omega)]
 have := intervals_l0 l hn l.length (l.length + 1) 0 (List.replicate ((l.length : Int)).toNat z85) (by omega) (by omega) (by simp)
 rw [show ((0 : Nat) : Int) = 0 from rfl] at this
 rw [this, ← List.range_eq_range', fold_set _ _ _ (by simp), List.drop_of_length_le (by simp), List.append_nil]
 congr 1
 exact fold_map _ toI l
def boundsR (l0 : List S63) (l1 : List S38) : List S38 × Int :=
 match netOk l0 with
 | none => ([], 1)
 | some kids => if belongsB l0.length l1 = true then (if (boundsF l0 kids (l1.map toI)).1 = true then ((boundsF l0 kids (l1.map toI)).2.map toR, 0) else ([], 30)) else ([], 1)
def flow_Bounds.f (l0 : List S63) (l1 : List S38) : Option (List S38 × Int) := if l0.length ≤ 5864062014805 ∧ l1.length ≤ 140737488355328 then some (boundsR l0 l1) else none
theorem rg_elem {W : World} {base g n cap : Nat} {xs : List S38} (h : Kd.R k38 38 W base (fun _ => True) (.slice (some ⟨g, 0, none⟩) n cap) xs) (i : Int) (h0 : 0 ≤ i) (h1 : i < n) :
  (W.cell? ⟨g, i.toNat * 2, none⟩ = some (.int .i64 (rd_T38 xs i).f0) ∧ W.cell? ⟨g, i.toNat * 2 + 1, none⟩ = some (.int .i64 (rd_T38 xs i).f1)) ∧ (W.frozen? ⟨g, i.toNat * 2, none⟩ = false ∧ W.frozen? ⟨g, i.toNat * 2 + 1, none⟩ = false) ∧
   ∀ y : S38, Kd.R k38 38 ((W.setCell ⟨g, i.toNat * 2, none⟩ (.int .i64 y.f0)).setCell ⟨g, i.toNat * 2 + 1, none⟩ (.int .i64 y.f1)) base (fun _ => True) (.slice (some ⟨g, 0, none⟩) n cap) (xs.set i.toNat y) ∧
    W.grownBy ((W.setCell ⟨g, i.toNat * 2, none⟩ (.int .i64 y.f0)).setCell ⟨g, i.toNat * 2 + 1, none⟩ (.int .i64 y.f1)) (some g) := by
 obtain ⟨c, hcl, hM, hcc, hfr⟩ := Kd.R_elem h z38 i h0 h1
 obtain rfl := k38_openM hM
 have e : k38.sz = 2 := rfl
 refine ⟨⟨hcc 0 _ rfl, hcc 1 _ rfl⟩, ⟨hfr 0, hfr 1⟩, fun y => ?_⟩
 exact Kd.R_seg h i h0 h1 hcl hcc (seg := [.int .i64 y.f0, .int .i64 y.f1]) (j := 0) (show 0 + 2 ≤ 2 from Nat.le_refl _) (x' := y) (okp := fun _ => False) (k38_mkM _ _ _ y) (fun _ hk => hk.elim)
theorem flow_Bounds.calls (A0 : Option Addr) (c0 : Nat) (l0 : List (S63)) (A1 : Option Addr) (c1 : Nat) (l1 : List (S38)) (r1 : List (S38)) (r2 : Int) (w : World) (hr0 : Kd.C k63 w A0 l0.length l0) (hc0 : l0.length ≤ c0) (hr1 : Kd.C k38 w A1 l1.length l1) (hc1 : l1.length ≤ c1) (h : flow_Bounds.f l0 l1 = some (r1, r2)) :
  Calls Try.prog 25 #[.slice A0 l0.length c0, .slice A1 l1.length c1] w fun e w' => ∃ v0_ : Value, e = .returned (.tuple #[v0_, .int .i64 r2]) ∧ Kd.R k38 38 w' w.heap.size (fun _ => True) v0_ r1 ∧ Below w.heap.size w w' := by
 have hu80 := Try.underlying80
 have hu85 := Try.underlying85
 have hu38 := Try.underlying38
 unfold flow_Bounds.f at h
 by_cases hsz : l0.length ≤ 5864062014805 ∧ l1.length ≤ 140737488355328
 case neg =>
  rw [if_neg hsz] at h
  cases h
 rw [if_pos hsz] at h
 injection h with h
 have HSZ := Aside0.mk hsz.1
 have HSZ1 := Aside0.mk hsz.2
 have HR0 := Aside0.mk hr0
 have HC0 := Aside0.mk hc0
 have HR1 := Aside0.mk hr1
 have HC1 := Aside0.mk hc1
 clear hsz hr0 hc0 hr1 hc1
 have HB := Aside0.mk (Below.refl w.heap.size w)
 cases ho : openK l0 with
 | none =>
  have HO := Aside0.mk ho
  have e : boundsR l0 l1 = ([], 1) := by unfold boundsR netOk; rw [ho]; split <;> simp_all
  rw [e] at h
  injection h with e1 e2
  subst e1
  subst e2
  clear ho e
  go_enter Try.func25, Try.ntmps25
  go_wp2_with (first | (go_at_call 40; (with_reducible refine (open_none A0 c0 l0 _ HR0.out HC0.out HSZ.out HO.out).mono ?_); rintro e w1 ⟨rfl, hb⟩; have n0_ := Aside0.mk (below_step HB.out hb); clear HB hb; have HB := n0_; clear n0_) | ((with_reducible refine gate_dst (N := 6) rfl ?_); refine box_event ?hg (N := 6) ?hd (cs := #[.slice none 0 0, .slice none 0 0]) (t := 80) ?hr ?_; (case hd => rfl); (case hg => rfl); (case hr => first | (go_simp; done) | (go_simp; rfl)); intro gn hgn w3 hbn hb3; have hcn0 : w3.cell? ⟨gn, 0, none⟩ = some (.slice none 0 0) := (blk_cell hbn 0).trans rfl; have hcn1 : w3.cell? ⟨gn, 1, none⟩ = some (.slice none 0 0) := (blk_cell hbn 1).trans rfl; have hfn0 := blk_frozen hbn 0; have hfn1 := blk_frozen hbn 1; have BN := Aside0.mk hbn; have n0_ := Aside0.mk (below_step HB.out hb3); have GN := Aside0.mk (show w.heap.size ≤ gn by rw [hgn]; exact below_size HB.out); have GE := Aside0.mk hgn; (try have HK := Aside0.mk (Kd.S_below HK.out hb3)); clear HB hbn hb3 hgn; have HB := n0_; clear n0_) | ((with_reducible refine gate_store (t := 80) (p := 6) (v := .tmp 15) rfl ?_); refine store_event rfl (t := 80) (p := 6) (v := .tmp 15) rfl rfl (by first | (go_simp; done) | (go_simp; rfl)) ?_; intro w4 hw4; have BN4 := Aside0.mk (show w4.heap[gn]? = some (.cells #[.slice none 0 0, .slice none 0 0] 80 (0, 0)) by rw [hw4]; exact blk_put (blk_put BN.out 0 _ rfl) 1 _ rfl); have n0_ := Aside0.mk (show Below w.heap.size w w4 by rw [hw4]; exact below_set (below_set HB.out GN.out) GN.out); clear hw4 BN HB hcn0 hcn1 hfn0 hfn1; have HB := n0_; clear n0_; have hcn0 : w4.cell? ⟨gn, 0, none⟩ = some (.slice none 0 0) := (blk_cell BN4.out 0).trans rfl; have hcn1 : w4.cell? ⟨gn, 1, none⟩ = some (.slice none 0 0) := (blk_cell BN4.out 1).trans rfl))
  go_ret2
  exact ⟨_, rfl, Kd.R_nil _ _ _ _ _, HB.out⟩
 | some kids =>
  have HO := Aside0.mk ho
  by_cases hl : l0.length ≤ 200
  case neg =>
   have e : boundsR l0 l1 = ([], 1) := by unfold boundsR netOk; rw [if_neg hl]
   rw [e] at h
   injection h with e1 e2
   subst e1
   subst e2
   have d1 : decide (l0.length ≤ 200) = false := decide_eq_false hl
   clear ho hl e
   go_enter Try.func25, Try.ntmps25
   go_wp2_with (first | (go_at_call 40; (with_reducible refine (open_some A0 c0 l0 _ HR0.out HC0.out HSZ.out HO.out).mono ?_); rintro e w1 ⟨A2, c2, rfl, hS, hb⟩; have n0_ := Aside0.mk (below_step HB.out hb); have HK := Aside0.mk hS; clear HB hb hS; have HB := n0_; clear n0_) | ((with_reducible refine gate_dst (N := 6) rfl ?_); refine box_event ?hg (N := 6) ?hd (cs := #[.slice none 0 0, .slice none 0 0]) (t := 80) ?hr ?_; (case hd => rfl); (case hg => rfl); (case hr => first | (go_simp; done) | (go_simp; rfl)); intro gn hgn w3 hbn hb3; have hcn0 : w3.cell? ⟨gn, 0, none⟩ = some (.slice none 0 0) := (blk_cell hbn 0).trans rfl; have hcn1 : w3.cell? ⟨gn, 1, none⟩ = some (.slice none 0 0) := (blk_cell hbn 1).trans rfl; have hfn0 := blk_frozen hbn 0; have hfn1 := blk_frozen hbn 1; have BN := Aside0.mk hbn; have n0_ := Aside0.mk (below_step HB.out hb3); have GN := Aside0.mk (show w.heap.size ≤ gn by rw [hgn]; exact below_size HB.out); have GE := Aside0.mk hgn; (try have HK := Aside0.mk (Kd.S_below HK.out hb3)); clear HB hbn hb3 hgn; have HB := n0_; clear n0_) | ((with_reducible refine gate_store (t := 80) (p := 6) (v := .tmp 15) rfl ?_); refine store_event rfl (t := 80) (p := 6) (v := .tmp 15) rfl rfl (by first | (go_simp; done) | (go_simp; rfl)) ?_; intro w4 hw4; have BN4 := Aside0.mk (show w4.heap[gn]? = some (.cells #[.slice A0 l0.length c0, .slice A2 l0.length c2] 80 (0, 0)) by rw [hw4]; exact blk_put (blk_put BN.out 0 _ rfl) 1 _ rfl); have n0_ := Aside0.mk (show Below w.heap.size w w4 by rw [hw4]; exact below_set (below_set HB.out GN.out) GN.out); have HK := Aside0.mk (show Kd.S (Kd.slice 3 (Kd.int .i64)) 22 w4 w.heap.size (fun _ => True) (.slice A2 l0.length c2) kids by rw [hw4]; have ht := Kd.S_far (p := ⟨gn, 0, none⟩) (Kd.S_types HK.out BN.out (by decide)) (fun _ hk => hk.2) (.slice A0 l0.length c0); exact Kd.S_mono (Kd.S_far (p := ⟨gn, 1, none⟩) ht (fun _ hk => hk.2) (.slice A2 l0.length c2)) (fun _ hk => hk.1)); clear hw4 BN HB hcn0 hcn1 hfn0 hfn1; have HB := n0_; clear n0_; have hcn0 : w4.cell? ⟨gn, 0, none⟩ = some (.slice A0 l0.length c0) := (blk_cell BN4.out 0).trans rfl; have hcn1 : w4.cell? ⟨gn, 1, none⟩ = some (.slice A2 l0.length c2) := (blk_cell BN4.out 1).trans rfl))
   go_ret2
   exact ⟨_, rfl, Kd.R_nil _ _ _ _ _, HB.out⟩
  have d1 : decide (l0.length ≤ 200) = true := decide_eq_true hl
  cases hbel : belongsB l0.length l1 with
  | false =>
   have HBEL := Aside0.mk hbel
   have e : boundsR l0 l1 = ([], 1) := by unfold boundsR netOk; rw [if_pos hl, ho]; simp [hbel]
   rw [e] at h
   injection h with e1 e2
   subst e1
   subst e2
   clear ho hl hbel e
   go_enter Try.func25, Try.ntmps25
   go_wp2_with (first | (go_at_call 40; (with_reducible refine (open_some A0 c0 l0 _ HR0.out HC0.out HSZ.out HO.out).mono ?_); rintro e w1 ⟨A2, c2, rfl, hS, hb⟩; have n0_ := Aside0.mk (below_step HB.out hb); have HK := Aside0.mk hS; clear HB hb hS; have HB := n0_; clear n0_) | ((with_reducible refine gate_dst (N := 6) rfl ?_); refine box_event ?hg (N := 6) ?hd (cs := #[.slice none 0 0, .slice none 0 0]) (t := 80) ?hr ?_; (case hd => rfl); (case hg => rfl); (case hr => first | (go_simp; done) | (go_simp; rfl)); intro gn hgn w3 hbn hb3; have hcn0 : w3.cell? ⟨gn, 0, none⟩ = some (.slice none 0 0) := (blk_cell hbn 0).trans rfl; have hcn1 : w3.cell? ⟨gn, 1, none⟩ = some (.slice none 0 0) := (blk_cell hbn 1).trans rfl; have hfn0 := blk_frozen hbn 0; have hfn1 := blk_frozen hbn 1; have BN := Aside0.mk hbn; have n0_ := Aside0.mk (below_step HB.out hb3); have GN := Aside0.mk (show w.heap.size ≤ gn by rw [hgn]; exact below_size HB.out); have GE := Aside0.mk hgn; (try have HK := Aside0.mk (Kd.S_below HK.out hb3)); clear HB hbn hb3 hgn; have HB := n0_; clear n0_) | ((with_reducible refine gate_store (t := 80) (p := 6) (v := .tmp 15) rfl ?_); refine store_event rfl (t := 80) (p := 6) (v := .tmp 15) rfl rfl (by first | (go_simp; done) | (go_simp; rfl)) ?_; intro w4 hw4; have BN4 := Aside0.mk (show w4.heap[gn]? = some (.cells #[.slice A0 l0.length c0, .slice A2 l0.length c2] 80 (0, 0)) by rw [hw4]; exact blk_put (blk_put BN.out 0 _ rfl) 1 _ rfl); have n0_ := Aside0.mk (show Below w.heap.size w w4 by rw [hw4]; exact below_set (below_set HB.out GN.out) GN.out); have HK := Aside0.mk (show Kd.S (Kd.slice 3 (Kd.int .i64)) 22 w4 w.heap.size (fun _ => True) (.slice A2 l0.length c2) kids by rw [hw4]; have ht := Kd.S_far (p := ⟨gn, 0, none⟩) (Kd.S_types HK.out BN.out (by decide)) (fun _ hk => hk.2) (.slice A0 l0.length c0); exact Kd.S_mono (Kd.S_far (p := ⟨gn, 1, none⟩) ht (fun _ hk => hk.2) (.slice A2 l0.length c2)) (fun _ hk => hk.1)); clear hw4 BN HB hcn0 hcn1 hfn0 hfn1; have HB := n0_; clear n0_; have hcn0 : w4.cell? ⟨gn, 0, none⟩ = some (.slice A0 l0.length c0) := (blk_cell BN4.out 0).trans rfl; have hcn1 : w4.cell? ⟨gn, 1, none⟩ = some (.slice A2 l0.length c2) := (blk_cell BN4.out 1).trans rfl) | (go_at_call 41; (with_reducible refine (belongs_calls A0 l0.length c0 A2 l0.length c2 A1 c1 l1 _ (Kd.C_below HR1.out HB.out) HC1.out (by have := HSZ1.out; omega) (by have := HSZ.out; omega)).mono ?_); rw [HBEL.out]; rintro e w5 ⟨rfl, hb⟩; have n0_ := Aside0.mk (below_step HB.out hb); have HK := Aside0.mk (Kd.S_below HK.out hb); replace hcn0 := (hb.cell (World.block_lt_of_cell? _ _ hcn0)).trans hcn0; replace hcn1 := (hb.cell (World.block_lt_of_cell? _ _ hcn1)).trans hcn1; have BN4 := Aside0.mk (blk_below BN4.out hb); clear HB hb; have HB := n0_; clear n0_))
   go_ret2
   exact ⟨_, rfl, Kd.R_nil _ _ _ _ _, HB.out⟩
  | true =>
   have HBEL := Aside0.mk hbel
   have HLL := Aside0.mk (show l1.length = l0.length by unfold belongsB at hbel; simp at hbel; exact hbel.1)
   obtain ⟨r, hrr⟩ : ∃ r, r = l1.map toI := ⟨_, rfl⟩
   have HRL := Aside0.mk (show r.length = l0.length by rw [hrr, List.length_map, HLL.out])
   have HKO := Aside0.mk (openK_ok ho)
   cases hbo : (boundsF l0 kids r).1 with
   | false =>
    have HBO := Aside0.mk hbo
    have e : boundsR l0 l1 = ([], 30) := by unfold boundsR netOk; rw [if_pos hl, ho]; simp only []; rw [if_pos hbel, ← hrr, if_neg (by rw [hbo]; decide)]
    rw [e] at h
    injection h with e1 e2
    subst e1
    subst e2
    have HI := Aside0.mk (hrr ▸ intervals_f l1 (by have := HLL.out; have := HSZ.out; omega))
    clear ho hl hbel hbo e
    go_enter Try.func25, Try.ntmps25
    go_wp2_with (first | (go_at_call 40; (with_reducible refine (open_some A0 c0 l0 _ HR0.out HC0.out HSZ.out HO.out).mono ?_); rintro e w1 ⟨A2, c2, rfl, hS, hb⟩; have n0_ := Aside0.mk (below_step HB.out hb); have HK := Aside0.mk hS; clear HB hb hS; have HB := n0_; clear n0_) | ((with_reducible refine gate_dst (N := 6) rfl ?_); refine box_event ?hg (N := 6) ?hd (cs := #[.slice none 0 0, .slice none 0 0]) (t := 80) ?hr ?_; (case hd => rfl); (case hg => rfl); (case hr => first | (go_simp; done) | (go_simp; rfl)); intro gn hgn w3 hbn hb3; have hcn0 : w3.cell? ⟨gn, 0, none⟩ = some (.slice none 0 0) := (blk_cell hbn 0).trans rfl; have hcn1 : w3.cell? ⟨gn, 1, none⟩ = some (.slice none 0 0) := (blk_cell hbn 1).trans rfl; have hfn0 := blk_frozen hbn 0; have hfn1 := blk_frozen hbn 1; have BN := Aside0.mk hbn; have n0_ := Aside0.mk (below_step HB.out hb3); have GN := Aside0.mk (show w.heap.size ≤ gn by rw [hgn]; exact below_size HB.out); have GE := Aside0.mk hgn; (try have HK := Aside0.mk (Kd.S_below HK.out hb3)); clear HB hbn hb3 hgn; have HB := n0_; clear n0_) | ((with_reducible refine gate_store (t := 80) (p := 6) (v := .tmp 15) rfl ?_); refine store_event rfl (t := 80) (p := 6) (v := .tmp 15) rfl rfl (by first | (go_simp; done) | (go_simp; rfl)) ?_; intro w4 hw4; have BN4 := Aside0.mk (show w4.heap[gn]? = some (.cells #[.slice A0 l0.length c0, .slice A2 l0.length c2] 80 (0, 0)) by rw [hw4]; exact blk_put (blk_put BN.out 0 _ rfl) 1 _ rfl); have n0_ := Aside0.mk (show Below w.heap.size w w4 by rw [hw4]; exact below_set (below_set HB.out GN.out) GN.out); have HK := Aside0.mk (show Kd.S (Kd.slice 3 (Kd.int .i64)) 22 w4 w.heap.size (fun _ => True) (.slice A2 l0.length c2) kids by rw [hw4]; have ht := Kd.S_far (p := ⟨gn, 0, none⟩) (Kd.S_types HK.out BN.out (by decide)) (fun _ hk => hk.2) (.slice A0 l0.length c0); exact Kd.S_mono (Kd.S_far (p := ⟨gn, 1, none⟩) ht (fun _ hk => hk.2) (.slice A2 l0.length c2)) (fun _ hk => hk.1)); clear hw4 BN HB hcn0 hcn1 hfn0 hfn1; have HB := n0_; clear n0_; have hcn0 : w4.cell? ⟨gn, 0, none⟩ = some (.slice A0 l0.length c0) := (blk_cell BN4.out 0).trans rfl; have hcn1 : w4.cell? ⟨gn, 1, none⟩ = some (.slice A2 l0.length c2) := (blk_cell BN4.out 1).trans rfl) | (go_at_call 41; (with_reducible refine (belongs_calls A0 l0.length c0 A2 l0.length c2 A1 c1 l1 _ (Kd.C_below HR1.out HB.out) HC1.out (by have := HSZ1.out; omega) (by have := HSZ.out; omega)).mono ?_); rw [HBEL.out]; rintro e w5 ⟨rfl, hb⟩; have n0_ := Aside0.mk (below_step HB.out hb); have HK := Aside0.mk (Kd.S_below HK.out hb); replace hcn0 := (hb.cell (World.block_lt_of_cell? _ _ hcn0)).trans hcn0; replace hcn1 := (hb.cell (World.block_lt_of_cell? _ _ hcn1)).trans hcn1; have BN4 := Aside0.mk (blk_below BN4.out hb); clear HB hb; have HB := n0_; clear n0_) | (go_at_call 48; (with_reducible refine (flow_intervals.calls (l1.length + 1) A1 c1 l1 r _ (Kd.C_below HR1.out HB.out) HC1.out HI.out).mono ?_); rintro e w6 ⟨v6, rfl, hR, hb⟩; obtain ⟨A3, c3, rfl⟩ := Kd.R_slice hR; rw [HRL.out] at hR; have n0_ := Aside0.mk (below_step HB.out hb); have HRV := Aside0.mk (Kd.R_lower hR (below_size HB.out)); have HK := Aside0.mk (Kd.S_below HK.out hb); replace hcn0 := (hb.cell (World.block_lt_of_cell? _ _ hcn0)).trans hcn0; replace hcn1 := (hb.cell (World.block_lt_of_cell? _ _ hcn1)).trans hcn1; have BN4 := Aside0.mk (blk_below BN4.out hb); rw [HRL.out]; clear HB hb hR; have HB := n0_; clear n0_) | (go_at_call 49; (with_reducible refine (bounds_calls w _ A0 c0 l0 A2 c2 kids A3 c3 r HB.out HR0.out HC0.out HSZ.out HK.out HKO.out HRV.out HRL.out).mono ?_); rw [HBO.out]; rintro e w7 ⟨rfl, hR, hg⟩; have n0_ := Aside0.mk (grown_below HB.out hg (Kd.R_base HRV.out)); have HRV := Aside0.mk (by first | (rw [← HBB.out] at hR; exact hR) | exact hR); clear HB hg hR; have HB := n0_; clear n0_))
    go_ret2
    exact ⟨_, rfl, Kd.R_nil _ _ _ _ _, HB.out⟩
   | true =>
    have HBO := Aside0.mk hbo
    obtain ⟨b, hb_⟩ : ∃ b, b = (boundsF l0 kids r).2 := ⟨_, rfl⟩
    have HBL := Aside0.mk (show b.length = l0.length by rw [hb_, boundsF_len, HRL.out])
    have e : boundsR l0 l1 = (b.map toR, 0) := by unfold boundsR netOk; rw [if_pos hl, ho]; simp only []; rw [if_pos hbel, ← hrr, if_pos hbo, hb_]
    rw [e] at h
    injection h with e1 e2
    subst e1
    subst e2
    have HI := Aside0.mk (hrr ▸ intervals_f l1 (by have := HLL.out; have := HSZ.out; omega))
    have HBB := Aside0.mk hb_
    clear ho hl hbel hbo e hrr hb_
    go_enter Try.func25, Try.ntmps25
    go_wp2_with (first | (go_at_call 40; (with_reducible refine (open_some A0 c0 l0 _ HR0.out HC0.out HSZ.out HO.out).mono ?_); rintro e w1 ⟨A2, c2, rfl, hS, hb⟩; have n0_ := Aside0.mk (below_step HB.out hb); have HK := Aside0.mk hS; clear HB hb hS; have HB := n0_; clear n0_) | ((with_reducible refine gate_dst (N := 6) rfl ?_); refine box_event ?hg (N := 6) ?hd (cs := #[.slice none 0 0, .slice none 0 0]) (t := 80) ?hr ?_; (case hd => rfl); (case hg => rfl); (case hr => first | (go_simp; done) | (go_simp; rfl)); intro gn hgn w3 hbn hb3; have hcn0 : w3.cell? ⟨gn, 0, none⟩ = some (.slice none 0 0) := (blk_cell hbn 0).trans rfl; have hcn1 : w3.cell? ⟨gn, 1, none⟩ = some (.slice none 0 0) := (blk_cell hbn 1).trans rfl; have hfn0 := blk_frozen hbn 0; have hfn1 := blk_frozen hbn 1; have BN := Aside0.mk hbn; have n0_ := Aside0.mk (below_step HB.out hb3); have GN := Aside0.mk (show w.heap.size ≤ gn by rw [hgn]; exact below_size HB.out); have GE := Aside0.mk hgn; (try have HK := Aside0.mk (Kd.S_below HK.out hb3)); clear HB hbn hb3 hgn; have HB := n0_; clear n0_) | ((with_reducible refine gate_store (t := 80) (p := 6) (v := .tmp 15) rfl ?_); refine store_event rfl (t := 80) (p := 6) (v := .tmp 15) rfl rfl (by first | (go_simp; done) | (go_simp; rfl)) ?_; intro w4 hw4; have BN4 := Aside0.mk (show w4.heap[gn]? = some (.cells #[.slice A0 l0.length c0, .slice A2 l0.length c2] 80 (0, 0)) by rw [hw4]; exact blk_put (blk_put BN.out 0 _ rfl) 1 _ rfl); have n0_ := Aside0.mk (show Below w.heap.size w w4 by rw [hw4]; exact below_set (below_set HB.out GN.out) GN.out); have HK := Aside0.mk (show Kd.S (Kd.slice 3 (Kd.int .i64)) 22 w4 w.heap.size (fun _ => True) (.slice A2 l0.length c2) kids by rw [hw4]; have ht := Kd.S_far (p := ⟨gn, 0, none⟩) (Kd.S_types HK.out BN.out (by decide)) (fun _ hk => hk.2) (.slice A0 l0.length c0); exact Kd.S_mono (Kd.S_far (p := ⟨gn, 1, none⟩) ht (fun _ hk => hk.2) (.slice A2 l0.length c2)) (fun _ hk => hk.1)); clear hw4 BN HB hcn0 hcn1 hfn0 hfn1; have HB := n0_; clear n0_; have hcn0 : w4.cell? ⟨gn, 0, none⟩ = some (.slice A0 l0.length c0) := (blk_cell BN4.out 0).trans rfl; have hcn1 : w4.cell? ⟨gn, 1, none⟩ = some (.slice A2 l0.length c2) := (blk_cell BN4.out 1).trans rfl) | (go_at_call 41; (with_reducible refine (belongs_calls A0 l0.length c0 A2 l0.length c2 A1 c1 l1 _ (Kd.C_below HR1.out HB.out) HC1.out (by have := HSZ1.out; omega) (by have := HSZ.out; omega)).mono ?_); rw [HBEL.out]; rintro e w5 ⟨rfl, hb⟩; have n0_ := Aside0.mk (below_step HB.out hb); have HK := Aside0.mk (Kd.S_below HK.out hb); replace hcn0 := (hb.cell (World.block_lt_of_cell? _ _ hcn0)).trans hcn0; replace hcn1 := (hb.cell (World.block_lt_of_cell? _ _ hcn1)).trans hcn1; have BN4 := Aside0.mk (blk_below BN4.out hb); clear HB hb; have HB := n0_; clear n0_) | (go_at_call 48; (with_reducible refine (flow_intervals.calls (l1.length + 1) A1 c1 l1 r _ (Kd.C_below HR1.out HB.out) HC1.out HI.out).mono ?_); rintro e w6 ⟨v6, rfl, hR, hb⟩; obtain ⟨A3, c3, rfl⟩ := Kd.R_slice hR; rw [HRL.out] at hR; have n0_ := Aside0.mk (below_step HB.out hb); have HRV := Aside0.mk (Kd.R_lower hR (below_size HB.out)); have HK := Aside0.mk (Kd.S_below HK.out hb); replace hcn0 := (hb.cell (World.block_lt_of_cell? _ _ hcn0)).trans hcn0; replace hcn1 := (hb.cell (World.block_lt_of_cell? _ _ hcn1)).trans hcn1; have BN4 := Aside0.mk (blk_below BN4.out hb); rw [HRL.out]; clear HB hb hR; have HB := n0_; clear n0_) | (go_at_call 49; (with_reducible refine (bounds_calls w _ A0 c0 l0 A2 c2 kids A3 c3 r HB.out HR0.out HC0.out HSZ.out HK.out HKO.out HRV.out HRL.out).mono ?_); rw [HBO.out]; rintro e w7 ⟨rfl, hR, hg⟩; have n0_ := Aside0.mk (grown_below HB.out hg (Kd.R_base HRV.out)); have HRV := Aside0.mk (by first | (rw [← HBB.out] at hR; exact hR) | exact hR); clear HB hg hR; have HB := n0_; clear n0_) | ((with_reducible refine gate_dst (N := 33) rfl ?_); refine Kd.R_make k38 _ 38 rfl (N := 33) rfl 23 _ _ rfl (l0.length : Int) rfl rfl Try.underlying23 (.agg #[(.int .i64 0), (.int .i64 0)]) 16 info38 rfl (by decide) (by omega) z38 (ok := fun _ => True) (okp := fun _ => True) (k38_mkM _ _ _ z38) (fun _ hk => hk) trivial (by omega) (by have := HSZ.out; omega) (Below.refl _ _) (Nat.le_refl _) ?_; intro v1 w8 ho hb hg_ hnew_; have n0_ := Aside0.mk (below_step HB.out hb); have HO8 := Aside0.mk (Kd.R_lower ho (below_size HB.out)); have HRV := Aside0.mk (Kd.R_below HRV.out hb); clear HB hb ho hg_ hnew_; have HB := n0_; clear n0_))
    obtain ⟨Ao, co, eo⟩ := Kd.R_slice HO8.out
    subst eo
    rw [List.length_replicate, Int.toNat_natCast] at *
    go_loopg [36] l0.length (fun kq v36 wr => ∃ (i : Nat) (y : List S38), v36 = .int .i64 i ∧ Aside0 (kq + i = l0.length) ∧ Aside0 (y = (List.range i).foldl (fun y (j : Nat) => y.set j (toR (b.getD j z85))) (List.replicate l0.length z38)) ∧ Aside0 (Kd.R k38 38 wr w.heap.size (fun _ => True) (.slice Ao l0.length co) y) ∧ Aside0 (Kd.R k85 85 wr w.heap.size (fun _ => True) (.slice A3 l0.length c3) b) ∧ Aside0 (Below w.heap.size w wr))
    case atStart => exact ⟨0, _, rfl, ⟨by omega⟩, ⟨rfl⟩, HO8, HRV, HB⟩
    case round =>
     clear HO8 HRV HB BN4 HK hcn0 hcn1
     obtain ⟨n, y, rfl, HM, HY, HRY, HRV, HB⟩ := hrel
     have HYL := Aside0.mk (show y.length = l0.length by rw [HY.out, fold_len, List.length_replicate])
     by_cases hlt : n < l0.length
     ·obtain ⟨i, hi⟩ : ∃ i : Int, i = (n : Int) := ⟨_, rfl⟩
      rw [← hi]
      have HI2 := Aside0.mk (show 0 ≤ i ∧ i < l0.length ∧ i = (n : Int) from ⟨by omega, by omega, hi⟩)
      have d2 : decide (i < (l0.length : Int)) = true := decide_eq_true HI2.out.2.1
      have ci2 : (0 ≤ i) = True := eq_true HI2.out.1
      have ci3 : (i < l0.length) = True := eq_true HI2.out.2.1
      obtain ⟨adb, eb, hx0, hx1⟩ := at_T85 (Kd.R_reads' HRV.out).2.2 i HI2.out.1 (by have := HI2.out; have := HBL.out; omega)
      subst eb
      obtain ⟨go, cgo, eo, gob, gol, ogl, hogl⟩ := Kd.R_form HRY.out (by have := HI2.out; have := HYL.out; omega)
      injection eo with ea en ec
      subst ea
      subst ec
      have HGC := Aside0.mk hogl
      have HGB := Aside0.mk gob
      clear hi hlt en gob gol hogl
      have hz1 : i + 1 ≤ 9223372036854775807 := by have := HI2.out; have := HSZ.out; omega
      have hz2 : -9223372036854775808 ≤ i + 1 := by have := HI2.out; omega
      go_upto_region 11 with (first | ((with_reducible refine gate_dst (N := 11) rfl ?_); refine box_event ?hg (N := 11) ?hd (cs := #[.int .i64 0, .int .i64 0]) (t := 85) ?hr ?_; (case hd => rfl); (case hg => rfl); (case hr => first | (go_simp; done) | (go_simp; rfl)); intro gx hgx w9 hbx hb; have hcx0 : w9.cell? ⟨gx, 0, none⟩ = some (.int .i64 0) := (blk_cell hbx 0).trans rfl; have hcx1 : w9.cell? ⟨gx, 1, none⟩ = some (.int .i64 0) := (blk_cell hbx 1).trans rfl; have hfx0 := blk_frozen hbx 0; have hfx1 := blk_frozen hbx 1; have BX := Aside0.mk hbx; have GX := Aside0.mk hgx; have HB9 := Aside0.mk hb; clear hbx hgx hb))
      obtain ⟨w10, hw10⟩ : ∃ w10, w10 = (w9.setCell ⟨gx, 0, none⟩ (.int .i64 (rd_T85 b i).f0)).setCell ⟨gx, 1, none⟩ (.int .i64 (rd_T85 b i).f1) := ⟨_, rfl⟩
      rw [← hw10]
      have hbx2 : w10.heap[gx]? = some (.cells #[.int .i64 (rd_T85 b i).f0, .int .i64 (rd_T85 b i).f1] 85 (0, 0)) := by rw [hw10]; exact blk_put2 BX.out _ _
      have HB10 := Aside0.mk (below_new2 GX.out HB9.out hw10)
      clear hcx0 hcx1 hfx0 hfx1
      have hcx0 : w10.cell? ⟨gx, 0, none⟩ = some (.int .i64 (rd_T85 b i).f0) := (blk_cell hbx2 0).trans rfl
      have hcx1 : w10.cell? ⟨gx, 1, none⟩ = some (.int .i64 (rd_T85 b i).f1) := (blk_cell hbx2 1).trans rfl
      have HRY10 := Aside0.mk (Kd.R_below HRY.out HB10.out)
      have HRV10 := Aside0.mk (Kd.R_below HRV.out HB10.out)
      have HE10 := Aside0.mk (rg_elem HRY10.out i HI2.out.1 HI2.out.2.1)
      have hxz0 := HE10.out.1.1
      have hxz1 := HE10.out.1.2
      have hfz0 := HE10.out.2.1.1
      have hfz1 := HE10.out.2.1.2
      clear hw10 hbx2
      go_wp2
      have hP := HE10.out.2.2 (toR (rd_T85 b i))
      have hg := HB10.out
      go_roundg (gk - 1)
      case measure => have := HM.out; have := HI2.out; omega
      case rel =>
       refine ⟨n + 1, _, ?_, ⟨by have := HM.out; have := HI2.out; omega⟩, ⟨?_⟩, ⟨hP.1⟩, ⟨Kd.R_mono (Kd.R_grown (Kd.R_types HRV10.out (blk_below HGC.out HB10.out) (by decide)) hP.2 (fun k hk e => hk.2 (by cases e; rfl))) (fun _ hk => hk.1)⟩, ⟨below_set (below_set (below_step HB.out HB10.out) HGB.out) HGB.out⟩⟩
       ·have := HI2.out
        first | (rw [show ((n + 1 : Nat) : Int) = i + 1 from by omega]; done) | (simp; omega)
       ·rw [foldl_range_succ, ← HY.out]
        rw [show i.toNat = n by have := HI2.out; omega]
        show y.set n (toR (b.getD i.toNat z85)) = _
        rw [show i.toNat = n by have := HI2.out; omega]
     ·have d2 : decide ((n : Int) < (l0.length : Int)) = false := decide_eq_false (by omega)
      have d2' : decide (n < l0.length) = false := decide_eq_false hlt
      have HNL := Aside0.mk (show n = l0.length by have := HM.out; omega)
      clear hlt
      go_wp2
      go_ret2
      refine ⟨_, rfl, ?_, HB.out⟩
      have e1 : y = b.map toR := by
       rw [HY.out, HNL.out, fold_set _ _ _ (by simp), List.drop_of_length_le (by simp), List.append_nil, ← HBL.out]
       exact fold_map _ toR b
      rw [← e1]
      exact HRY.out
end
section
def money_amount_valid.f (a0 : Int) : Option (Bool) := if (-1000000000) ≤ a0 then (some (decide (a0 ≤ 1000000000))) else (some false)
theorem money_amount_valid.calls (a0 : Int) (r : Bool) (w : World) (h : money_amount_valid.f a0 = some r) :
  Calls Try.prog 73 #[.int .i64 a0] w fun e w' => e = .returned (.bool r) ∧ Drawn0 w w' := by
 have H : (if (-1000000000) ≤ a0 then (some (decide (a0 ≤ 1000000000))) else (some false)) = some r := h
 clear h
 by_cases c2 : (-1000000000) ≤ a0
 ·rw [if_pos c2] at H
  have c2b0 : decide ((-1000000000) ≤ a0) = true := decide_eq_true c2
  clear c2
  obtain rfl := Option.some.inj H
  go_enter Try.func73, Try.ntmps73
  go_wp2
  go_ret
  exact ⟨by first | rfl | (simp; done) | (simp [*]; done), by repeat (first | exact Drawn0.refl _ | apply Drawn0.step)⟩
 ·rw [if_neg c2] at H
  have c2b0 : decide ((-1000000000) ≤ a0) = false := decide_eq_false c2
  clear c2
  obtain rfl := Option.some.inj H
  go_enter Try.func73, Try.ntmps73
  go_wp2
  go_ret
  exact ⟨by first | rfl | (simp; done) | (simp [*]; done), by repeat (first | exact Drawn0.refl _ | apply Drawn0.step)⟩
end
section
def rational_common.l0 : Nat → Int → Int → Option (Int)
 | 0, _, _ => none
 | k + 1, x0, x1 => if x1 = 0 then (some x0) else (rational_common.l0 k x1 (Int.tmod x0 x1))
def rational_common.f (a0 : Int) (a1 : Int) : Option (Int) := rational_common.l0 (a1.natAbs + 1) a0 a1
theorem rational_common.calls (a0 : Int) (a1 : Int) (r : Int) (w : World) (h : rational_common.f a0 a1 = some r) :
  Calls Try.prog 89 #[.int .u64 a0, .int .u64 a1] w fun e w' => e = .returned (.int .u64 r) ∧ Drawn0 w w' := by
 obtain ⟨k, hk⟩ : ∃ k, k = a1.natAbs + 1 := ⟨_, rfl⟩
 have H : (rational_common.l0 k a0 a1) = some r := by rw [hk]; exact h
 clear h hk
 have H' := Aside0.mk H
 clear H
 go_enter Try.func89, Try.ntmps89
 go_wp2
 go_step3
 go_wp2
 go_step3
 go_wp2
 go_loopg [0, 1] k (fun kq v0 v1 w' => ∃ (x0_1 : Int) (x1_1 : Int), v0 = .int .u64 x0_1 ∧ v1 = .int .u64 x1_1 ∧ Aside0 (rational_common.l0 kq x0_1 x1_1 = some r) ∧ Aside0 (kq ≤ k) ∧ Drawn0 w w')
 case atStart => exact ⟨(a0), (a1), sd_, sd_, H', ⟨Nat.le_refl _⟩, by repeat (first | exact Drawn0.refl _ | apply Drawn0.step)⟩
 case round =>
  clear H'
  obtain ⟨x0_1, x1_1, rfl, rfl, HA, HK1, ⟨m1, rfl⟩⟩ := hrel
  cases gk with
  | zero => exact absurd HA.out (by simp [rational_common.l0])
  | succ k1 =>
   have H := HA.out
   clear HA
   simp only [rational_common.l0] at H
   by_cases c3 : x1_1 = 0
   ·rw [if_pos c3] at H
    have c3b0 : (x1_1 == 0) = true := beq_iff_eq.mpr c3
    have c3b1 : (x1_1 != 0) = false := bne_eq_false_iff_eq.mpr c3
    clear c3
    obtain rfl := Option.some.inj H
    go_wp2
    (try rw [Exit.noGoto_ret])
    go_ret
    exact ⟨by first | rfl | (simp; done) | (simp [*]; done), by repeat (first | exact Drawn0.refl _ | apply Drawn0.step)⟩
   ·rw [if_neg c3] at H
    have c3b0 : (x1_1 == 0) = false := beq_eq_false_iff_ne.mpr c3
    have c3b1 : (x1_1 != 0) = true := bne_iff_ne.mpr c3
    have H' := Aside0.mk H
    clear H
    go_wp2
    go_quiet ((fail))
    go_wp2
    go_roundg k1
    case measure => have := HK1.out; omega
    case rel => exact ⟨(x1_1), (Int.tmod x0_1 x1_1), sd_, sd_, H', ⟨by have := HK1.out; omega⟩, by repeat (first | exact Drawn0.refl _ | apply Drawn0.step)⟩
end
section
def rational_size.f (a0 : Int) : Option (Int) := if a0 < 0 then (some (IntKind.u64.wrap (-(IntKind.u64.wrap (a0))))) else (some (IntKind.u64.wrap (a0)))
theorem rational_size.calls (a0 : Int) (r : Int) (w : World) (h : rational_size.f a0 = some r) :
  Calls Try.prog 90 #[.int .i64 a0] w fun e w' => e = .returned (.int .u64 r) ∧ Drawn0 w w' := by
 have H : (if a0 < 0 then (some (IntKind.u64.wrap (-(IntKind.u64.wrap (a0))))) else (some (IntKind.u64.wrap (a0)))) = some r := h
 clear h
 by_cases c2 : a0 < 0
 ·rw [if_pos c2] at H
  have c2b0 : decide (a0 < 0) = true := decide_eq_true c2
  clear c2
  obtain rfl := Option.some.inj H
  go_enter Try.func90, Try.ntmps90
  go_wp2
  go_ret
  exact ⟨by first | rfl | (simp; done) | (simp [*]; done), by repeat (first | exact Drawn0.refl _ | apply Drawn0.step)⟩
 ·rw [if_neg c2] at H
  have c2b0 : decide (a0 < 0) = false := decide_eq_false c2
  clear c2
  obtain rfl := Option.some.inj H
  go_enter Try.func90, Try.ntmps90
  go_wp2
  go_ret
  exact ⟨by first | rfl | (simp; done) | (simp [*]; done), by repeat (first | exact Drawn0.refl _ | apply Drawn0.step)⟩
end
section
def rational_Valid.f (a0_0 : Int) (a0_1 : Int) : Option (Bool) := if a0_1 ≥ 1 then (if a0_1 ≤ 1000000000 then (if a0_0 ≥ (-1000000000) then (if a0_0 ≤ 1000000000 then ((rational_size.f a0_0).bind fun t122 => ((rational_size.f a0_1).bind fun t123 => ((rational_common.f t122 t123).bind fun t124 => (some (t124 == 1))))) else (some false)) else (some false)) else (some false)) else (some false)
theorem rational_Valid.calls (a0_0 : Int) (a0_1 : Int) (r : Bool) (w : World) (h : rational_Valid.f a0_0 a0_1 = some r) :
  Calls Try.prog 74 #[.agg #[.int .i64 a0_0, .int .i64 a0_1]] w fun e w' => e = .returned (.bool r) ∧ Below w.heap.size w w' := by
 have hu94 := Try.underlying94
 have HB := Aside0.mk (Below.refl w.heap.size w)
 have H : (if a0_1 ≥ 1 then (if a0_1 ≤ 1000000000 then (if a0_0 ≥ (-1000000000) then (if a0_0 ≤ 1000000000 then ((rational_size.f a0_0).bind fun t122 => ((rational_size.f a0_1).bind fun t123 => ((rational_common.f t122 t123).bind fun t124 => (some (t124 == 1))))) else (some false)) else (some false)) else (some false)) else (some false)) = some r := h
 clear h
 by_cases c2 : a0_1 ≥ 1
 ·rw [if_pos c2] at H
  have c2b0 : decide (1 ≤ a0_1) = true := decide_eq_true c2
  clear c2
  by_cases c3 : a0_1 ≤ 1000000000
  ·rw [if_pos c3] at H
   have c3b0 : decide (a0_1 ≤ 1000000000) = true := decide_eq_true c3
   clear c3
   by_cases c4 : a0_0 ≥ (-1000000000)
   ·rw [if_pos c4] at H
    have c4b0 : decide ((-1000000000) ≤ a0_0) = true := decide_eq_true c4
    clear c4
    by_cases c5 : a0_0 ≤ 1000000000
    ·rw [if_pos c5] at H
     have c5b0 : decide (a0_0 ≤ 1000000000) = true := decide_eq_true c5
     clear c5
     replace H := Option.bind_eq_some_iff.mp H
     obtain ⟨t122, A60, H⟩ := H
     replace H : ((rational_size.f a0_1).bind fun t123 => ((rational_common.f t122 t123).bind fun t124 => (some (t124 == 1)))) = some r := H
     have A6 := Aside0.mk A60
     clear A60
     replace H := Option.bind_eq_some_iff.mp H
     obtain ⟨t123, A70, H⟩ := H
     replace H : ((rational_common.f t122 t123).bind fun t124 => (some (t124 == 1))) = some r := H
     have A7 := Aside0.mk A70
     clear A70
     replace H := Option.bind_eq_some_iff.mp H
     obtain ⟨t124, A80, H⟩ := H
     replace H : (some (t124 == 1)) = some r := H
     have A8 := Aside0.mk A80
     clear A80
     obtain rfl := Option.some.inj H
     go_enter Try.func74, Try.ntmps74
     go_wp2_with (first | ((with_reducible refine gate_dst (N := 1) rfl ?_); refine box_event ?hg (N := 1) ?hd (cs := #[.int .i64 a0_0, .int .i64 a0_1]) (t := 94) ?hr ?_; (case hd => rfl); (case hg => rfl); (case hr => first | (go_simp; done) | (go_simp; rfl)); intro gb121 hg w9 hbox hb; have n0_ := Aside0.mk (below_step (bb_ HB) hb); have n1_ := Aside0.mk (hbox); have n2_ := Aside0.mk ((by rw [hg]; exact (below_size (bb_ HB)) : w.heap.size ≤ gb121)); have n3_ := Aside0.mk ((by rw [hg]; exact (below_size (bb_ HB)) : w.heap.size ≤ gb121)); clear HB; have HB := n0_; have BK121 := n1_; have GW121 := n2_; have GE121 := n3_; clear n0_ n1_ n2_ n3_; clear hb hbox hg; have hcz10_0 : w9.cell? ⟨gb121, 0, none⟩ = some (.int .i64 a0_0) := (blk_cell BK121.out 0).trans rfl; have hcz10_1 : w9.cell? ⟨gb121, 1, none⟩ = some (.int .i64 a0_1) := (blk_cell BK121.out 1).trans rfl; have hfz10_0 := blk_frozen BK121.out 0; have hfz10_1 := blk_frozen BK121.out 1) | (go_at_call 90; (with_reducible refine (rational_size.calls a0_0 t122 _ A6.out).mono ?_); rintro e w' ⟨rfl, ⟨nd, rfl⟩⟩; (try first | exact ⟨rfl, _, World.drewN_drewN _ _ _⟩ | exact ⟨rfl, _, Eq.trans (World.drewN_drewN _ _ _) (congrArg (World.drewN _) (Nat.add_assoc _ _ _))⟩)) | (go_at_call 90; (with_reducible refine (rational_size.calls a0_1 t123 _ A7.out).mono ?_); rintro e w' ⟨rfl, ⟨nd, rfl⟩⟩; (try first | exact ⟨rfl, _, World.drewN_drewN _ _ _⟩ | exact ⟨rfl, _, Eq.trans (World.drewN_drewN _ _ _) (congrArg (World.drewN _) (Nat.add_assoc _ _ _))⟩)) | (go_at_call 89; (with_reducible refine (rational_common.calls t122 t123 t124 _ A8.out).mono ?_); rintro e w' ⟨rfl, ⟨nd, rfl⟩⟩; (try first | exact ⟨rfl, _, World.drewN_drewN _ _ _⟩ | exact ⟨rfl, _, Eq.trans (World.drewN_drewN _ _ _) (congrArg (World.drewN _) (Nat.add_assoc _ _ _))⟩)))
     repeat (go_quiet (first | ((with_reducible refine gate_dst (N := 1) rfl ?_); refine box_event ?hg (N := 1) ?hd (cs := #[.int .i64 a0_0, .int .i64 a0_1]) (t := 94) ?hr ?_; (case hd => rfl); (case hg => rfl); (case hr => first | (go_simp; done) | (go_simp; rfl)); intro gb121 hg w9 hbox hb; have n0_ := Aside0.mk (below_step (bb_ HB) hb); have n1_ := Aside0.mk (hbox); have n2_ := Aside0.mk ((by rw [hg]; exact (below_size (bb_ HB)) : w.heap.size ≤ gb121)); have n3_ := Aside0.mk ((by rw [hg]; exact (below_size (bb_ HB)) : w.heap.size ≤ gb121)); clear HB; have HB := n0_; have BK121 := n1_; have GW121 := n2_; have GE121 := n3_; clear n0_ n1_ n2_ n3_; clear hb hbox hg; have hcz10_0 : w9.cell? ⟨gb121, 0, none⟩ = some (.int .i64 a0_0) := (blk_cell BK121.out 0).trans rfl; have hcz10_1 : w9.cell? ⟨gb121, 1, none⟩ = some (.int .i64 a0_1) := (blk_cell BK121.out 1).trans rfl; have hfz10_0 := blk_frozen BK121.out 0; have hfz10_1 := blk_frozen BK121.out 1) | (go_at_call 90; (with_reducible refine (rational_size.calls a0_0 t122 _ A6.out).mono ?_); rintro e w' ⟨rfl, ⟨nd, rfl⟩⟩; (try first | exact ⟨rfl, _, World.drewN_drewN _ _ _⟩ | exact ⟨rfl, _, Eq.trans (World.drewN_drewN _ _ _) (congrArg (World.drewN _) (Nat.add_assoc _ _ _))⟩)) | (go_at_call 90; (with_reducible refine (rational_size.calls a0_1 t123 _ A7.out).mono ?_); rintro e w' ⟨rfl, ⟨nd, rfl⟩⟩; (try first | exact ⟨rfl, _, World.drewN_drewN _ _ _⟩ | exact ⟨rfl, _, Eq.trans (World.drewN_drewN _ _ _) (congrArg (World.drewN _) (Nat.add_assoc _ _ _))⟩)) | (go_at_call 89; (with_reducible refine (rational_common.calls t122 t123 t124 _ A8.out).mono ?_); rintro e w' ⟨rfl, ⟨nd, rfl⟩⟩; (try first | exact ⟨rfl, _, World.drewN_drewN _ _ _⟩ | exact ⟨rfl, _, Eq.trans (World.drewN_drewN _ _ _) (congrArg (World.drewN _) (Nat.add_assoc _ _ _))⟩))); try go_wp2_with (first | ((with_reducible refine gate_dst (N := 1) rfl ?_); refine box_event ?hg (N := 1) ?hd (cs := #[.int .i64 a0_0, .int .i64 a0_1]) (t := 94) ?hr ?_; (case hd => rfl); (case hg => rfl); (case hr => first | (go_simp; done) | (go_simp; rfl)); intro gb121 hg w9 hbox hb; have n0_ := Aside0.mk (below_step (bb_ HB) hb); have n1_ := Aside0.mk (hbox); have n2_ := Aside0.mk ((by rw [hg]; exact (below_size (bb_ HB)) : w.heap.size ≤ gb121)); have n3_ := Aside0.mk ((by rw [hg]; exact (below_size (bb_ HB)) : w.heap.size ≤ gb121)); clear HB; have HB := n0_; have BK121 := n1_; have GW121 := n2_; have GE121 := n3_; clear n0_ n1_ n2_ n3_; clear hb hbox hg; have hcz10_0 : w9.cell? ⟨gb121, 0, none⟩ = some (.int .i64 a0_0) := (blk_cell BK121.out 0).trans rfl; have hcz10_1 : w9.cell? ⟨gb121, 1, none⟩ = some (.int .i64 a0_1) := (blk_cell BK121.out 1).trans rfl; have hfz10_0 := blk_frozen BK121.out 0; have hfz10_1 := blk_frozen BK121.out 1) | (go_at_call 90; (with_reducible refine (rational_size.calls a0_0 t122 _ A6.out).mono ?_); rintro e w' ⟨rfl, ⟨nd, rfl⟩⟩; (try first | exact ⟨rfl, _, World.drewN_drewN _ _ _⟩ | exact ⟨rfl, _, Eq.trans (World.drewN_drewN _ _ _) (congrArg (World.drewN _) (Nat.add_assoc _ _ _))⟩)) | (go_at_call 90; (with_reducible refine (rational_size.calls a0_1 t123 _ A7.out).mono ?_); rintro e w' ⟨rfl, ⟨nd, rfl⟩⟩; (try first | exact ⟨rfl, _, World.drewN_drewN _ _ _⟩ | exact ⟨rfl, _, Eq.trans (World.drewN_drewN _ _ _) (congrArg (World.drewN _) (Nat.add_assoc _ _ _))⟩)) | (go_at_call 89; (with_reducible refine (rational_common.calls t122 t123 t124 _ A8.out).mono ?_); rintro e w' ⟨rfl, ⟨nd, rfl⟩⟩; (try first | exact ⟨rfl, _, World.drewN_drewN _ _ _⟩ | exact ⟨rfl, _, Eq.trans (World.drewN_drewN _ _ _) (congrArg (World.drewN _) (Nat.add_assoc _ _ _))⟩))))
     go_ret
     exact ⟨ew_, by repeat (first | (with_reducible first | exact HB.out | apply below_alloc | apply pw_below_drewN | apply below_drew1 | refine below_set ?_ GE121.out) | exact HB.out)⟩
    ·rw [if_neg c5] at H
     have c5b0 : decide (a0_0 ≤ 1000000000) = false := decide_eq_false c5
     clear c5
     obtain rfl := Option.some.inj H
     go_enter Try.func74, Try.ntmps74
     go_wp2_with (first | ((with_reducible refine gate_dst (N := 1) rfl ?_); refine box_event ?hg (N := 1) ?hd (cs := #[.int .i64 a0_0, .int .i64 a0_1]) (t := 94) ?hr ?_; (case hd => rfl); (case hg => rfl); (case hr => first | (go_simp; done) | (go_simp; rfl)); intro gb121 hg w11 hbox hb; have n0_ := Aside0.mk (below_step (bb_ HB) hb); have n1_ := Aside0.mk (hbox); have n2_ := Aside0.mk ((by rw [hg]; exact (below_size (bb_ HB)) : w.heap.size ≤ gb121)); have n3_ := Aside0.mk ((by rw [hg]; exact (below_size (bb_ HB)) : w.heap.size ≤ gb121)); clear HB; have HB := n0_; have BK121 := n1_; have GW121 := n2_; have GE121 := n3_; clear n0_ n1_ n2_ n3_; clear hb hbox hg; have hcz12_0 : w11.cell? ⟨gb121, 0, none⟩ = some (.int .i64 a0_0) := (blk_cell BK121.out 0).trans rfl; have hcz12_1 : w11.cell? ⟨gb121, 1, none⟩ = some (.int .i64 a0_1) := (blk_cell BK121.out 1).trans rfl; have hfz12_0 := blk_frozen BK121.out 0; have hfz12_1 := blk_frozen BK121.out 1))
     repeat (go_quiet (first | ((with_reducible refine gate_dst (N := 1) rfl ?_); refine box_event ?hg (N := 1) ?hd (cs := #[.int .i64 a0_0, .int .i64 a0_1]) (t := 94) ?hr ?_; (case hd => rfl); (case hg => rfl); (case hr => first | (go_simp; done) | (go_simp; rfl)); intro gb121 hg w11 hbox hb; have n0_ := Aside0.mk (below_step (bb_ HB) hb); have n1_ := Aside0.mk (hbox); have n2_ := Aside0.mk ((by rw [hg]; exact (below_size (bb_ HB)) : w.heap.size ≤ gb121)); have n3_ := Aside0.mk ((by rw [hg]; exact (below_size (bb_ HB)) : w.heap.size ≤ gb121)); clear HB; have HB := n0_; have BK121 := n1_; have GW121 := n2_; have GE121 := n3_; clear n0_ n1_ n2_ n3_; clear hb hbox hg; have hcz12_0 : w11.cell? ⟨gb121, 0, none⟩ = some (.int .i64 a0_0) := (blk_cell BK121.out 0).trans rfl; have hcz12_1 : w11.cell? ⟨gb121, 1, none⟩ = some (.int .i64 a0_1) := (blk_cell BK121.out 1).trans rfl; have hfz12_0 := blk_frozen BK121.out 0; have hfz12_1 := blk_frozen BK121.out 1)); try go_wp2_with (first | ((with_reducible refine gate_dst (N := 1) rfl ?_); refine box_event ?hg (N := 1) ?hd (cs := #[.int .i64 a0_0, .int .i64 a0_1]) (t := 94) ?hr ?_; (case hd => rfl); (case hg => rfl); (case hr => first | (go_simp; done) | (go_simp; rfl)); intro gb121 hg w11 hbox hb; have n0_ := Aside0.mk (below_step (bb_ HB) hb); have n1_ := Aside0.mk (hbox); have n2_ := Aside0.mk ((by rw [hg]; exact (below_size (bb_ HB)) : w.heap.size ≤ gb121)); have n3_ := Aside0.mk ((by rw [hg]; exact (below_size (bb_ HB)) : w.heap.size ≤ gb121)); clear HB; have HB := n0_; have BK121 := n1_; have GW121 := n2_; have GE121 := n3_; clear n0_ n1_ n2_ n3_; clear hb hbox hg; have hcz12_0 : w11.cell? ⟨gb121, 0, none⟩ = some (.int .i64 a0_0) := (blk_cell BK121.out 0).trans rfl; have hcz12_1 : w11.cell? ⟨gb121, 1, none⟩ = some (.int .i64 a0_1) := (blk_cell BK121.out 1).trans rfl; have hfz12_0 := blk_frozen BK121.out 0; have hfz12_1 := blk_frozen BK121.out 1)))
     go_ret
     exact ⟨ew_, by repeat (first | (with_reducible first | exact HB.out | apply below_alloc | apply pw_below_drewN | apply below_drew1 | refine below_set ?_ GE121.out) | exact HB.out)⟩
   ·rw [if_neg c4] at H
    have c4b0 : decide ((-1000000000) ≤ a0_0) = false := decide_eq_false c4
    clear c4
    obtain rfl := Option.some.inj H
    go_enter Try.func74, Try.ntmps74
    go_wp2_with (first | ((with_reducible refine gate_dst (N := 1) rfl ?_); refine box_event ?hg (N := 1) ?hd (cs := #[.int .i64 a0_0, .int .i64 a0_1]) (t := 94) ?hr ?_; (case hd => rfl); (case hg => rfl); (case hr => first | (go_simp; done) | (go_simp; rfl)); intro gb121 hg w13 hbox hb; have n0_ := Aside0.mk (below_step (bb_ HB) hb); have n1_ := Aside0.mk (hbox); have n2_ := Aside0.mk ((by rw [hg]; exact (below_size (bb_ HB)) : w.heap.size ≤ gb121)); have n3_ := Aside0.mk ((by rw [hg]; exact (below_size (bb_ HB)) : w.heap.size ≤ gb121)); clear HB; have HB := n0_; have BK121 := n1_; have GW121 := n2_; have GE121 := n3_; clear n0_ n1_ n2_ n3_; clear hb hbox hg; have hcz14_0 : w13.cell? ⟨gb121, 0, none⟩ = some (.int .i64 a0_0) := (blk_cell BK121.out 0).trans rfl; have hcz14_1 : w13.cell? ⟨gb121, 1, none⟩ = some (.int .i64 a0_1) := (blk_cell BK121.out 1).trans rfl; have hfz14_0 := blk_frozen BK121.out 0; have hfz14_1 := blk_frozen BK121.out 1))
    repeat (go_quiet (first | ((with_reducible refine gate_dst (N := 1) rfl ?_); refine box_event ?hg (N := 1) ?hd (cs := #[.int .i64 a0_0, .int .i64 a0_1]) (t := 94) ?hr ?_; (case hd => rfl); (case hg => rfl); (case hr => first | (go_simp; done) | (go_simp; rfl)); intro gb121 hg w13 hbox hb; have n0_ := Aside0.mk (below_step (bb_ HB) hb); have n1_ := Aside0.mk (hbox); have n2_ := Aside0.mk ((by rw [hg]; exact (below_size (bb_ HB)) : w.heap.size ≤ gb121)); have n3_ := Aside0.mk ((by rw [hg]; exact (below_size (bb_ HB)) : w.heap.size ≤ gb121)); clear HB; have HB := n0_; have BK121 := n1_; have GW121 := n2_; have GE121 := n3_; clear n0_ n1_ n2_ n3_; clear hb hbox hg; have hcz14_0 : w13.cell? ⟨gb121, 0, none⟩ = some (.int .i64 a0_0) := (blk_cell BK121.out 0).trans rfl; have hcz14_1 : w13.cell? ⟨gb121, 1, none⟩ = some (.int .i64 a0_1) := (blk_cell BK121.out 1).trans rfl; have hfz14_0 := blk_frozen BK121.out 0; have hfz14_1 := blk_frozen BK121.out 1)); try go_wp2_with (first | ((with_reducible refine gate_dst (N := 1) rfl ?_); refine box_event ?hg (N := 1) ?hd (cs := #[.int .i64 a0_0, .int .i64 a0_1]) (t := 94) ?hr ?_; (case hd => rfl); (case hg => rfl); (case hr => first | (go_simp; done) | (go_simp; rfl)); intro gb121 hg w13 hbox hb; have n0_ := Aside0.mk (below_step (bb_ HB) hb); have n1_ := Aside0.mk (hbox); have n2_ := Aside0.mk ((by rw [hg]; exact (below_size (bb_ HB)) : w.heap.size ≤ gb121)); have n3_ := Aside0.mk ((by rw [hg]; exact (below_size (bb_ HB)) : w.heap.size ≤ gb121)); clear HB; have HB := n0_; have BK121 := n1_; have GW121 := n2_; have GE121 := n3_; clear n0_ n1_ n2_ n3_; clear hb hbox hg; have hcz14_0 : w13.cell? ⟨gb121, 0, none⟩ = some (.int .i64 a0_0) := (blk_cell BK121.out 0).trans rfl; have hcz14_1 : w13.cell? ⟨gb121, 1, none⟩ = some (.int .i64 a0_1) := (blk_cell BK121.out 1).trans rfl; have hfz14_0 := blk_frozen BK121.out 0; have hfz14_1 := blk_frozen BK121.out 1)))
    go_ret
    exact ⟨ew_, by repeat (first | (with_reducible first | exact HB.out | apply below_alloc | apply pw_below_drewN | apply below_drew1 | refine below_set ?_ GE121.out) | exact HB.out)⟩
  ·rw [if_neg c3] at H
   have c3b0 : decide (a0_1 ≤ 1000000000) = false := decide_eq_false c3
   clear c3
   obtain rfl := Option.some.inj H
   go_enter Try.func74, Try.ntmps74
   go_wp2_with (first | ((with_reducible refine gate_dst (N := 1) rfl ?_); refine box_event ?hg (N := 1) ?hd (cs := #[.int .i64 a0_0, .int .i64 a0_1]) (t := 94) ?hr ?_; (case hd => rfl); (case hg => rfl); (case hr => first | (go_simp; done) | (go_simp; rfl)); intro gb121 hg w15 hbox hb; have n0_ := Aside0.mk (below_step (bb_ HB) hb); have n1_ := Aside0.mk (hbox); have n2_ := Aside0.mk ((by rw [hg]; exact (below_size (bb_ HB)) : w.heap.size ≤ gb121)); have n3_ := Aside0.mk ((by rw [hg]; exact (below_size (bb_ HB)) : w.heap.size ≤ gb121)); clear HB; have HB := n0_; have BK121 := n1_; have GW121 := n2_; have GE121 := n3_; clear n0_ n1_ n2_ n3_; clear hb hbox hg; have hcz16_0 : w15.cell? ⟨gb121, 0, none⟩ = some (.int .i64 a0_0) := (blk_cell BK121.out 0).trans rfl; have hcz16_1 : w15.cell? ⟨gb121, 1, none⟩ = some (.int .i64 a0_1) := (blk_cell BK121.out 1).trans rfl; have hfz16_0 := blk_frozen BK121.out 0; have hfz16_1 := blk_frozen BK121.out 1))
   repeat (go_quiet (first | ((with_reducible refine gate_dst (N := 1) rfl ?_); refine box_event ?hg (N := 1) ?hd (cs := #[.int .i64 a0_0, .int .i64 a0_1]) (t := 94) ?hr ?_; (case hd => rfl); (case hg => rfl); (case hr => first | (go_simp; done) | (go_simp; rfl)); intro gb121 hg w15 hbox hb; have n0_ := Aside0.mk (below_step (bb_ HB) hb); have n1_ := Aside0.mk (hbox); have n2_ := Aside0.mk ((by rw [hg]; exact (below_size (bb_ HB)) : w.heap.size ≤ gb121)); have n3_ := Aside0.mk ((by rw [hg]; exact (below_size (bb_ HB)) : w.heap.size ≤ gb121)); clear HB; have HB := n0_; have BK121 := n1_; have GW121 := n2_; have GE121 := n3_; clear n0_ n1_ n2_ n3_; clear hb hbox hg; have hcz16_0 : w15.cell? ⟨gb121, 0, none⟩ = some (.int .i64 a0_0) := (blk_cell BK121.out 0).trans rfl; have hcz16_1 : w15.cell? ⟨gb121, 1, none⟩ = some (.int .i64 a0_1) := (blk_cell BK121.out 1).trans rfl; have hfz16_0 := blk_frozen BK121.out 0; have hfz16_1 := blk_frozen BK121.out 1)); try go_wp2_with (first | ((with_reducible refine gate_dst (N := 1) rfl ?_); refine box_event ?hg (N := 1) ?hd (cs := #[.int .i64 a0_0, .int .i64 a0_1]) (t := 94) ?hr ?_; (case hd => rfl); (case hg => rfl); (case hr => first | (go_simp; done) | (go_simp; rfl)); intro gb121 hg w15 hbox hb; have n0_ := Aside0.mk (below_step (bb_ HB) hb); have n1_ := Aside0.mk (hbox); have n2_ := Aside0.mk ((by rw [hg]; exact (below_size (bb_ HB)) : w.heap.size ≤ gb121)); have n3_ := Aside0.mk ((by rw [hg]; exact (below_size (bb_ HB)) : w.heap.size ≤ gb121)); clear HB; have HB := n0_; have BK121 := n1_; have GW121 := n2_; have GE121 := n3_; clear n0_ n1_ n2_ n3_; clear hb hbox hg; have hcz16_0 : w15.cell? ⟨gb121, 0, none⟩ = some (.int .i64 a0_0) := (blk_cell BK121.out 0).trans rfl; have hcz16_1 : w15.cell? ⟨gb121, 1, none⟩ = some (.int .i64 a0_1) := (blk_cell BK121.out 1).trans rfl; have hfz16_0 := blk_frozen BK121.out 0; have hfz16_1 := blk_frozen BK121.out 1)))
   go_ret
   exact ⟨ew_, by repeat (first | (with_reducible first | exact HB.out | apply below_alloc | apply pw_below_drewN | apply below_drew1 | refine below_set ?_ GE121.out) | exact HB.out)⟩
 ·rw [if_neg c2] at H
  have c2b0 : decide (1 ≤ a0_1) = false := decide_eq_false c2
  clear c2
  obtain rfl := Option.some.inj H
  go_enter Try.func74, Try.ntmps74
  go_wp2_with (first | ((with_reducible refine gate_dst (N := 1) rfl ?_); refine box_event ?hg (N := 1) ?hd (cs := #[.int .i64 a0_0, .int .i64 a0_1]) (t := 94) ?hr ?_; (case hd => rfl); (case hg => rfl); (case hr => first | (go_simp; done) | (go_simp; rfl)); intro gb121 hg w17 hbox hb; have n0_ := Aside0.mk (below_step (bb_ HB) hb); have n1_ := Aside0.mk (hbox); have n2_ := Aside0.mk ((by rw [hg]; exact (below_size (bb_ HB)) : w.heap.size ≤ gb121)); have n3_ := Aside0.mk ((by rw [hg]; exact (below_size (bb_ HB)) : w.heap.size ≤ gb121)); clear HB; have HB := n0_; have BK121 := n1_; have GW121 := n2_; have GE121 := n3_; clear n0_ n1_ n2_ n3_; clear hb hbox hg; have hcz18_0 : w17.cell? ⟨gb121, 0, none⟩ = some (.int .i64 a0_0) := (blk_cell BK121.out 0).trans rfl; have hcz18_1 : w17.cell? ⟨gb121, 1, none⟩ = some (.int .i64 a0_1) := (blk_cell BK121.out 1).trans rfl; have hfz18_0 := blk_frozen BK121.out 0; have hfz18_1 := blk_frozen BK121.out 1))
  repeat (go_quiet (first | ((with_reducible refine gate_dst (N := 1) rfl ?_); refine box_event ?hg (N := 1) ?hd (cs := #[.int .i64 a0_0, .int .i64 a0_1]) (t := 94) ?hr ?_; (case hd => rfl); (case hg => rfl); (case hr => first | (go_simp; done) | (go_simp; rfl)); intro gb121 hg w17 hbox hb; have n0_ := Aside0.mk (below_step (bb_ HB) hb); have n1_ := Aside0.mk (hbox); have n2_ := Aside0.mk ((by rw [hg]; exact (below_size (bb_ HB)) : w.heap.size ≤ gb121)); have n3_ := Aside0.mk ((by rw [hg]; exact (below_size (bb_ HB)) : w.heap.size ≤ gb121)); clear HB; have HB := n0_; have BK121 := n1_; have GW121 := n2_; have GE121 := n3_; clear n0_ n1_ n2_ n3_; clear hb hbox hg; have hcz18_0 : w17.cell? ⟨gb121, 0, none⟩ = some (.int .i64 a0_0) := (blk_cell BK121.out 0).trans rfl; have hcz18_1 : w17.cell? ⟨gb121, 1, none⟩ = some (.int .i64 a0_1) := (blk_cell BK121.out 1).trans rfl; have hfz18_0 := blk_frozen BK121.out 0; have hfz18_1 := blk_frozen BK121.out 1)); try go_wp2_with (first | ((with_reducible refine gate_dst (N := 1) rfl ?_); refine box_event ?hg (N := 1) ?hd (cs := #[.int .i64 a0_0, .int .i64 a0_1]) (t := 94) ?hr ?_; (case hd => rfl); (case hg => rfl); (case hr => first | (go_simp; done) | (go_simp; rfl)); intro gb121 hg w17 hbox hb; have n0_ := Aside0.mk (below_step (bb_ HB) hb); have n1_ := Aside0.mk (hbox); have n2_ := Aside0.mk ((by rw [hg]; exact (below_size (bb_ HB)) : w.heap.size ≤ gb121)); have n3_ := Aside0.mk ((by rw [hg]; exact (below_size (bb_ HB)) : w.heap.size ≤ gb121)); clear HB; have HB := n0_; have BK121 := n1_; have GW121 := n2_; have GE121 := n3_; clear n0_ n1_ n2_ n3_; clear hb hbox hg; have hcz18_0 : w17.cell? ⟨gb121, 0, none⟩ = some (.int .i64 a0_0) := (blk_cell BK121.out 0).trans rfl; have hcz18_1 : w17.cell? ⟨gb121, 1, none⟩ = some (.int .i64 a0_1) := (blk_cell BK121.out 1).trans rfl; have hfz18_0 := blk_frozen BK121.out 0; have hfz18_1 := blk_frozen BK121.out 1)))
  go_ret
  exact ⟨ew_, by repeat (first | (with_reducible first | exact HB.out | apply below_alloc | apply pw_below_drewN | apply below_drew1 | refine below_set ?_ GE121.out) | exact HB.out)⟩
end
section
def money_Scale.j0 : Nat → Int → Bool → Int → Int → Option (Int × Int)
 | 0, _, _, _, _ => none
 | k + 1, x0, x16, x126000, x126001 => if x16 = true then (some (0, 1)) else (if (wrap64 (x0 * x126000)) < 0 then (if (wrap64 (2 * x126001)) = 0 then (none) else ((money_amount_valid.f (wrap64 (Int.tdiv (wrap64 ((wrap64 (2 * (wrap64 (x0 * x126000)))) + (wrap64 (-x126001)))) (wrap64 (2 * x126001))))).bind fun t128 => (if t128 = true then (some (wrap64 (Int.tdiv (wrap64 ((wrap64 (2 * (wrap64 (x0 * x126000)))) + (wrap64 (-x126001)))) (wrap64 (2 * x126001))), 0)) else (some (0, 3))))) else (if (wrap64 (2 * x126001)) = 0 then (none) else ((money_amount_valid.f (wrap64 (Int.tdiv (wrap64 ((wrap64 (2 * (wrap64 (x0 * x126000)))) + x126001)) (wrap64 (2 * x126001))))).bind fun t129 => (if t129 = true then (some (wrap64 (Int.tdiv (wrap64 ((wrap64 (2 * (wrap64 (x0 * x126000)))) + x126001)) (wrap64 (2 * x126001))), 0)) else (some (0, 3))))))
def money_Scale.f (k : Nat) (a0 : Int) (a1_0 : Int) (a1_1 : Int) : Option (Int × Int) := (money_amount_valid.f a0).bind fun t126 => (if t126 = true then ((rational_Valid.f a1_0 a1_1).bind fun t127 => (money_Scale.j0 k a0 (!t127) a1_0 a1_1)) else (money_Scale.j0 k a0 true a1_0 a1_1))
theorem money_Scale.calls (k : Nat) (a0 : Int) (a1_0 : Int) (a1_1 : Int) (r1 : Int) (r2 : Int) (w : World) (h : money_Scale.f k a0 a1_0 a1_1 = some (r1, r2)) :
  Calls Try.prog 55 #[.int .i64 a0, .agg #[.int .i64 a1_0, .int .i64 a1_1]] w fun e w' => e = .returned (.tuple #[.int .i64 r1, .int .i64 r2]) ∧ Below w.heap.size w w' := by
 have hu94 := Try.underlying94
 have HB := Aside0.mk (Below.refl w.heap.size w)
 have H : ((money_amount_valid.f a0).bind fun t126 => (if t126 = true then ((rational_Valid.f a1_0 a1_1).bind fun t127 => (money_Scale.j0 k a0 (!t127) a1_0 a1_1)) else (money_Scale.j0 k a0 true a1_0 a1_1))) = some (r1, r2) := h
 clear h
 have HC3 := Aside0.mk H
 clear H
 go_enter Try.func55, Try.ntmps55
 go_upto_region 1 with (first | ((with_reducible refine gate_dst (N := 3) rfl ?_); refine box_event ?hg (N := 3) ?hd (cs := #[.int .i64 a1_0, .int .i64 a1_1]) (t := 94) ?hr ?_; (case hd => rfl); (case hg => rfl); (case hr => first | (go_simp; done) | (go_simp; rfl)); intro gb125 hg w4 hbox hb; have n0_ := Aside0.mk (below_step (bb_ HB) hb); have n1_ := Aside0.mk (hbox); have n2_ := Aside0.mk ((by rw [hg]; exact (below_size (bb_ HB)) : w.heap.size ≤ gb125)); have n3_ := Aside0.mk ((by rw [hg]; exact (below_size (bb_ HB)) : w.heap.size ≤ gb125)); clear HB; have HB := n0_; have BK125 := n1_; have GW125 := n2_; have GE125 := n3_; clear n0_ n1_ n2_ n3_; clear hb hbox hg))
 repeat (go_quiet (first | ((with_reducible refine gate_dst (N := 3) rfl ?_); refine box_event ?hg (N := 3) ?hd (cs := #[.int .i64 a1_0, .int .i64 a1_1]) (t := 94) ?hr ?_; (case hd => rfl); (case hg => rfl); (case hr => first | (go_simp; done) | (go_simp; rfl)); intro gb125 hg w4 hbox hb; have n0_ := Aside0.mk (below_step (bb_ HB) hb); have n1_ := Aside0.mk (hbox); have n2_ := Aside0.mk ((by rw [hg]; exact (below_size (bb_ HB)) : w.heap.size ≤ gb125)); have n3_ := Aside0.mk ((by rw [hg]; exact (below_size (bb_ HB)) : w.heap.size ≤ gb125)); clear HB; have HB := n0_; have BK125 := n1_; have GW125 := n2_; have GE125 := n3_; clear n0_ n1_ n2_ n3_; clear hb hbox hg)); go_upto_region 1 with (first | ((with_reducible refine gate_dst (N := 3) rfl ?_); refine box_event ?hg (N := 3) ?hd (cs := #[.int .i64 a1_0, .int .i64 a1_1]) (t := 94) ?hr ?_; (case hd => rfl); (case hg => rfl); (case hr => first | (go_simp; done) | (go_simp; rfl)); intro gb125 hg w4 hbox hb; have n0_ := Aside0.mk (below_step (bb_ HB) hb); have n1_ := Aside0.mk (hbox); have n2_ := Aside0.mk ((by rw [hg]; exact (below_size (bb_ HB)) : w.heap.size ≤ gb125)); have n3_ := Aside0.mk ((by rw [hg]; exact (below_size (bb_ HB)) : w.heap.size ≤ gb125)); clear HB; have HB := n0_; have BK125 := n1_; have GW125 := n2_; have GE125 := n3_; clear n0_ n1_ n2_ n3_; clear hb hbox hg)))
 (try simp only [Act.put, sI_, s0_, sS_])
 go_cut [16] (fun v16 wc => ∃ (kq : Nat) (x16_2 : Bool), v16 = .bool x16_2 ∧ Aside0 (money_Scale.j0 kq a0 x16_2 a1_0 a1_1 = some (r1, r2)) ∧ Aside0 (kq ≤ k) ∧ Aside0 (wc.heap[gb125]? = some (.cells #[.int .i64 a1_0, .int .i64 a1_1] 94 (0, 0))) ∧ Aside0 (Below w.heap.size w wc))
 case first =>
  have H := HC3.out
  clear HC3
  replace H := Option.bind_eq_some_iff.mp H
  obtain ⟨t126, A50, H⟩ := H
  replace H : (if t126 = true then ((rational_Valid.f a1_0 a1_1).bind fun t127 => (money_Scale.j0 k a0 (!t127) a1_0 a1_1)) else (money_Scale.j0 k a0 true a1_0 a1_1)) = some (r1, r2) := H
  have A5 := Aside0.mk A50
  clear A50
  by_cases c6 : t126 = true
  ·subst c6
   have H1 : ((rational_Valid.f a1_0 a1_1).bind fun t127 => (money_Scale.j0 k a0 (!t127) a1_0 a1_1)) = some (r1, r2) := by rw [if_pos rfl] at H; exact H
   clear H
   have H := H1
   clear H1
   replace H := Option.bind_eq_some_iff.mp H
   obtain ⟨t127, A70, H⟩ := H
   replace H : (money_Scale.j0 k a0 (!t127) a1_0 a1_1) = some (r1, r2) := H
   have A7 := Aside0.mk A70
   clear A70
   have H' := Aside0.mk H
   clear H
   go_wp2_with (first | (go_at_call 73; (with_reducible refine (money_amount_valid.calls a0 true _ A5.out).mono ?_); rintro e w' ⟨rfl, ⟨nd, rfl⟩⟩; (try first | exact ⟨rfl, _, World.drewN_drewN _ _ _⟩ | exact ⟨rfl, _, Eq.trans (World.drewN_drewN _ _ _) (congrArg (World.drewN _) (Nat.add_assoc _ _ _))⟩); have hcz8_0 : w4.cell? ⟨gb125, 0, none⟩ = some (.int .i64 a1_0) := (blk_cell BK125.out 0).trans rfl; have hcz8_1 : w4.cell? ⟨gb125, 1, none⟩ = some (.int .i64 a1_1) := (blk_cell BK125.out 1).trans rfl; have hfz8_0 := blk_frozen BK125.out 0; have hfz8_1 := blk_frozen BK125.out 1) | (go_at_call 74; (with_reducible refine (rational_Valid.calls a1_0 a1_1 t127 _ A7.out).mono ?_); rintro e w9 ⟨rfl, hb⟩; have n0_ := Aside0.mk (blk_below (g := gb125) (o := .cells #[.int .i64 a1_0, .int .i64 a1_1] 94 (0, 0)) (kk_ BK125) hb); have n1_ := Aside0.mk (below_step (bs_ HB GE125.out) hb); clear BK125; clear HB; have BK125 := n0_; have HB := n1_; clear n0_ n1_; (try clear hb); (try clear hb2); (try clear hk); (try clear hi)))
   repeat (go_quiet (first | (go_at_call 73; (with_reducible refine (money_amount_valid.calls a0 true _ A5.out).mono ?_); rintro e w' ⟨rfl, ⟨nd, rfl⟩⟩; (try first | exact ⟨rfl, _, World.drewN_drewN _ _ _⟩ | exact ⟨rfl, _, Eq.trans (World.drewN_drewN _ _ _) (congrArg (World.drewN _) (Nat.add_assoc _ _ _))⟩); have hcz8_0 : w4.cell? ⟨gb125, 0, none⟩ = some (.int .i64 a1_0) := (blk_cell BK125.out 0).trans rfl; have hcz8_1 : w4.cell? ⟨gb125, 1, none⟩ = some (.int .i64 a1_1) := (blk_cell BK125.out 1).trans rfl; have hfz8_0 := blk_frozen BK125.out 0; have hfz8_1 := blk_frozen BK125.out 1) | (go_at_call 74; (with_reducible refine (rational_Valid.calls a1_0 a1_1 t127 _ A7.out).mono ?_); rintro e w9 ⟨rfl, hb⟩; have n0_ := Aside0.mk (blk_below (g := gb125) (o := .cells #[.int .i64 a1_0, .int .i64 a1_1] 94 (0, 0)) (kk_ BK125) hb); have n1_ := Aside0.mk (below_step (bs_ HB GE125.out) hb); clear BK125; clear HB; have BK125 := n0_; have HB := n1_; clear n0_ n1_; (try clear hb); (try clear hb2); (try clear hk); (try clear hi))); try go_wp2_with (first | (go_at_call 73; (with_reducible refine (money_amount_valid.calls a0 true _ A5.out).mono ?_); rintro e w' ⟨rfl, ⟨nd, rfl⟩⟩; (try first | exact ⟨rfl, _, World.drewN_drewN _ _ _⟩ | exact ⟨rfl, _, Eq.trans (World.drewN_drewN _ _ _) (congrArg (World.drewN _) (Nat.add_assoc _ _ _))⟩); have hcz8_0 : w4.cell? ⟨gb125, 0, none⟩ = some (.int .i64 a1_0) := (blk_cell BK125.out 0).trans rfl; have hcz8_1 : w4.cell? ⟨gb125, 1, none⟩ = some (.int .i64 a1_1) := (blk_cell BK125.out 1).trans rfl; have hfz8_0 := blk_frozen BK125.out 0; have hfz8_1 := blk_frozen BK125.out 1) | (go_at_call 74; (with_reducible refine (rational_Valid.calls a1_0 a1_1 t127 _ A7.out).mono ?_); rintro e w9 ⟨rfl, hb⟩; have n0_ := Aside0.mk (blk_below (g := gb125) (o := .cells #[.int .i64 a1_0, .int .i64 a1_1] 94 (0, 0)) (kk_ BK125) hb); have n1_ := Aside0.mk (below_step (bs_ HB GE125.out) hb); clear BK125; clear HB; have BK125 := n0_; have HB := n1_; clear n0_ n1_; (try clear hb); (try clear hb2); (try clear hk); (try clear hi))))
   go_meet
   case rel => exact ⟨_, (!t127), sd_, H', ⟨by first | omega | exact Nat.le_refl _⟩, ⟨by (with_reducible repeat (first | refine blk_drewN ?_ _ | refine blk_drew ?_ | refine blk_alloc ?_ _)); exact BK125.out⟩, ⟨by repeat (first | (with_reducible first | exact HB.out | apply below_alloc | apply pw_below_drewN | apply below_drew1 | refine below_set ?_ GE125.out) | exact HB.out)⟩⟩
  ·replace c6 := Bool.eq_false_iff.mpr c6
   subst c6
   have H1 : (money_Scale.j0 k a0 true a1_0 a1_1) = some (r1, r2) := by rw [if_neg (show ¬ (false = true) by decide)] at H; exact H
   clear H
   have H := H1
   clear H1
   have H' := Aside0.mk H
   clear H
   go_wp2_with (first | (go_at_call 73; (with_reducible refine (money_amount_valid.calls a0 false _ A5.out).mono ?_); rintro e w' ⟨rfl, ⟨nd, rfl⟩⟩; (try first | exact ⟨rfl, _, World.drewN_drewN _ _ _⟩ | exact ⟨rfl, _, Eq.trans (World.drewN_drewN _ _ _) (congrArg (World.drewN _) (Nat.add_assoc _ _ _))⟩)))
   repeat (go_quiet (first | (go_at_call 73; (with_reducible refine (money_amount_valid.calls a0 false _ A5.out).mono ?_); rintro e w' ⟨rfl, ⟨nd, rfl⟩⟩; (try first | exact ⟨rfl, _, World.drewN_drewN _ _ _⟩ | exact ⟨rfl, _, Eq.trans (World.drewN_drewN _ _ _) (congrArg (World.drewN _) (Nat.add_assoc _ _ _))⟩))); try go_wp2_with (first | (go_at_call 73; (with_reducible refine (money_amount_valid.calls a0 false _ A5.out).mono ?_); rintro e w' ⟨rfl, ⟨nd, rfl⟩⟩; (try first | exact ⟨rfl, _, World.drewN_drewN _ _ _⟩ | exact ⟨rfl, _, Eq.trans (World.drewN_drewN _ _ _) (congrArg (World.drewN _) (Nat.add_assoc _ _ _))⟩))))
   go_meet
   case rel => exact ⟨_, (true), sd_, H', ⟨by first | omega | exact Nat.le_refl _⟩, ⟨by (with_reducible repeat (first | refine blk_drewN ?_ _ | refine blk_drew ?_ | refine blk_alloc ?_ _)); exact BK125.out⟩, ⟨by repeat (first | (with_reducible first | exact HB.out | apply below_alloc | apply pw_below_drewN | apply below_drew1 | refine below_set ?_ GE125.out) | exact HB.out)⟩⟩
 case rest =>
  clear HC3
  try clear p2
  try clear c5
  try clear c6
  try clear hcz8_0
  try clear hcz8_1
  try clear hfz8_0
  try clear hfz8_1
  obtain ⟨kq, x16_2, rfl, HA, HJ2, BK125, HB⟩ := hcut
  cases kq with
  | zero => exact absurd HA.out (by simp [money_Scale.j0])
  | succ kj2 =>
   have H := HA.out
   clear HA
   simp only [money_Scale.j0] at H
   by_cases c10 : x16_2 = true
   ·subst c10
    have H1 : (some (0, 1)) = some (r1, r2) := by rw [if_pos rfl] at H; exact H
    clear H
    have H := H1
    clear H1
    simp only [Option.some.injEq, Prod.mk.injEq] at H
    obtain ⟨rfl, rfl⟩ := H
    go_wp2
    repeat (go_quiet (fail); try go_wp2)
    go_ret2
    exact ⟨ew_, by repeat (first | (with_reducible first | exact HB.out | apply below_alloc | apply pw_below_drewN | apply below_drew1 | refine below_set ?_ GE125.out) | exact HB.out)⟩
   ·replace c10 := Bool.eq_false_iff.mpr c10
    subst c10
    have H1 : (if (wrap64 (a0 * a1_0)) < 0 then (if (wrap64 (2 * a1_1)) = 0 then (none) else ((money_amount_valid.f (wrap64 (Int.tdiv (wrap64 ((wrap64 (2 * (wrap64 (a0 * a1_0)))) + (wrap64 (-a1_1)))) (wrap64 (2 * a1_1))))).bind fun t128 => (if t128 = true then (some (wrap64 (Int.tdiv (wrap64 ((wrap64 (2 * (wrap64 (a0 * a1_0)))) + (wrap64 (-a1_1)))) (wrap64 (2 * a1_1))), 0)) else (some (0, 3))))) else (if (wrap64 (2 * a1_1)) = 0 then (none) else ((money_amount_valid.f (wrap64 (Int.tdiv (wrap64 ((wrap64 (2 * (wrap64 (a0 * a1_0)))) + a1_1)) (wrap64 (2 * a1_1))))).bind fun t129 => (if t129 = true then (some (wrap64 (Int.tdiv (wrap64 ((wrap64 (2 * (wrap64 (a0 * a1_0)))) + a1_1)) (wrap64 (2 * a1_1))), 0)) else (some (0, 3)))))) = some (r1, r2) := by rw [if_neg (show ¬ (false = true) by decide)] at H; exact H
    clear H
    have H := H1
    clear H1
    by_cases c11 : (wrap64 (a0 * a1_0)) < 0
    ·rw [if_pos c11] at H
     have c11b0 : decide ((wrap64 (a0 * a1_0)) < 0) = true := decide_eq_true c11
     clear c11
     by_cases c12 : (wrap64 (2 * a1_1)) = 0
     ·rw [if_pos c12] at H
      exact absurd H (by simp)
     ·rw [if_neg c12] at H
      have c12b0 : ((wrap64 (2 * a1_1)) == 0) = false := beq_eq_false_iff_ne.mpr c12
      have c12b1 : ((wrap64 (2 * a1_1)) != 0) = true := bne_iff_ne.mpr c12
      replace H := Option.bind_eq_some_iff.mp H
      obtain ⟨t128, A130, H⟩ := H
      replace H : (if t128 = true then (some (wrap64 (Int.tdiv (wrap64 ((wrap64 (2 * (wrap64 (a0 * a1_0)))) + (wrap64 (-a1_1)))) (wrap64 (2 * a1_1))), 0)) else (some (0, 3))) = some (r1, r2) := H
      have A13 := Aside0.mk A130
      clear A130
      by_cases c14 : t128 = true
      ·subst c14
       have H1 : (some (wrap64 (Int.tdiv (wrap64 ((wrap64 (2 * (wrap64 (a0 * a1_0)))) + (wrap64 (-a1_1)))) (wrap64 (2 * a1_1))), 0)) = some (r1, r2) := by rw [if_pos rfl] at H; exact H
       clear H
       have H := H1
       clear H1
       simp only [Option.some.injEq, Prod.mk.injEq] at H
       obtain ⟨rfl, rfl⟩ := H
       have hcz15_0 : wc.cell? ⟨gb125, 0, none⟩ = some (.int .i64 a1_0) := (blk_cell BK125.out 0).trans rfl
       have hcz15_1 : wc.cell? ⟨gb125, 1, none⟩ = some (.int .i64 a1_1) := (blk_cell BK125.out 1).trans rfl
       have hfz15_0 := blk_frozen BK125.out 0
       have hfz15_1 := blk_frozen BK125.out 1
       go_wp2_with (first | (go_at_call 73; (with_reducible refine (money_amount_valid.calls (wrap64 (Int.tdiv (wrap64 ((wrap64 (2 * (wrap64 (a0 * a1_0)))) + (wrap64 (-a1_1)))) (wrap64 (2 * a1_1)))) true _ A13.out).mono ?_); rintro e w' ⟨rfl, ⟨nd, rfl⟩⟩; (try first | exact ⟨rfl, _, World.drewN_drewN _ _ _⟩ | exact ⟨rfl, _, Eq.trans (World.drewN_drewN _ _ _) (congrArg (World.drewN _) (Nat.add_assoc _ _ _))⟩)))
       repeat (go_quiet (first | (go_at_call 73; (with_reducible refine (money_amount_valid.calls (wrap64 (Int.tdiv (wrap64 ((wrap64 (2 * (wrap64 (a0 * a1_0)))) + (wrap64 (-a1_1)))) (wrap64 (2 * a1_1)))) true _ A13.out).mono ?_); rintro e w' ⟨rfl, ⟨nd, rfl⟩⟩; (try first | exact ⟨rfl, _, World.drewN_drewN _ _ _⟩ | exact ⟨rfl, _, Eq.trans (World.drewN_drewN _ _ _) (congrArg (World.drewN _) (Nat.add_assoc _ _ _))⟩))); try go_wp2_with (first | (go_at_call 73; (with_reducible refine (money_amount_valid.calls (wrap64 (Int.tdiv (wrap64 ((wrap64 (2 * (wrap64 (a0 * a1_0)))) + (wrap64 (-a1_1)))) (wrap64 (2 * a1_1)))) true _ A13.out).mono ?_); rintro e w' ⟨rfl, ⟨nd, rfl⟩⟩; (try first | exact ⟨rfl, _, World.drewN_drewN _ _ _⟩ | exact ⟨rfl, _, Eq.trans (World.drewN_drewN _ _ _) (congrArg (World.drewN _) (Nat.add_assoc _ _ _))⟩))))
       go_ret2
       exact ⟨ew_, by repeat (first | (with_reducible first | exact HB.out | apply below_alloc | apply pw_below_drewN | apply below_drew1 | refine below_set ?_ GE125.out) | exact HB.out)⟩
      ·replace c14 := Bool.eq_false_iff.mpr c14
       subst c14
       have H1 : (some (0, 3)) = some (r1, r2) := by rw [if_neg (show ¬ (false = true) by decide)] at H; exact H
       clear H
       have H := H1
       clear H1
       simp only [Option.some.injEq, Prod.mk.injEq] at H
       obtain ⟨rfl, rfl⟩ := H
       have hcz16_0 : wc.cell? ⟨gb125, 0, none⟩ = some (.int .i64 a1_0) := (blk_cell BK125.out 0).trans rfl
       have hcz16_1 : wc.cell? ⟨gb125, 1, none⟩ = some (.int .i64 a1_1) := (blk_cell BK125.out 1).trans rfl
       have hfz16_0 := blk_frozen BK125.out 0
       have hfz16_1 := blk_frozen BK125.out 1
       go_wp2_with (first | (go_at_call 73; (with_reducible refine (money_amount_valid.calls (wrap64 (Int.tdiv (wrap64 ((wrap64 (2 * (wrap64 (a0 * a1_0)))) + (wrap64 (-a1_1)))) (wrap64 (2 * a1_1)))) false _ A13.out).mono ?_); rintro e w' ⟨rfl, ⟨nd, rfl⟩⟩; (try first | exact ⟨rfl, _, World.drewN_drewN _ _ _⟩ | exact ⟨rfl, _, Eq.trans (World.drewN_drewN _ _ _) (congrArg (World.drewN _) (Nat.add_assoc _ _ _))⟩)))
       repeat (go_quiet (first | (go_at_call 73; (with_reducible refine (money_amount_valid.calls (wrap64 (Int.tdiv (wrap64 ((wrap64 (2 * (wrap64 (a0 * a1_0)))) + (wrap64 (-a1_1)))) (wrap64 (2 * a1_1)))) false _ A13.out).mono ?_); rintro e w' ⟨rfl, ⟨nd, rfl⟩⟩; (try first | exact ⟨rfl, _, World.drewN_drewN _ _ _⟩ | exact ⟨rfl, _, Eq.trans (World.drewN_drewN _ _ _) (congrArg (World.drewN _) (Nat.add_assoc _ _ _))⟩))); try go_wp2_with (first | (go_at_call 73; (with_reducible refine (money_amount_valid.calls (wrap64 (Int.tdiv (wrap64 ((wrap64 (2 * (wrap64 (a0 * a1_0)))) + (wrap64 (-a1_1)))) (wrap64 (2 * a1_1)))) false _ A13.out).mono ?_); rintro e w' ⟨rfl, ⟨nd, rfl⟩⟩; (try first | exact ⟨rfl, _, World.drewN_drewN _ _ _⟩ | exact ⟨rfl, _, Eq.trans (World.drewN_drewN _ _ _) (congrArg (World.drewN _) (Nat.add_assoc _ _ _))⟩))))
       go_ret2
       exact ⟨ew_, by repeat (first | (with_reducible first | exact HB.out | apply below_alloc | apply pw_below_drewN | apply below_drew1 | refine below_set ?_ GE125.out) | exact HB.out)⟩
    ·rw [if_neg c11] at H
     have c11b0 : decide ((wrap64 (a0 * a1_0)) < 0) = false := decide_eq_false c11
     clear c11
     by_cases c17 : (wrap64 (2 * a1_1)) = 0
     ·rw [if_pos c17] at H
      exact absurd H (by simp)
     ·rw [if_neg c17] at H
      have c17b0 : ((wrap64 (2 * a1_1)) == 0) = false := beq_eq_false_iff_ne.mpr c17
      have c17b1 : ((wrap64 (2 * a1_1)) != 0) = true := bne_iff_ne.mpr c17
      replace H := Option.bind_eq_some_iff.mp H
      obtain ⟨t129, A180, H⟩ := H
      replace H : (if t129 = true then (some (wrap64 (Int.tdiv (wrap64 ((wrap64 (2 * (wrap64 (a0 * a1_0)))) + a1_1)) (wrap64 (2 * a1_1))), 0)) else (some (0, 3))) = some (r1, r2) := H
      have A18 := Aside0.mk A180
      clear A180
      by_cases c19 : t129 = true
      ·subst c19
       have H1 : (some (wrap64 (Int.tdiv (wrap64 ((wrap64 (2 * (wrap64 (a0 * a1_0)))) + a1_1)) (wrap64 (2 * a1_1))), 0)) = some (r1, r2) := by rw [if_pos rfl] at H; exact H
       clear H
       have H := H1
       clear H1
       simp only [Option.some.injEq, Prod.mk.injEq] at H
       obtain ⟨rfl, rfl⟩ := H
       have hcz20_0 : wc.cell? ⟨gb125, 0, none⟩ = some (.int .i64 a1_0) := (blk_cell BK125.out 0).trans rfl
       have hcz20_1 : wc.cell? ⟨gb125, 1, none⟩ = some (.int .i64 a1_1) := (blk_cell BK125.out 1).trans rfl
       have hfz20_0 := blk_frozen BK125.out 0
       have hfz20_1 := blk_frozen BK125.out 1
       go_wp2_with (first | (go_at_call 73; (with_reducible refine (money_amount_valid.calls (wrap64 (Int.tdiv (wrap64 ((wrap64 (2 * (wrap64 (a0 * a1_0)))) + a1_1)) (wrap64 (2 * a1_1)))) true _ A18.out).mono ?_); rintro e w' ⟨rfl, ⟨nd, rfl⟩⟩; (try first | exact ⟨rfl, _, World.drewN_drewN _ _ _⟩ | exact ⟨rfl, _, Eq.trans (World.drewN_drewN _ _ _) (congrArg (World.drewN _) (Nat.add_assoc _ _ _))⟩)))
       repeat (go_quiet (first | (go_at_call 73; (with_reducible refine (money_amount_valid.calls (wrap64 (Int.tdiv (wrap64 ((wrap64 (2 * (wrap64 (a0 * a1_0)))) + a1_1)) (wrap64 (2 * a1_1)))) true _ A18.out).mono ?_); rintro e w' ⟨rfl, ⟨nd, rfl⟩⟩; (try first | exact ⟨rfl, _, World.drewN_drewN _ _ _⟩ | exact ⟨rfl, _, Eq.trans (World.drewN_drewN _ _ _) (congrArg (World.drewN _) (Nat.add_assoc _ _ _))⟩))); try go_wp2_with (first | (go_at_call 73; (with_reducible refine (money_amount_valid.calls (wrap64 (Int.tdiv (wrap64 ((wrap64 (2 * (wrap64 (a0 * a1_0)))) + a1_1)) (wrap64 (2 * a1_1)))) true _ A18.out).mono ?_); rintro e w' ⟨rfl, ⟨nd, rfl⟩⟩; (try first | exact ⟨rfl, _, World.drewN_drewN _ _ _⟩ | exact ⟨rfl, _, Eq.trans (World.drewN_drewN _ _ _) (congrArg (World.drewN _) (Nat.add_assoc _ _ _))⟩))))
       go_ret2
       exact ⟨ew_, by repeat (first | (with_reducible first | exact HB.out | apply below_alloc | apply pw_below_drewN | apply below_drew1 | refine below_set ?_ GE125.out) | exact HB.out)⟩
      ·replace c19 := Bool.eq_false_iff.mpr c19
       subst c19
       have H1 : (some (0, 3)) = some (r1, r2) := by rw [if_neg (show ¬ (false = true) by decide)] at H; exact H
       clear H
       have H := H1
       clear H1
       simp only [Option.some.injEq, Prod.mk.injEq] at H
       obtain ⟨rfl, rfl⟩ := H
       have hcz21_0 : wc.cell? ⟨gb125, 0, none⟩ = some (.int .i64 a1_0) := (blk_cell BK125.out 0).trans rfl
       have hcz21_1 : wc.cell? ⟨gb125, 1, none⟩ = some (.int .i64 a1_1) := (blk_cell BK125.out 1).trans rfl
       have hfz21_0 := blk_frozen BK125.out 0
       have hfz21_1 := blk_frozen BK125.out 1
       go_wp2_with (first | (go_at_call 73; (with_reducible refine (money_amount_valid.calls (wrap64 (Int.tdiv (wrap64 ((wrap64 (2 * (wrap64 (a0 * a1_0)))) + a1_1)) (wrap64 (2 * a1_1)))) false _ A18.out).mono ?_); rintro e w' ⟨rfl, ⟨nd, rfl⟩⟩; (try first | exact ⟨rfl, _, World.drewN_drewN _ _ _⟩ | exact ⟨rfl, _, Eq.trans (World.drewN_drewN _ _ _) (congrArg (World.drewN _) (Nat.add_assoc _ _ _))⟩)))
       repeat (go_quiet (first | (go_at_call 73; (with_reducible refine (money_amount_valid.calls (wrap64 (Int.tdiv (wrap64 ((wrap64 (2 * (wrap64 (a0 * a1_0)))) + a1_1)) (wrap64 (2 * a1_1)))) false _ A18.out).mono ?_); rintro e w' ⟨rfl, ⟨nd, rfl⟩⟩; (try first | exact ⟨rfl, _, World.drewN_drewN _ _ _⟩ | exact ⟨rfl, _, Eq.trans (World.drewN_drewN _ _ _) (congrArg (World.drewN _) (Nat.add_assoc _ _ _))⟩))); try go_wp2_with (first | (go_at_call 73; (with_reducible refine (money_amount_valid.calls (wrap64 (Int.tdiv (wrap64 ((wrap64 (2 * (wrap64 (a0 * a1_0)))) + a1_1)) (wrap64 (2 * a1_1)))) false _ A18.out).mono ?_); rintro e w' ⟨rfl, ⟨nd, rfl⟩⟩; (try first | exact ⟨rfl, _, World.drewN_drewN _ _ _⟩ | exact ⟨rfl, _, Eq.trans (World.drewN_drewN _ _ _) (congrArg (World.drewN _) (Nat.add_assoc _ _ _))⟩))))
       go_ret2
       exact ⟨ew_, by repeat (first | (with_reducible first | exact HB.out | apply below_alloc | apply pw_below_drewN | apply below_drew1 | refine below_set ?_ GE125.out) | exact HB.out)⟩
end
section
def charges_right.l0 : Nat → Int → Int → Int → Int → Int → Option (Int)
 | 0, _, _, _, _, _ => none
 | k + 1, x0, x1, x2, x7, x8 => if x8 > 0 then (if x8 = 0 then (none) else (charges_right.l0 k x0 x1 x2 x8 (Int.tmod x7 x8))) else (if x7 = 0 then (none) else ((money_Scale.f k x0 (wrap64 (Int.tdiv x2 x7)) (wrap64 (Int.tdiv x1 x7))).bind fun bt130 => (some bt130.1)))
def charges_right.f (k : Nat) (a0 : Int) (a1 : Int) (a2 : Int) : Option (Int) := charges_right.l0 k a0 a1 a2 a2 a1
def charges_right.T4 : Bool × List (List Nat × List Nat) := (true, [([], []), ([], []), ([], []), ([1, 2], [1, 2]), ([], []), ([], []), ([4, 5], [4, 5]), ([3, 6], [3, 6]), ([0, 7], [0, 7]), ([8], [8]), ([9], [9]), ([9], [9]), ([10, 8, 0, 1, 2, 3, 4, 5, 6, 7, 8, 9, 10], [10]), ([11, 12, 0, 1, 2, 3, 4, 5, 6, 7, 8, 9, 10, 11, 12], [11])])
def charges_right.B4 : List Nat := [0, 0, 0, 6, 0, 0, 48, 126, 255, 511, 1023, 1023, 2047, 8191]
theorem charges_right.tab4 : rtab .any (opsOf Try.f32 4) = charges_right.T4 := by kernel_rfl
theorem charges_right.bits4 : waitsOk charges_right.T4.2 charges_right.B4 = true := by kernel_rfl
theorem charges_right.calls (k : Nat) (a0 : Int) (a1 : Int) (a2 : Int) (r : Int) (w : World) (h : charges_right.f k a0 a1 a2 = some r) :
  Calls Try.prog 32 #[.int .i64 a0, .int .i64 a1, .int .i64 a2] w fun e w' => e = .returned (.int .i64 r) ∧ Below w.heap.size w w' := by
 have hu94 := Try.underlying94
 have HB := Aside0.mk (Below.refl w.heap.size w)
 have H : (charges_right.l0 k a0 a1 a2 a2 a1) = some r := h
 clear h
 have H' := Aside0.mk H
 clear H
 go_enter Try.func32, Try.ntmps32
 go_wp2
 go_loopg [7, 8] k (fun kq v7 v8 w' => ∃ (x7_1 : Int) (x8_1 : Int), v7 = .int .i64 x7_1 ∧ v8 = .int .i64 x8_1 ∧ Aside0 (charges_right.l0 kq a0 a1 a2 x7_1 x8_1 = some r) ∧ Aside0 (kq ≤ k) ∧ Aside0 (Below w.heap.size w w'))
 case atStart => exact ⟨(a2), (a1), sd_, sd_, H', ⟨Nat.le_refl _⟩, ⟨by repeat (first | (with_reducible first | exact HB.out | apply below_alloc | apply pw_below_drewN | apply below_drew1) | exact HB.out)⟩⟩
 case round =>
  clear H'
  try clear p2
  try clear c3
  obtain ⟨x7_1, x8_1, rfl, rfl, HA, HK1, HB⟩ := hrel
  cases gk with
  | zero => exact absurd HA.out (by simp [charges_right.l0])
  | succ k1 =>
   have H := HA.out
   clear HA
   simp only [charges_right.l0] at H
   by_cases c4 : x8_1 > 0
   ·rw [if_pos c4] at H
    have c4b0 : decide (0 < x8_1) = true := decide_eq_true c4
    clear c4
    by_cases c5 : x8_1 = 0
    ·rw [if_pos c5] at H
     exact absurd H (by simp)
    ·rw [if_neg c5] at H
     have c5b0 : (x8_1 == 0) = false := beq_eq_false_iff_ne.mpr c5
     have c5b1 : (x8_1 != 0) = true := bne_iff_ne.mpr c5
     have H' := Aside0.mk H
     clear H
     try go_wp2
     have n0_ := Aside0.mk (below_drew1 HB.out)
     clear HB
     have HB := n0_
     clear n0_
     refine start_ (n := 6) (S := fun w' => True) (ds := []) #[n_, n_, n_, n_, n_, n_] (by kernel_rfl) rfl rfl trivial (fun hHeld => ?_)
     generalize wr.drew = w6 at HB hHeld ⊢
     refine pv_ 0 15 (w_ 6 1) rfl ?_
     refine pv_ 1 16 (w_ 6 3) rfl ?_
     refine pv_ 2 17 (w_ 6 7) rfl ?_
     refine pv_ 3 18 (w_ 6 15) rfl ?_
     refine pv_ 4 7 (w_ 6 31) rfl ?_
     refine pv_ 5 8 (w_ 6 63) rfl ?_
     refine done_ (by kernel_rfl) ?_
     try go_wp2
     go_roundg k1
     case measure => have := HK1.out; omega
     case rel => exact ⟨(x8_1), (Int.tmod x7_1 x8_1), sd_, sd_, H', ⟨by have := HK1.out; omega⟩, ⟨by repeat (first | (with_reducible first | exact HB.out | apply below_alloc | apply pw_below_drewN | apply below_drew1) | exact HB.out)⟩⟩
   ·rw [if_neg c4] at H
    have c4b0 : decide (0 < x8_1) = false := decide_eq_false c4
    clear c4
    by_cases c7 : x7_1 = 0
    ·rw [if_pos c7] at H
     exact absurd H (by simp)
    ·rw [if_neg c7] at H
     have c7b0 : (x7_1 == 0) = false := beq_eq_false_iff_ne.mpr c7
     have c7b1 : (x7_1 != 0) = true := bne_iff_ne.mpr c7
     replace H := Option.bind_eq_some_iff.mp H
     obtain ⟨⟨t130, t131⟩, A80, H⟩ := H
     replace H : (some t130) = some r := H
     have A8 := Aside0.mk A80
     clear A80
     obtain rfl := Option.some.inj H
     try go_wp2
     have n0_ := Aside0.mk (below_drew1 HB.out)
     clear HB
     have HB := n0_
     clear n0_
     refine start_ (n := 14) (S := fun w' => True) (ds := []) #[n_, n_, n_, n_, n_, n_, n_, n_, n_, n_, n_, n_, n_, n_] (by kernel_rfl) rfl rfl trivial (fun hHeld => ?_); refine with_tabW charges_right.tab4 charges_right.bits4 (fun HT_ HW_ => ?_)
     generalize wr.drew = w9 at HB hHeld ⊢
     refine pu_ 0 20 (w_ 14 1) rfl HT_ ?_
     refine pu_ 1 21 (w_ 14 3) rfl HT_ ?_
     refine pu_ 2 22 (w_ 14 7) rfl HT_ ?_
     refine pu_ 3 23 (w_ 14 15) rfl HT_ ?_
     refine pu_ 4 24 (w_ 14 31) rfl HT_ ?_
     refine pu_ 5 25 (w_ 14 63) rfl HT_ ?_
     refine pu_ 6 26 (w_ 14 127) rfl HT_ ?_
     refine pu_ 7 27 (w_ 14 255) rfl HT_ ?_
     refine one_ (i := 8) (N := some 28) (w_ 14 511) rfl rfl (one_of HT_.out (by kernel_rfl)) (by decide) (fun K hK => ?_)
     refine goes_ Try.func55 (by kernel_rfl) rfl #[.int .i64 a0, .agg #[.int .i64 (wrap64 (Int.tdiv a2 x7_1)), .int .i64 (wrap64 (Int.tdiv a1 x7_1))]] (by rfl) rfl rfl (by (try simp only [List.map_toArray, List.map_cons, List.map_nil]); first | done | rfl | (simp only [List.length_drop, List.length_take]; rfl)) ?_
     with_reducible refine (money_Scale.calls k1 a0 (wrap64 (Int.tdiv a2 x7_1)) (wrap64 (Int.tdiv a1 x7_1)) t130 t131 _ A8.out).mono ?_
     rintro e w10 ⟨rfl, hb⟩
     refine ⟨_, rfl, ?_⟩
     have n0_ := Aside0.mk (below_step (bb_ HB) hb)
     clear HB
     have HB := n0_
     clear n0_
     (try clear hb)
     (try clear hb2)
     (try clear hk)
     (try clear hi)
     refine hK.out _ _ trivial (fun hHeld => ?_)
     clear hK K
     refine norm_ (a' := ?_) ?_ ?_
     rotate_left
     ·show Act.put _ (some 28) _ = _
      simp only [Act.put, sI_, s0_, sS_, i64_w, i32_w]
      rfl
     refine pu_ 9 19 (w_ 14 1023) rfl HT_ ?_
     refine pu_ 10 29 (w_ 14 2047) rfl HT_ ?_
     refine pu_ 11 30 (w_ 14 4095) rfl HT_ ?_
     refine pu_ 12 9 (w_ 14 8191) rfl HT_ ?_
     refine pu_ 13 10 (w_ 14 16383) rfl HT_ ?_
     refine done_ (done_of HT_.out (by kernel_rfl)) ?_
     try go_wp2
     go_ret
     exact ⟨ew_, by repeat (first | (with_reducible first | exact HB.out | apply below_alloc | apply pw_below_drewN | apply below_drew1) | exact HB.out)⟩
end
section
open Go.Proofs.YthjjabcbngffoaaH
def rightV (c t v : Int) : Int := (2 * (c * v) + t) / (2 * t)
theorem common_gcd : ∀ (b a k : Nat), b < k → rational_common.l0 k (a : Int) (b : Int) = some ((Nat.gcd a b : Nat) : Int) := by
 intro b
 induction b using Nat.strongRecOn with
 | ind b ih =>
  intro a k hk
  obtain ⟨k, rfl⟩ : ∃ m, k = m + 1 := ⟨k - 1, by omega⟩
  simp only [rational_common.l0]
  by_cases h : b = 0
  ·subst h
   rw [if_pos (by rfl), Nat.gcd_zero_right]
  ·rw [if_neg (by omega), show Int.tmod (a : Int) (b : Int) = ((a % b : Nat) : Int) from by rw [Int.tmod_eq_emod_of_nonneg (by omega)]; rfl]
   rw [ih (a % b) (Nat.mod_lt _ (by omega)) b k (by have := Nat.mod_lt a (show 0 < b by omega); omega)]
   rw [Nat.gcd_comm a b, Nat.gcd_rec b a, Nat.gcd_comm]
theorem common_f (a b : Nat) : rational_common.f (a : Int) (b : Int) = some ((Nat.gcd a b : Nat) : Int) := by
 unfold rational_common.f
 exact common_gcd b a _ (by simp)
theorem size_f {n : Int} (h0 : 0 ≤ n) (h1 : n ≤ 1000000000) : rational_size.f n = some n := by
 unfold rational_size.f
 rw [if_neg (by omega)]
 congr 1
 simp only [IntKind.wrap, IntKind.signed, IntKind.bits, Bool.false_and, Bool.false_eq_true, if_false]
 omega
theorem rvalid_f {n d : Nat} (h1 : 1 ≤ d) (h2 : d ≤ 1000000000) (h3 : n ≤ 1000000000) (hg : Nat.gcd n d = 1) : rational_Valid.f (n : Int) (d : Int) = some true := by
 unfold rational_Valid.f
 rw [if_pos (by omega), if_pos (by omega), if_pos (by omega), if_pos (by omega), size_f (by omega) (by omega), size_f (by omega) (by omega)]
 simp only [Option.bind_some, common_f, hg]
 rfl
theorem amount_f {c : Int} (h0 : -1000000000 ≤ c) (h1 : c ≤ 1000000000) : money_amount_valid.f c = some true := by
 unfold money_amount_valid.f
 rw [if_pos h0, decide_eq_true h1]
theorem wrapid {n : Int} (h1 : -9223372036854775808 ≤ n) (h2 : n ≤ 9223372036854775807) : wrap64 n = n := by unfold wrap64; omega
theorem scale_f (k : Nat) {c : Int} {n d : Nat} (hc : 0 ≤ c) (hc1 : c ≤ 1000000000) (h1 : 1 ≤ d) (h2 : d ≤ 1000000000) (h3 : n ≤ d) (hg : Nat.gcd n d = 1) :
  money_Scale.f (k + 1) c (n : Int) (d : Int) = some ((2 * (c * n) + d) / (2 * d), 0) := by
 have hcn0 : 0 ≤ c * n := Int.mul_nonneg hc (by omega)
 have hcn1 : c * n ≤ 1000000000 * d := Int.le_trans (Int.mul_le_mul_of_nonneg_right hc1 (by omega)) (Int.mul_le_mul_of_nonneg_left (by omega) (by omega))
 have hq0 : 0 ≤ (2 * (c * n) + d) / (2 * d) := Int.ediv_nonneg (by omega) (by omega)
 have hq1 : (2 * (c * n) + d) / (2 * d) ≤ 1000000000 := by
  have : (2 * (c * n) + d) / (2 * d) < 1000000001 := Int.ediv_lt_of_lt_mul (by omega) (by omega)
  omega
 unfold money_Scale.f
 rw [amount_f (by omega) hc1]
 simp only [Option.bind_some, if_true, rvalid_f h1 h2 (by omega) hg]
 have w1 : wrap64 (c * n) = c * n := wrapid (by omega) (by omega)
 have w2 : wrap64 (2 * (d : Int)) = 2 * d := wrapid (by omega) (by omega)
 have w3 : wrap64 (2 * (c * n)) = 2 * (c * n) := wrapid (by omega) (by omega)
 have w4 : wrap64 (2 * (c * n) + d) = 2 * (c * n) + d := wrapid (by omega) (by omega)
 have w5 : Int.tdiv (2 * (c * n) + d) (2 * d) = (2 * (c * n) + d) / (2 * d) := Int.tdiv_eq_ediv_of_nonneg (by omega)
 have w6 : wrap64 ((2 * (c * n) + d) / (2 * d)) = (2 * (c * n) + d) / (2 * d) := wrapid (by omega) (by omega)
 have n1 : ¬ (c * n < 0) := by omega
 have n2 : ¬ (2 * (d : Int) = 0) := by omega
 simp only [money_Scale.j0, Bool.not_true, Bool.false_eq_true, if_false, w1, w2, w3, w4, w5, w6, n1, n2, amount_f (by omega : (-1000000000 : Int) ≤ (2 * (c * n) + d) / (2 * d)) hq1, Option.bind_some, if_true]
theorem right_l0 {c : Int} {t v : Nat} (hc : 0 ≤ c) (hc1 : c ≤ 1000000000) (ht : 1 ≤ t) (ht1 : t ≤ 1000000000) (hv : v ≤ t) : ∀ (b a k : Nat), Nat.gcd a b = Nat.gcd v t → b + 2 ≤ k → charges_right.l0 k c (t : Int) (v : Int) (a : Int) (b : Int) = some (rightV c t v) := by
 intro b
 induction b using Nat.strongRecOn with
 | ind b ih =>
  intro a k hg hk
  obtain ⟨k, rfl⟩ : ∃ m, k = m + 1 := ⟨k - 1, by omega⟩
  simp only [charges_right.l0]
  by_cases h : b = 0
  ·subst h
   rw [Nat.gcd_zero_right] at hg
   have ha : 0 < a := by rw [hg]; exact Nat.gcd_pos_of_pos_right _ (by omega)
   have dt : a ∣ t := by rw [hg]; exact Nat.gcd_dvd_right _ _
   have dv : a ∣ v := by rw [hg]; exact Nat.gcd_dvd_left _ _
   obtain ⟨n, hn⟩ := dv
   obtain ⟨d, hd⟩ := dt
   have en : Int.tdiv (v : Int) (a : Int) = (n : Int) := by rw [Int.tdiv_eq_ediv_of_nonneg (by omega), hn]; exact_mod_cast Nat.mul_div_cancel_left n ha
   have ed : Int.tdiv (t : Int) (a : Int) = (d : Int) := by rw [Int.tdiv_eq_ediv_of_nonneg (by omega), hd]; exact_mod_cast Nat.mul_div_cancel_left d ha
   have hd0 : 0 < d := Nat.pos_of_ne_zero (fun e => by rw [e] at hd; omega)
   have hdt : d ≤ t := by rw [hd]; exact Nat.le_mul_of_pos_left d ha
   have hnd : n ≤ d := Nat.le_of_mul_le_mul_left (by rw [← hn, ← hd]; exact hv) ha
   have hco : Nat.gcd n d = 1 := by
    have : a * Nat.gcd n d = a * 1 := by rw [← Nat.gcd_mul_left, ← hn, ← hd, ← hg]; omega
    exact Nat.eq_of_mul_eq_mul_left ha this
   obtain ⟨k, rfl⟩ : ∃ m, k = m + 1 := ⟨k - 1, by omega⟩
   rw [if_neg (by omega), if_neg (by omega), en, ed, wrapid (by omega) (by omega), wrapid (by omega) (by omega), scale_f k hc hc1 (by omega) (by omega) hnd hco]
   simp only [Option.bind_some]
   congr 1
   unfold rightV
   rw [hn, hd]
   have e1 : 2 * (c * ((a * n : Nat) : Int)) + ((a * d : Nat) : Int) = (a : Int) * (2 * (c * n) + d) := by
    rw [Int.natCast_mul, Int.natCast_mul, Int.mul_add, ← Int.mul_assoc c, Int.mul_comm c (a : Int), Int.mul_assoc (a : Int) c, ← Int.mul_assoc 2, Int.mul_comm 2 (a : Int), Int.mul_assoc (a : Int) 2]
   have e2 : 2 * ((a * d : Nat) : Int) = (a : Int) * (2 * d) := by
    rw [Int.natCast_mul, ← Int.mul_assoc, Int.mul_comm 2 (a : Int), Int.mul_assoc]
   rw [e1, e2, Int.mul_ediv_mul_of_pos _ _ (by omega)]
  ·have hb : 0 < b := by omega
   rw [if_pos (by omega), if_neg (by omega), show Int.tmod (a : Int) (b : Int) = ((a % b : Nat) : Int) from by rw [Int.tmod_eq_emod_of_nonneg (by omega)]; rfl]
   exact ih (a % b) (Nat.mod_lt _ hb) b k (by rw [← hg, Nat.gcd_comm a b, Nat.gcd_rec b a, Nat.gcd_comm]) (by have := Nat.mod_lt a hb; omega)
theorem right_f {c t v : Int} (hc : 0 ≤ c) (hc1 : c ≤ 1000000000) (ht : 1 ≤ t) (ht1 : t ≤ 1000000000) (hv0 : 0 ≤ v) (hv : v ≤ t) : ∃ k, charges_right.f k c t v = some (rightV c t v) := by
 obtain ⟨t, rfl⟩ := Int.eq_ofNat_of_zero_le (show 0 ≤ t by omega)
 obtain ⟨v, rfl⟩ := Int.eq_ofNat_of_zero_le hv0
 exact ⟨t + 2, right_l0 hc hc1 (by omega) (by omega) (by omega) t v (t + 2) rfl (Nat.le_refl _)⟩
theorem right_any (c t v : Int) (w : World) (hc : 0 ≤ c) (hc1 : c ≤ 1000000000) (ht : 1 ≤ t) (ht1 : t ≤ 1000000000) (hv0 : 0 ≤ v) (hv : v ≤ t) :
  Calls Try.prog 32 #[.int .i64 c, .int .i64 t, .int .i64 v] w fun e w' => e = .returned (.int .i64 (rightV c t v)) ∧ Below w.heap.size w w' := by
 obtain ⟨k, hk⟩ := right_f hc hc1 ht ht1 hv0 hv
 exact charges_right.calls k c t v _ w hk
def outR (t : Int) (r : S38) : Bool := decide (r.f0 < 0) || decide (r.f0 > r.f1) || decide (r.f1 > t)
theorem outside_calls (lo hi tt : Int) (bq : Nat) (b : Bool) (w : World) (hq : w.heap[bq]? = some (.cells #[.int .i64 tt] 3 (0, 0))) (h : outR tt ⟨lo, hi⟩ = b) :
  Calls Try.prog 30 #[.agg #[.int .i64 lo, .int .i64 hi], .pointer (some ⟨bq, 0, none⟩)] w fun e w' => e = .returned (.bool b) ∧ Below w.heap.size w w' := by
 have hu38 := Try.underlying38
 have HB := Aside0.mk (Below.refl w.heap.size w)
 have hcq : w.cell? ⟨bq, 0, none⟩ = some (.int .i64 tt) := (blk_cell hq 0).trans rfl
 clear hq
 subst h
 by_cases c1 : lo < 0
 ·have d1 : decide (lo < 0) = true := decide_eq_true c1
  have HF := Aside0.mk (show outR tt ⟨lo, hi⟩ = true by simp [outR, c1])
  clear c1
  go_enter Try.func30, Try.ntmps30
  go_wp2_with (first | ((with_reducible refine gate_dst (N := 2) rfl ?_); refine box_event ?hg (N := 2) ?hd (cs := #[.int .i64 lo, .int .i64 hi]) (t := 38) ?hr ?_; (case hd => rfl); (case hg => rfl); (case hr => first | (go_simp; done) | (go_simp; rfl)); intro gb hg_R wb hbox_ hb_; have n0_ := Aside0.mk (below_step HB.out hb_); have BR := Aside0.mk hbox_; have GR := Aside0.mk (show w.heap.size ≤ gb by rw [hg_R]; exact below_size HB.out); have ER := Aside0.mk hg_R; have hcR0 : wb.cell? ⟨gb, 0, none⟩ = some (.int .i64 lo) := (blk_cell hbox_ 0).trans rfl; have hfR0 := blk_frozen hbox_ 0; have hcR1 : wb.cell? ⟨gb, 1, none⟩ = some (.int .i64 hi) := (blk_cell hbox_ 1).trans rfl; have hfR1 := blk_frozen hbox_ 1; replace hcq := (hb_.cell (World.block_lt_of_cell? _ _ hcq)).trans hcq; clear HB hg_R hbox_ hb_; have HB := n0_; clear n0_))
  go_ret
  exact ⟨by rw [HF.out]; first | rfl | (simp; done), HB.out⟩
 by_cases c2 : hi < lo
 ·have d1 : decide (lo < 0) = false := decide_eq_false c1
  have d2 : decide (hi < lo) = true := decide_eq_true c2
  have HF := Aside0.mk (show outR tt ⟨lo, hi⟩ = true by simp [outR, c2])
  clear c1 c2
  go_enter Try.func30, Try.ntmps30
  go_wp2_with (first | ((with_reducible refine gate_dst (N := 2) rfl ?_); refine box_event ?hg (N := 2) ?hd (cs := #[.int .i64 lo, .int .i64 hi]) (t := 38) ?hr ?_; (case hd => rfl); (case hg => rfl); (case hr => first | (go_simp; done) | (go_simp; rfl)); intro gb hg_R wb hbox_ hb_; have n0_ := Aside0.mk (below_step HB.out hb_); have BR := Aside0.mk hbox_; have GR := Aside0.mk (show w.heap.size ≤ gb by rw [hg_R]; exact below_size HB.out); have ER := Aside0.mk hg_R; have hcR0 : wb.cell? ⟨gb, 0, none⟩ = some (.int .i64 lo) := (blk_cell hbox_ 0).trans rfl; have hfR0 := blk_frozen hbox_ 0; have hcR1 : wb.cell? ⟨gb, 1, none⟩ = some (.int .i64 hi) := (blk_cell hbox_ 1).trans rfl; have hfR1 := blk_frozen hbox_ 1; replace hcq := (hb_.cell (World.block_lt_of_cell? _ _ hcq)).trans hcq; clear HB hg_R hbox_ hb_; have HB := n0_; clear n0_))
  go_ret
  exact ⟨by rw [HF.out]; first | rfl | (simp; done), HB.out⟩
 have d1 : decide (lo < 0) = false := decide_eq_false c1
 have d2 : decide (hi < lo) = false := decide_eq_false c2
 have HF := Aside0.mk (show outR tt ⟨lo, hi⟩ = decide (tt < hi) by simp [outR, c1, c2])
 clear c1 c2
 go_enter Try.func30, Try.ntmps30
 go_wp2_with (first | ((with_reducible refine gate_dst (N := 2) rfl ?_); refine box_event ?hg (N := 2) ?hd (cs := #[.int .i64 lo, .int .i64 hi]) (t := 38) ?hr ?_; (case hd => rfl); (case hg => rfl); (case hr => first | (go_simp; done) | (go_simp; rfl)); intro gb hg_R wb hbox_ hb_; have n0_ := Aside0.mk (below_step HB.out hb_); have BR := Aside0.mk hbox_; have GR := Aside0.mk (show w.heap.size ≤ gb by rw [hg_R]; exact below_size HB.out); have ER := Aside0.mk hg_R; have hcR0 : wb.cell? ⟨gb, 0, none⟩ = some (.int .i64 lo) := (blk_cell hbox_ 0).trans rfl; have hfR0 := blk_frozen hbox_ 0; have hcR1 : wb.cell? ⟨gb, 1, none⟩ = some (.int .i64 hi) := (blk_cell hbox_ 1).trans rfl; have hfR1 := blk_frozen hbox_ 1; replace hcq := (hb_.cell (World.block_lt_of_cell? _ _ hcq)).trans hcq; clear HB hg_R hbox_ hb_; have HB := n0_; clear n0_))
 go_ret
 exact ⟨by rw [HF.out]; first | rfl | (simp; done), HB.out⟩
theorem outside_index (A0 : Option Addr) (c0 : Nat) (l0 : List (S38)) (w : World) (hr0 : Kd.C k38 w A0 l0.length l0) (hc0 : l0.length ≤ c0) (hn : l0.length ≤ 140737488355328) (bq : Nat) (tt : Int) (hq : w.heap[bq]? = some (.cells #[.int .i64 tt] 3 (0, 0))) :
 Calls Try.prog 54 #[.slice A0 l0.length c0, .func (.func 30) #[] #[.pointer (some ⟨bq, 0, none⟩)]] w fun e w' => e = .returned (.int .i64 (idxB38 (outR tt) l0)) ∧ Below w.heap.size w w' := by
 have hu38 := Try.underlying38
 have HR0 := Aside0.mk hr0
 have HC0 := Aside0.mk hc0
 have HN := Aside0.mk hn
 clear hr0 hc0 hn
 have HQ := Aside0.mk hq
 clear hq
 have HB := Aside0.mk (Below.refl w.heap.size w)
 go_enter Try.func54, Try.ntmps54
 go_wp2
 go_loopg [8] l0.length (fun kq v8 w' => ∃ (i : Int), v8 = .int .i64 i ∧ Aside0 (∀ j : Nat, j < i.toNat → (outR tt) (rd_T38 l0 j) = false) ∧ Aside0 (0 ≤ i ∧ kq + i.toNat = l0.length) ∧ Aside0 (Below w.heap.size w w'))
 case atStart => exact ⟨0, rfl, ⟨fun j hj => by simp at hj⟩, ⟨by simp⟩, HB⟩
 case round =>
  obtain ⟨i, rfl, HS, HK, HB⟩ := hrel
  by_cases hlt : i < l0.length
  ·have c1 : decide ((i:Int) < (l0.length : Int)) = true := decide_eq_true hlt
   have c2 : (0 ≤ i) = True := eq_true HK.out.1
   have c3 : (i < l0.length) = True := eq_true hlt
   obtain ⟨ad, e, hx0, hx1⟩ := at_T38 HR0.out i HK.out.1 hlt
   cases e
   replace hx0 := (HB.out.cell (World.block_lt_of_cell? w _ hx0)).trans hx0
   replace hx1 := (HB.out.cell (World.block_lt_of_cell? w _ hx1)).trans hx1
   have HL := Aside0.mk hlt
   clear hlt
   have hw1 : i + 1 ≤ 9223372036854775807 := by have := HN.out; have := HL.out; omega
   have hw2 : 0 ≤ i + 1 := by have := HK.out; omega
   cases hp : (outR tt) (rd_T38 l0 i) with
   | true =>
    have HP := Aside0.mk hp
    clear hp
    go_wp2_with (first | ((with_reducible refine (outside_calls (rd_T38 l0 i).f0 (rd_T38 l0 i).f1 tt bq _ _ (blk_below HQ.out HB.out) HP.out).mono ?_); rintro e w1 ⟨rfl, hb⟩; have HB1 := Aside0.mk hb; clear hb))
    go_ret
    refine ⟨?_, HB.out.trans (HB1.out.mono HB.out.size)⟩
    rw [idxB38_some _ _ i HK.out.1 HL.out HP.out HS.out]
    first | rfl | (simp; done)
   | false =>
    have HP := Aside0.mk hp
    clear hp
    go_wp2_with (first | ((with_reducible refine (outside_calls (rd_T38 l0 i).f0 (rd_T38 l0 i).f1 tt bq _ _ (blk_below HQ.out HB.out) HP.out).mono ?_); rintro e w1 ⟨rfl, hb⟩; have HB1 := Aside0.mk hb; clear hb))
    go_roundg (gk - 1)
    case measure => have := HK.out; have := HL.out; omega
    case rel =>
     refine ⟨i + 1, ?_, ⟨fun j hj => ?_⟩, ⟨by have := HK.out; have := HL.out; omega⟩, ⟨HB.out.trans (HB1.out.mono HB.out.size)⟩⟩
     ·first | rfl | (simp; done)
     ·by_cases hji : j < i.toNat
      ·exact HS.out j hji
      ·have : (j : Int) = i := by have := HK.out; omega
       rw [this]
       exact HP.out
  ·have c1 : decide ((i:Int) < (l0.length : Int)) = false := decide_eq_false hlt
   have HL := Aside0.mk hlt
   clear hlt
   go_wp2
   go_ret
   refine ⟨?_, HB.out⟩
   rw [idxB38_none _ _ (fun j hj => HS.out j (by have := HK.out; have := HL.out; omega))]
   first | rfl | (simp; done)
theorem outside_contains (A0 : Option Addr) (c0 : Nat) (l0 : List (S38)) (w : World) (hr0 : Kd.C k38 w A0 l0.length l0) (hc0 : l0.length ≤ c0) (hn : l0.length ≤ 140737488355328) (bq : Nat) (tt : Int) (hq : w.heap[bq]? = some (.cells #[.int .i64 tt] 3 (0, 0))) :
 Calls Try.prog 31 #[.slice A0 l0.length c0, .func (.func 30) #[] #[.pointer (some ⟨bq, 0, none⟩)]] w fun e w' => e = .returned (.bool (l0.any (outR tt))) ∧ Below w.heap.size w w' := by
 have HR0 := Aside0.mk hr0
 clear hr0
 go_enter Try.func31, Try.ntmps31
 go_wp2_with (first | ((with_reducible refine (outside_index _ _ l0 _ HR0.out hc0 hn bq tt hq).mono ?_); rintro e w1 ⟨rfl, hb⟩; have HB1 := Aside0.mk hb; clear hb))
 go_ret
 refine ⟨?_, HB1.out⟩
 rw [← idxB38_any]
 first | rfl | (simp; done)
def chgR (c t : Int) (r : S38) : S38 := ⟨rightV c t r.f0, rightV c t r.f1⟩
def boundsC (c t : Int) (l : List S38) : List S38 × Int :=
 if c < 0 ∨ 1000000000 < c ∨ t < 1 ∨ 1000000000 < t ∨ 200 < l.length ∨ l.any (outR t) = true then ([], 1) else (l.map (chgR c t), 0)
def charges_Bounds.f (a0 a1 : Int) (l2 : List S38) : Option (List S38 × Int) := some (boundsC a0 a1 l2)
theorem boundsC_bad {c t : Int} {l : List S38} (h : c < 0 ∨ 1000000000 < c ∨ t < 1 ∨ 1000000000 < t ∨ 200 < l.length ∨ l.any (outR t) = true) : boundsC c t l = ([], 1) := if_pos h
theorem charges_Bounds.calls (a0 a1 : Int) (A2 : Option Addr) (c2 : Nat) (l2 : List (S38)) (r1 : List (S38)) (r2 : Int) (w : World) (hr2 : Kd.C k38 w A2 l2.length l2) (hc2 : l2.length ≤ c2) (h : charges_Bounds.f a0 a1 l2 = some (r1, r2)) :
  Calls Try.prog 13 #[.int .i64 a0, .int .i64 a1, .slice A2 l2.length c2] w fun e w' => ∃ v0_ : Value, e = .returned (.tuple #[v0_, .int .i64 r2]) ∧ Kd.R k38 38 w' w.heap.size (fun _ => True) v0_ r1 ∧ Below w.heap.size w w' := by
 have hu38 := Try.underlying38
 have h' : boundsC a0 a1 l2 = (r1, r2) := Option.some.inj h
 clear h
 have HR2 := Aside0.mk hr2
 have HC2 := Aside0.mk hc2
 clear hr2 hc2
 have HB := Aside0.mk (Below.refl w.heap.size w)
 by_cases c1 : a0 < 0
 ·rw [boundsC_bad (.inl c1)] at h'
  injection h' with e1 e2
  subst e1
  subst e2
  have d1 : decide (a0 < 0) = true := decide_eq_true c1
  clear c1
  go_enter Try.func13, Try.ntmps13
  go_wp2_with (first | ((with_reducible refine gate_dst (N := 4) rfl ?_); refine box_event ?hg (N := 4) ?hd (cs := #[.int .i64 a1]) (t := 3) ?hr ?_; (case hd => rfl); (case hg => rfl); (case hr => first | (go_simp; done) | (go_simp; rfl)); intro gt hg_T wt hbox_ hb_; have n0_ := Aside0.mk (below_step HB.out hb_); have BT := Aside0.mk hbox_; have GT := Aside0.mk (show w.heap.size ≤ gt by rw [hg_T]; exact below_size HB.out); have ET := Aside0.mk hg_T; have hct0 : wt.cell? ⟨gt, 0, none⟩ = some (.int .i64 a1) := (blk_cell hbox_ 0).trans rfl; have hft0 := blk_frozen hbox_ 0; clear HB hg_T hbox_ hb_; have HB := n0_; clear n0_))
  go_ret2
  exact ⟨_, rfl, Kd.R_nil _ _ _ _ _, HB.out⟩
 have d1 : decide (a0 < 0) = false := decide_eq_false c1
 by_cases c2' : 1000000000 < a0
 ·rw [boundsC_bad (.inr (.inl c2'))] at h'
  injection h' with e1 e2
  subst e1
  subst e2
  have d2 : decide (1000000000 < a0) = true := decide_eq_true c2'
  clear c1 c2'
  go_enter Try.func13, Try.ntmps13
  go_wp2_with (first | ((with_reducible refine gate_dst (N := 4) rfl ?_); refine box_event ?hg (N := 4) ?hd (cs := #[.int .i64 a1]) (t := 3) ?hr ?_; (case hd => rfl); (case hg => rfl); (case hr => first | (go_simp; done) | (go_simp; rfl)); intro gt hg_T wt hbox_ hb_; have n0_ := Aside0.mk (below_step HB.out hb_); have BT := Aside0.mk hbox_; have GT := Aside0.mk (show w.heap.size ≤ gt by rw [hg_T]; exact below_size HB.out); have ET := Aside0.mk hg_T; have hct0 : wt.cell? ⟨gt, 0, none⟩ = some (.int .i64 a1) := (blk_cell hbox_ 0).trans rfl; have hft0 := blk_frozen hbox_ 0; clear HB hg_T hbox_ hb_; have HB := n0_; clear n0_))
  go_ret2
  exact ⟨_, rfl, Kd.R_nil _ _ _ _ _, HB.out⟩
 have d2 : decide (1000000000 < a0) = false := decide_eq_false c2'
 by_cases c3 : a1 < 1
 ·rw [boundsC_bad (.inr (.inr (.inl c3)))] at h'
  injection h' with e1 e2
  subst e1
  subst e2
  have d3 : decide (a1 < 1) = true := decide_eq_true c3
  clear c1 c2' c3
  go_enter Try.func13, Try.ntmps13
  go_wp2_with (first | ((with_reducible refine gate_dst (N := 4) rfl ?_); refine box_event ?hg (N := 4) ?hd (cs := #[.int .i64 a1]) (t := 3) ?hr ?_; (case hd => rfl); (case hg => rfl); (case hr => first | (go_simp; done) | (go_simp; rfl)); intro gt hg_T wt hbox_ hb_; have n0_ := Aside0.mk (below_step HB.out hb_); have BT := Aside0.mk hbox_; have GT := Aside0.mk (show w.heap.size ≤ gt by rw [hg_T]; exact below_size HB.out); have ET := Aside0.mk hg_T; have hct0 : wt.cell? ⟨gt, 0, none⟩ = some (.int .i64 a1) := (blk_cell hbox_ 0).trans rfl; have hft0 := blk_frozen hbox_ 0; clear HB hg_T hbox_ hb_; have HB := n0_; clear n0_))
  go_ret2
  exact ⟨_, rfl, Kd.R_nil _ _ _ _ _, HB.out⟩
 have d3 : decide (a1 < 1) = false := decide_eq_false c3
 by_cases c4 : 1000000000 < a1
 ·rw [boundsC_bad (.inr (.inr (.inr (.inl c4))))] at h'
  injection h' with e1 e2
  subst e1
  subst e2
  have d4 : decide (1000000000 < a1) = true := decide_eq_true c4
  clear c1 c2' c3 c4
  go_enter Try.func13, Try.ntmps13
  go_wp2_with (first | ((with_reducible refine gate_dst (N := 4) rfl ?_); refine box_event ?hg (N := 4) ?hd (cs := #[.int .i64 a1]) (t := 3) ?hr ?_; (case hd => rfl); (case hg => rfl); (case hr => first | (go_simp; done) | (go_simp; rfl)); intro gt hg_T wt hbox_ hb_; have n0_ := Aside0.mk (below_step HB.out hb_); have BT := Aside0.mk hbox_; have GT := Aside0.mk (show w.heap.size ≤ gt by rw [hg_T]; exact below_size HB.out); have ET := Aside0.mk hg_T; have hct0 : wt.cell? ⟨gt, 0, none⟩ = some (.int .i64 a1) := (blk_cell hbox_ 0).trans rfl; have hft0 := blk_frozen hbox_ 0; clear HB hg_T hbox_ hb_; have HB := n0_; clear n0_))
  go_ret2
  exact ⟨_, rfl, Kd.R_nil _ _ _ _ _, HB.out⟩
 have d4 : decide (1000000000 < a1) = false := decide_eq_false c4
 by_cases c5 : 200 < l2.length
 ·rw [boundsC_bad (.inr (.inr (.inr (.inr (.inl c5)))))] at h'
  injection h' with e1 e2
  subst e1
  subst e2
  have d5 : decide ((200 : Int) < (l2.length : Int)) = true := decide_eq_true (by omega)
  have d5' : decide (200 < l2.length) = true := decide_eq_true c5
  clear c1 c2' c3 c4 c5
  go_enter Try.func13, Try.ntmps13
  go_wp2_with (first | ((with_reducible refine gate_dst (N := 4) rfl ?_); refine box_event ?hg (N := 4) ?hd (cs := #[.int .i64 a1]) (t := 3) ?hr ?_; (case hd => rfl); (case hg => rfl); (case hr => first | (go_simp; done) | (go_simp; rfl)); intro gt hg_T wt hbox_ hb_; have n0_ := Aside0.mk (below_step HB.out hb_); have BT := Aside0.mk hbox_; have GT := Aside0.mk (show w.heap.size ≤ gt by rw [hg_T]; exact below_size HB.out); have ET := Aside0.mk hg_T; have hct0 : wt.cell? ⟨gt, 0, none⟩ = some (.int .i64 a1) := (blk_cell hbox_ 0).trans rfl; have hft0 := blk_frozen hbox_ 0; clear HB hg_T hbox_ hb_; have HB := n0_; clear n0_))
  go_ret2
  exact ⟨_, rfl, Kd.R_nil _ _ _ _ _, HB.out⟩
 have d5 : decide ((200 : Int) < (l2.length : Int)) = false := decide_eq_false (by omega)
 have d5' : decide (200 < l2.length) = false := decide_eq_false c5
 cases c6 : l2.any (outR a1) with
 | true =>
  have HA := Aside0.mk c6
  rw [boundsC_bad (.inr (.inr (.inr (.inr (.inr c6)))))] at h'
  injection h' with e1 e2
  subst e1
  subst e2
  have HN := Aside0.mk (show l2.length ≤ 140737488355328 by omega)
  clear c1 c2' c3 c4 c5 c6
  go_enter Try.func13, Try.ntmps13
  go_wp2_with (first | ((with_reducible refine gate_dst (N := 4) rfl ?_); refine box_event ?hg (N := 4) ?hd (cs := #[.int .i64 a1]) (t := 3) ?hr ?_; (case hd => rfl); (case hg => rfl); (case hr => first | (go_simp; done) | (go_simp; rfl)); intro gt hg_T wt hbox_ hb_; have n0_ := Aside0.mk (below_step HB.out hb_); have BT := Aside0.mk hbox_; have GT := Aside0.mk (show w.heap.size ≤ gt by rw [hg_T]; exact below_size HB.out); have ET := Aside0.mk hg_T; have hct0 : wt.cell? ⟨gt, 0, none⟩ = some (.int .i64 a1) := (blk_cell hbox_ 0).trans rfl; have hft0 := blk_frozen hbox_ 0; clear HB hg_T hbox_ hb_; have HB := n0_; clear n0_) | (go_at_call 31; (with_reducible refine (outside_contains A2 c2 l2 _ (Kd.C_below HR2.out HB.out) HC2.out HN.out gt a1 BT.out).mono ?_); rw [HA.out]; rintro e w5 ⟨rfl, hb_⟩; have n0_ := Aside0.mk (below_step HB.out hb_); replace hct0 := (hb_.cell (World.block_lt_of_cell? _ _ hct0)).trans hct0; have BT := Aside0.mk (blk_below BT.out hb_); clear HB hb_; have HB := n0_; clear n0_))
  go_ret2
  exact ⟨_, rfl, Kd.R_nil _ _ _ _ _, HB.out⟩
 | false =>
  have HA := Aside0.mk c6
  have e : boundsC a0 a1 l2 = (l2.map (chgR a0 a1), 0) := by
   unfold boundsC
   rw [if_neg (by rw [c6]; rintro (h | h | h | h | h | h) <;> first | exact absurd h (by assumption) | cases h)]
  rw [e] at h'
  injection h' with e1 e2
  subst e1
  subst e2
  have HN := Aside0.mk (show l2.length ≤ 140737488355328 by omega)
  have H200 := Aside0.mk (show l2.length ≤ 200 by omega)
  have HG := Aside0.mk (show (0 ≤ a0 ∧ a0 ≤ 1000000000) ∧ 1 ≤ a1 ∧ a1 ≤ 1000000000 from ⟨⟨by omega, by omega⟩, by omega, by omega⟩)
  have HIN := Aside0.mk (show ∀ i : Int, 0 ≤ i → i < l2.length → (0 ≤ (rd_T38 l2 i).f0 ∧ (rd_T38 l2 i).f0 ≤ a1) ∧ 0 ≤ (rd_T38 l2 i).f1 ∧ (rd_T38 l2 i).f1 ≤ a1 from fun i h0 h1 => by
   have hi : i.toNat < l2.length := by omega
   have hr : rd_T38 l2 i = l2[i.toNat] := by simp [rd_T38, List.getD_eq_getElem?_getD, hi]
   have := List.any_eq_false.1 c6 _ (List.getElem_mem hi)
   rw [← hr] at this
   simp only [outR, Bool.or_eq_true, decide_eq_true_eq, not_or] at this
   omega)
  clear c1 c2' c3 c4 c5 c6 e
  go_enter Try.func13, Try.ntmps13
  go_wp2_with (first | ((with_reducible refine gate_dst (N := 4) rfl ?_); refine box_event ?hg (N := 4) ?hd (cs := #[.int .i64 a1]) (t := 3) ?hr ?_; (case hd => rfl); (case hg => rfl); (case hr => first | (go_simp; done) | (go_simp; rfl)); intro gt hg_T wt hbox_ hb_; have n0_ := Aside0.mk (below_step HB.out hb_); have BT := Aside0.mk hbox_; have GT := Aside0.mk (show w.heap.size ≤ gt by rw [hg_T]; exact below_size HB.out); have ET := Aside0.mk hg_T; have hct0 : wt.cell? ⟨gt, 0, none⟩ = some (.int .i64 a1) := (blk_cell hbox_ 0).trans rfl; have hft0 := blk_frozen hbox_ 0; clear HB hg_T hbox_ hb_; have HB := n0_; clear n0_) | (go_at_call 31; (with_reducible refine (outside_contains A2 c2 l2 _ (Kd.C_below HR2.out HB.out) HC2.out HN.out gt a1 BT.out).mono ?_); rw [HA.out]; rintro e w5 ⟨rfl, hb_⟩; have n0_ := Aside0.mk (below_step HB.out hb_); replace hct0 := (hb_.cell (World.block_lt_of_cell? _ _ hct0)).trans hct0; have BT := Aside0.mk (blk_below BT.out hb_); clear HB hb_; have HB := n0_; clear n0_) | ((with_reducible refine gate_dst (N := 39) rfl ?_); refine Kd.R_make k38 _ 38 rfl (N := 39) rfl 23 _ _ rfl (l2.length : Int) rfl rfl Try.underlying23 (.agg #[(.int .i64 0), (.int .i64 0)]) 16 info38 rfl (by decide) (by omega) z38 (ok := fun _ => True) (okp := fun _ => True) (k38_mkM _ _ _ z38) (fun _ hk => hk) trivial (by omega) (by have := H200.out; omega) (Below.refl _ _) (Nat.le_refl _) ?_; intro v1 w8 ho hb_ hg_ hnew_; have n0_ := Aside0.mk (below_step HB.out hb_); have HO8 := Aside0.mk (Kd.R_lower ho (below_size HB.out)); have BT := Aside0.mk (blk_below BT.out hb_); clear HB hb_ ho hg_ hnew_; have HB := n0_; clear n0_))
  obtain ⟨Ao, co, eo⟩ := Kd.R_slice HO8.out
  subst eo
  rw [List.length_replicate, Int.toNat_natCast] at *
  go_loopg [42] l2.length (fun kq v42 wr => ∃ (i : Nat) (y : List S38), v42 = .int .i64 i ∧ Aside0 (kq + i = l2.length) ∧ Aside0 (y = (List.range i).foldl (fun y (j : Nat) => y.set j (chgR a0 a1 (l2.getD j z38))) (List.replicate l2.length z38)) ∧ Aside0 (Kd.R k38 38 wr w.heap.size (fun _ => True) (.slice Ao l2.length co) y) ∧ Aside0 (wr.heap[gt]? = some (.cells #[.int .i64 a1] 3 (0, 0))) ∧ Aside0 (Below w.heap.size w wr))
  case atStart => exact ⟨0, _, rfl, ⟨by omega⟩, ⟨rfl⟩, HO8, BT, HB⟩
  case round =>
   clear HO8 HB BT hct0 hft0
   obtain ⟨n, y, rfl, HM, HY, HRY, BT, HB⟩ := hrel
   have HYL := Aside0.mk (show y.length = l2.length by rw [HY.out, fold_len, List.length_replicate])
   by_cases hlt : n < l2.length
   ·obtain ⟨i, hi⟩ : ∃ i : Int, i = (n : Int) := ⟨_, rfl⟩
    rw [← hi]
    have HI2 := Aside0.mk (show 0 ≤ i ∧ i < l2.length ∧ i = (n : Int) from ⟨by omega, by omega, hi⟩)
    have d7 : decide (i < (l2.length : Int)) = true := decide_eq_true HI2.out.2.1
    have ci2 : (0 ≤ i) = True := eq_true HI2.out.1
    have ci3 : (i < l2.length) = True := eq_true HI2.out.2.1
    obtain ⟨adb, eb, hx0, hx1⟩ := at_T38 (Kd.C_below HR2.out HB.out) i HI2.out.1 HI2.out.2.1
    subst eb
    obtain ⟨go, cgo, eo, gob, gol, ogl, hogl⟩ := Kd.R_form HRY.out (by have := HI2.out; have := HYL.out; omega)
    injection eo with ea en ec
    subst ea
    subst ec
    have HGC := Aside0.mk hogl
    have HGB := Aside0.mk gob
    clear hi hlt en gob gol hogl
    have hz1 : i + 1 ≤ 9223372036854775807 := by have := HI2.out; have := HN.out; omega
    have hz2 : -9223372036854775808 ≤ i + 1 := by have := HI2.out; omega
    have hct0 : wr.cell? ⟨gt, 0, none⟩ = some (.int .i64 a1) := (blk_cell BT.out 0).trans rfl
    obtain ⟨x0, hx0'⟩ : ∃ x0, x0 = (rd_T38 l2 i).f0 := ⟨_, rfl⟩
    obtain ⟨x1, hx1'⟩ : ∃ x1, x1 = (rd_T38 l2 i).f1 := ⟨_, rfl⟩
    rw [← hx0'] at hx0
    rw [← hx1'] at hx1
    have HX0 := Aside0.mk hx0'
    have HX1 := Aside0.mk hx1'
    have HV := Aside0.mk (show (0 ≤ x0 ∧ x0 ≤ a1) ∧ 0 ≤ x1 ∧ x1 ≤ a1 by rw [hx0', hx1']; exact HIN.out i HI2.out.1 HI2.out.2.1)
    clear hx0' hx1'
    have HB0 := Aside0.mk (Below.refl wr.heap.size wr)
    go_upto_region 8 with (first | ((with_reducible refine gate_dst (N := 11) rfl ?_); refine box_event ?hg (N := 11) ?hd (cs := #[.int .i64 0, .int .i64 0]) (t := 38) ?hr ?_; (case hd => rfl); (case hg => rfl); (case hr => first | (go_simp; done) | (go_simp; rfl)); intro gx hg_X w9 hbox_ hb_; have n0_ := Aside0.mk (below_step HB0.out hb_); have BX := Aside0.mk hbox_; have GX := Aside0.mk (show wr.heap.size ≤ gx by rw [hg_X]; exact below_size HB0.out); have EX := Aside0.mk hg_X; have hcx0 : w9.cell? ⟨gx, 0, none⟩ = some (.int .i64 0) := (blk_cell hbox_ 0).trans rfl; have hfx0 := blk_frozen hbox_ 0; have hcx1 : w9.cell? ⟨gx, 1, none⟩ = some (.int .i64 0) := (blk_cell hbox_ 1).trans rfl; have hfx1 := blk_frozen hbox_ 1; clear HB0 hg_X hbox_ hb_; have HB0 := n0_; clear n0_))
    obtain ⟨w10, hw10⟩ : ∃ w10, w10 = (w9.setCell ⟨gx, 0, none⟩ (.int .i64 x0)).setCell ⟨gx, 1, none⟩ (.int .i64 x1) := ⟨_, rfl⟩
    rw [← hw10]
    have BX10 := Aside0.mk (show w10.heap[gx]? = some (.cells #[.int .i64 x0, .int .i64 x1] 38 (0, 0)) by rw [hw10]; exact blk_put2 BX.out _ _)
    have HB10 := Aside0.mk (show Below wr.heap.size wr w10 by rw [hw10]; exact below_put2 HB0.out GX.out _ _)
    clear hw10 BX HB0 hcx0 hcx1 hfx0 hfx1 hct0 hx0 hx1
    have hcx0 : w10.cell? ⟨gx, 0, none⟩ = some (.int .i64 x0) := (blk_cell BX10.out 0).trans rfl
    have hcx1 : w10.cell? ⟨gx, 1, none⟩ = some (.int .i64 x1) := (blk_cell BX10.out 1).trans rfl
    have hct0 : w10.cell? ⟨gt, 0, none⟩ = some (.int .i64 a1) := (blk_cell (blk_below BT.out HB10.out) 0).trans rfl
    have HBQ := Aside0.mk (below_drew HB10.out)
    refine start_ (n := 15) (S := fun w' => w'.cell? ⟨gt, 0, none⟩ = some (.int .i64 a1) ∧ w'.cell? ⟨gx, 0, none⟩ = some (.int .i64 x0) ∧ w'.cell? ⟨gx, 1, none⟩ = some (.int .i64 x1)) (ds := [14]) #[n_, n_, n_, n_, n_, n_, n_, n_, n_, n_, n_, n_, n_, n_, n_] (by kernel_rfl) rfl rfl ⟨hct0, hcx0, hcx1⟩ (fun hHeld => ?_)
    refine pv_ 0 47 (w_ 15 1) rfl ?_
    refine pv_ 1 48 (w_ 15 3) rfl ?_
    refine pv_ 2 49 (w_ 15 7) rfl ?_
    refine pv_ 4 51 (w_ 15 23) rfl ?_
    refine pv_ 7 54 (w_ 15 151) rfl ?_
    refine pv_ 9 56 (w_ 15 663) rfl ?_
    refine tb_ 3 50 (w_ 15 671) rfl hHeld (by rintro w' ⟨s0, s1, s2⟩; go_simp; with_reducible rfl) ?_
    refine tb_ 5 52 (w_ 15 703) rfl hHeld (by rintro w' ⟨s0, s1, s2⟩; go_simp; with_reducible rfl) ?_
    refine tb_ 8 55 (w_ 15 959) rfl hHeld (by rintro w' ⟨s0, s1, s2⟩; go_simp; with_reducible rfl) ?_
    refine tb_ 10 57 (w_ 15 1983) rfl hHeld (by rintro w' ⟨s0, s1, s2⟩; go_simp; with_reducible rfl) ?_
    refine one_ (i := 6) (N := some 53) (w_ 15 2047) rfl rfl (by kernel_rfl) (by decide) (fun K hK => ?_)
    refine goes_ Try.func32 (by kernel_rfl) rfl #[.int .i64 a0, .int .i64 a1, .int .i64 x0] (by rfl) rfl rfl (by simp only [List.map_toArray, List.map_cons, List.map_nil]; rfl) ?_
    with_reducible refine (right_any a0 a1 x0 _ HG.out.1.1 HG.out.1.2 HG.out.2.1 HG.out.2.2 HV.out.1.1 HV.out.1.2).mono ?_
    rintro e w3 ⟨rfl, hb⟩
    refine ⟨_, rfl, ?_⟩
    have n0_ := Aside0.mk (below_step HBQ.out hb)
    clear HBQ
    have HBQ := n0_
    clear n0_
    refine hK.out _ _ ⟨(hb.cell (World.block_lt_of_cell? _ _ hHeld.1)).trans hHeld.1, (hb.cell (World.block_lt_of_cell? _ _ hHeld.2.1)).trans hHeld.2.1, (hb.cell (World.block_lt_of_cell? _ _ hHeld.2.2)).trans hHeld.2.2⟩ (fun hHeld => ?_)
    clear hK K
    refine norm_ (a' := ?_) ?_ ?_
    rotate_left
    ·show Act.put _ (some 53) _ = _
     simp only [Act.put, sI_, s0_, sS_, i64_w, i32_w]
     rfl
    refine one_ (i := 11) (N := some 58) (w_ 15 4095) rfl rfl (by kernel_rfl) (by decide) (fun K hK => ?_)
    refine goes_ Try.func32 (by kernel_rfl) rfl #[.int .i64 a0, .int .i64 a1, .int .i64 x1] (by rfl) rfl rfl (by simp only [List.map_toArray, List.map_cons, List.map_nil]; rfl) ?_
    with_reducible refine (right_any a0 a1 x1 _ HG.out.1.1 HG.out.1.2 HG.out.2.1 HG.out.2.2 HV.out.2.1 HV.out.2.2).mono ?_
    rintro e w3 ⟨rfl, hb⟩
    refine ⟨_, rfl, ?_⟩
    have n0_ := Aside0.mk (below_step HBQ.out hb)
    clear HBQ
    have HBQ := n0_
    clear n0_
    have HE := Aside0.mk (rg_elem (Kd.R_below HRY.out HBQ.out) i HI2.out.1 HI2.out.2.1)
    have hz0_ := HE.out.1.1
    have hz1_ := HE.out.1.2
    have hy0_ := HE.out.2.1.1
    have hy1_ := HE.out.2.1.2
    refine hK.out _ _ ⟨(hb.cell (World.block_lt_of_cell? _ _ hHeld.1)).trans hHeld.1, (hb.cell (World.block_lt_of_cell? _ _ hHeld.2.1)).trans hHeld.2.1, (hb.cell (World.block_lt_of_cell? _ _ hHeld.2.2)).trans hHeld.2.2⟩ (fun hHeld => ?_)
    clear hK K
    refine norm_ (a' := ?_) ?_ ?_
    rotate_left
    ·show Act.put _ (some 58) _ = _
     simp only [Act.put, sI_, s0_, sS_, i64_w, i32_w]
     rfl
    refine pv_ 12 59 (w_ 15 8191) rfl ?_
    refine pv_ 13 60 (w_ 15 16383) rfl ?_
    refine last_ (i := 14) (N := none) (w_ 15 32767) rfl rfl (by kernel_rfl) (by decide) (fun K hK => ?_)
    refine skip_ (w1 := ?_) (by rfl) rfl ?_ ?_
    rotate_left
    ·go_simp
     rfl
    refine hK.out _ _ ?_
    clear hK K
    refine done_ (by kernel_rfl) ?_
    go_wp2
    have hP := HE.out.2.2 (chgR a0 a1 (rd_T38 l2 i))
    simp only [chgR, ← HX0.out, ← HX1.out] at hP
    go_roundg (gk - 1)
    case measure => have := HM.out; have := HI2.out; omega
    case rel =>
     refine ⟨n + 1, _, ?_, ⟨by have := HM.out; have := HI2.out; omega⟩, ⟨?_⟩, ⟨hP.1⟩, ⟨?_⟩, ⟨below_set (below_set (below_step HB.out HBQ.out) HGB.out) HGB.out⟩⟩
     ·have := HI2.out
      first | (rw [show ((n + 1 : Nat) : Int) = i + 1 from by omega]; done) | (simp; omega)
     ·rw [foldl_range_succ, ← HY.out]
      have e1 : i.toNat = n := by have := HI2.out; omega
      have e2 : l2.getD n z38 = rd_T38 l2 i := by rw [← e1]; rfl
      rw [e1, e2]
      simp only [chgR, ← HX0.out, ← HX1.out]
     ·refine blk_grown (blk_below BT.out HBQ.out) hP.2 (fun e => ?_)
      have h1 := blk_below HGC.out HBQ.out
      have h2 := blk_below BT.out HBQ.out
      injection e with e
      rw [← e] at h1
      rw [h1] at h2
      injection h2 with h2
      injection h2 with _ h3
      exact absurd h3 (by decide)
   ·have d7 : decide ((n : Int) < (l2.length : Int)) = false := decide_eq_false (by omega)
    have d7' : decide (n < l2.length) = false := decide_eq_false hlt
    have HNL := Aside0.mk (show n = l2.length by have := HM.out; omega)
    clear hlt
    go_wp2
    go_ret2
    refine ⟨_, rfl, ?_, HB.out⟩
    have e1 : y = l2.map (chgR a0 a1) := by
     rw [HY.out, HNL.out, fold_set _ _ _ (by simp), List.drop_of_length_le (by simp), List.append_nil]
     exact fold_map _ (chgR a0 a1) l2
    rw [← e1]
    exact HRY.out
end
section
def charges_households.l0 : Nat → Int → List Int → Int → Int → Option (Bool)
 | 0, _, _, _, _ => none
 | k + 1, x3, x6, x7, x8 => if x8 < x7 then (if 0 ≤ x8 then (if x8 < (x6.length : Int) then (if (rd x6 x8) ≤ x3 then (some false) else (if (rd x6 x8) > 64 then (some false) else (charges_households.l0 k (rd x6 x8) x6 x7 (wrap64 (x8 + 1))))) else (none)) else (none)) else (some true)
def charges_households.f (k : Nat) (l0 : List Int) : Option (Bool) := charges_households.l0 k 0 l0 (l0.length : Int) 0
theorem charges_households.calls (k : Nat) (A0 : Option Addr) (c0 : Nat) (l0 : List Int) (r : Bool) (w : World) (hr0 : Kd.C (Kd.int .i64) w A0 l0.length l0) (hc0 : l0.length ≤ c0) (h : charges_households.f k l0 = some r) :
  Calls Try.prog 35 #[.slice A0 l0.length c0] w fun e w' => e = .returned (.bool r) ∧ Drawn0 w w' := by
 have HR0 := Aside0.mk hr0
 have HC0 := Aside0.mk hc0
 clear hr0 hc0
 have H : (charges_households.l0 k 0 l0 (l0.length : Int) 0) = some r := h
 clear h
 have H' := Aside0.mk H
 clear H
 go_enter Try.func35, Try.ntmps35
 go_wp2
 go_loopg [3, 8] k (fun kq v3 v8 w' => ∃ (x3_1 : Int) (x8_1 : Int), v3 = .int .i64 x3_1 ∧ v8 = .int .i64 x8_1 ∧ Aside0 (charges_households.l0 kq x3_1 l0 (l0.length : Int) x8_1 = some r) ∧ Aside0 (kq ≤ k) ∧ Drawn0 w w')
 case atStart => exact ⟨(0), (0), sd_, sd_, H', ⟨Nat.le_refl _⟩, by repeat (first | exact Drawn0.refl _ | apply Drawn0.step)⟩
 case round =>
  clear H'
  obtain ⟨x3_1, x8_1, rfl, rfl, HA, HK1, ⟨m1, rfl⟩⟩ := hrel
  cases gk with
  | zero => exact absurd HA.out (by simp [charges_households.l0])
  | succ k1 =>
   have H := HA.out
   clear HA
   simp only [charges_households.l0] at H
   by_cases c2 : x8_1 < (l0.length : Int)
   ·rw [if_pos c2] at H
    have c2b0 : decide (x8_1 < (l0.length : Int)) = true := decide_eq_true c2
    clear c2
    by_cases c3 : 0 ≤ x8_1
    ·rw [if_pos c3] at H
     have c3b0 : decide (0 ≤ x8_1) = true := decide_eq_true c3
     clear c3
     by_cases c4 : x8_1 < (l0.length : Int)
     ·rw [if_pos c4] at H
      have c4b0 : decide (x8_1 < (l0.length : Int)) = true := decide_eq_true c4
      clear c4
      by_cases c5 : (rd l0 x8_1) ≤ x3_1
      ·rw [if_pos c5] at H
       have c5b0 : decide ((rd l0 x8_1) ≤ x3_1) = true := decide_eq_true c5
       clear c5
       obtain rfl := Option.some.inj H
       have p132 : 0 ≤ (x8_1 : Int) := od_
       have q132 : x8_1 < (l0.length : Int) := od_
       obtain ⟨ad132, e132, hx132_0⟩ := Kd.at_int HR0.out x8_1 p132 q132
       cases e132
       replace p132 := eq_true p132
       replace q132 := eq_true q132
       go_wp2
       go_ret
       exact ⟨by first | rfl | (simp; done) | (simp [*]; done), by repeat (first | exact Drawn0.refl _ | apply Drawn0.step)⟩
      ·rw [if_neg c5] at H
       have c5b0 : decide ((rd l0 x8_1) ≤ x3_1) = false := decide_eq_false c5
       clear c5
       by_cases c6 : (rd l0 x8_1) > 64
       ·rw [if_pos c6] at H
        have c6b0 : decide (64 < (rd l0 x8_1)) = true := decide_eq_true c6
        clear c6
        obtain rfl := Option.some.inj H
        have p132 : 0 ≤ (x8_1 : Int) := od_
        have q132 : x8_1 < (l0.length : Int) := od_
        obtain ⟨ad132, e132, hx132_0⟩ := Kd.at_int HR0.out x8_1 p132 q132
        cases e132
        replace p132 := eq_true p132
        replace q132 := eq_true q132
        go_wp2
        go_ret
        exact ⟨by first | rfl | (simp; done) | (simp [*]; done), by repeat (first | exact Drawn0.refl _ | apply Drawn0.step)⟩
       ·rw [if_neg c6] at H
        have c6b0 : decide (64 < (rd l0 x8_1)) = false := decide_eq_false c6
        clear c6
        have H' := Aside0.mk H
        clear H
        have p132 : 0 ≤ (x8_1 : Int) := od_
        have q132 : x8_1 < (l0.length : Int) := od_
        obtain ⟨ad132, e132, hx132_0⟩ := Kd.at_int HR0.out x8_1 p132 q132
        cases e132
        replace p132 := eq_true p132
        replace q132 := eq_true q132
        go_wp2
        go_roundg k1
        case measure => have := HK1.out; omega
        case rel => exact ⟨(rd l0 x8_1), (wrap64 (x8_1 + 1)), sd_, sd_, H', ⟨by have := HK1.out; omega⟩, by repeat (first | exact Drawn0.refl _ | apply Drawn0.step)⟩
     ·rw [if_neg c4] at H
      exact absurd H (by simp)
    ·rw [if_neg c3] at H
     exact absurd H (by simp)
   ·rw [if_neg c2] at H
    have c2b0 : decide (x8_1 < (l0.length : Int)) = false := decide_eq_false c2
    clear c2
    obtain rfl := Option.some.inj H
    go_wp2
    go_ret
    exact ⟨by first | rfl | (simp; done) | (simp [*]; done), by repeat (first | exact Drawn0.refl _ | apply Drawn0.step)⟩
end
section
open Go.Proofs.YthjjabcbngffoaaH
theorem infoB : (Try.prog.info? 71).map (fun i => (i.zero, i.size, i.bytes)) = some (some (.agg #[.int .i64 0, .int .i64 0, .int .i64 0, .int .i64 0, .bool false]), 5, 40) := by kernel_rfl
def set5 (W : World) (g o : Nat) (y : S40) : World := ((((W.setCell ⟨g, o, none⟩ (.int .i64 y.f0)).setCell ⟨g, o + 1, none⟩ (.int .i64 y.f1)).setCell ⟨g, o + 2, none⟩ (.int .i64 y.f2.f0)).setCell ⟨g, o + 3, none⟩ (.int .i64 y.f2.f1)).setCell ⟨g, o + 4, none⟩ (.bool y.f3)
theorem bill_elem {e : Nat} {W : World} {base g n cap : Nat} {xs : List S40} (h : Kd.R k40 e W base (fun _ => True) (.slice (some ⟨g, 0, none⟩) n cap) xs) (i : Int) (h0 : 0 ≤ i) (h1 : i < n) :
  (W.cell? ⟨g, i.toNat * 5, none⟩ = some (.int .i64 (rd_T40 xs i).f0) ∧ W.cell? ⟨g, i.toNat * 5 + 1, none⟩ = some (.int .i64 (rd_T40 xs i).f1) ∧ W.cell? ⟨g, i.toNat * 5 + 2, none⟩ = some (.int .i64 (rd_T40 xs i).f2.f0) ∧ W.cell? ⟨g, i.toNat * 5 + 3, none⟩ = some (.int .i64 (rd_T40 xs i).f2.f1) ∧ W.cell? ⟨g, i.toNat * 5 + 4, none⟩ = some (.bool (rd_T40 xs i).f3)) ∧
   (∀ j, W.frozen? ⟨g, i.toNat * 5 + j, none⟩ = false) ∧
   (∀ y : S40, Kd.R k40 e (set5 W g (i.toNat * 5) y) base (fun _ => True) (.slice (some ⟨g, 0, none⟩) n cap) (xs.set i.toNat y) ∧ W.grownBy (set5 W g (i.toNat * 5) y) (some g)) ∧
   (∀ c : Int, Kd.R k40 e (W.setCell ⟨g, i.toNat * 5 + 1, none⟩ (.int .i64 c)) base (fun _ => True) (.slice (some ⟨g, 0, none⟩) n cap) (xs.set i.toNat ⟨(rd_T40 xs i).f0, c, (rd_T40 xs i).f2, (rd_T40 xs i).f3⟩) ∧ W.grownBy (W.setCell ⟨g, i.toNat * 5 + 1, none⟩ (.int .i64 c)) (some g)) := by
 obtain ⟨c, hcl, hM, hcc, hfr⟩ := Kd.R_elem h z40 i h0 h1
 obtain rfl := k40_openM hM
 have e : k40.sz = 5 := rfl
 refine ⟨⟨hcc 0 _ rfl, hcc 1 _ rfl, hcc 2 _ rfl, hcc 3 _ rfl, hcc 4 _ rfl⟩, hfr, fun y => ?_, fun c' => ?_⟩
 ·exact Kd.R_seg h i h0 h1 hcl hcc (seg := [.int .i64 y.f0, .int .i64 y.f1, .int .i64 y.f2.f0, .int .i64 y.f2.f1, .bool y.f3]) (j := 0) (show 0 + 5 ≤ 5 from Nat.le_refl _) (x' := y) (okp := fun _ => False) (k40_mkM _ _ _ y) (fun _ hk => hk.elim)
 ·exact Kd.R_seg h i h0 h1 hcl hcc (seg := [.int .i64 c']) (j := 1) (show 1 + 1 ≤ 5 from by decide) (x' := ⟨(rd_T40 xs i).f0, c', (rd_T40 xs i).f2, (rd_T40 xs i).f3⟩) (okp := fun _ => False) (k40_mkM _ _ _ ⟨(rd_T40 xs i).f0, c', (rd_T40 xs i).f2, (rd_T40 xs i).f3⟩) (fun _ hk => hk.elim)
theorem backB_calls (A0 : Option Addr) (n c : Nat) (w : World) :
  Calls Try.prog 36 #[.slice A0 n c] w fun e w' => e = .returned (.func (.func 56) #[] #[.pointer (some ⟨w.heap.size, 0, none⟩)]) ∧ w' = w.alloc (.cells #[.slice A0 n c] 69) := by
 go_enter Try.func36, Try.ntmps36
 go_wp2
 go_ret
 exact ⟨rfl, rfl⟩
abbrev IxB (n : Nat) := { j : Nat // j < n } × S40
def encB {n : Nat} (x : IxB n) : Array Value := #[.int .i64 (x.1.1 : Int), .agg #[.int .i64 x.2.f0, .int .i64 x.2.f1, .int .i64 x.2.f2.f0, .int .i64 x.2.f2.f1, .bool x.2.f3]]
def RdB (n0 n : Nat) (A : Option Addr) (c : Nat) (W : World) : Prop := ∃ bs : List S40, bs.length = n ∧ Kd.R k40 71 W n0 (fun _ => True) (.slice A n c) bs
def KeepB (n0 b n : Nat) (A : Option Addr) (c : Nat) (W W' : World) : Prop := Below n0 W W' ∧ W'.heap[b]? = W.heap[b]? ∧ (RdB n0 n A c W → RdB n0 n A c W')
theorem keepB_t {n0 b n : Nat} {A0 : Option Addr} {c : Nat} {A B C : World} (h : KeepB n0 b n A0 c A B) (k : KeepB n0 b n A0 c B C) : KeepB n0 b n A0 c A C := ⟨h.1.trans k.1, k.2.1.trans h.2.1, fun r => k.2.2 (h.2.2 r)⟩
theorem keepB_b {n0 b n : Nat} {A0 : Option Addr} {c : Nat} {w : World} (hn : n0 ≤ w.heap.size) (hb : b < w.heap.size) (W : World) (l : Nat) (o o' : Obj) (hl : w.heap.size ≤ l) (h : W.heap[l]? = some o) (h1 : o.isCells = false) (h2 : o.isWalk = false) : KeepB n0 b n A0 c W (W.putObj l o') :=
 ⟨belowK_b hn W l o o' hl h h1 h2, World.putObj_heap_other (by omega), fun ⟨bs, hbl, hR⟩ => ⟨bs, hbl, R_objs hR (grownBy_putObj' W l o') (fun r e => by cases e; exact ⟨o, h, h1⟩)⟩⟩
attribute [local go_sem] Oper.semAt_some
set_option maxHeartbeats 4000000 in
theorem back1B_in (n : Nat) (hn : 1 ≤ n) (lr Bn n0 : Nat) (A0 : Option Addr) (c0 len : Nat) (hsz : len ≤ 5864062014805) (J Jx : List (IxB len) → World → Prop)
  (hY : ∀ pre x W, J pre W → pre.length < len → YieldAt Fence.wide (n - 1) Try.prog lr (encB x) W fun e W' =>
   (e = .returned (.bool true) ∧ J (pre ++ [x]) W' ∧ KeepB n0 Bn len A0 c0 W W') ∨ (e = .returned (.bool false) ∧ Jx (pre ++ [x]) W'))
  (W : World) (hBn : W.heap[Bn]? = some (.cells #[.slice A0 len c0] 69 (0, 0))) (hC : RdB n0 len A0 c0 W) (h0 : J [] W) :
  CallsIn Fence.wide n Try.prog 56 #[.func (.yield lr) #[] #[], .pointer (some ⟨Bn, 0, none⟩)] W fun e W' => (∃ v, e = .returned v) ∧
   ((∃ xs : List (IxB len), xs.map (·.1.1) = downTo len len ∧ J xs W') ∨ (∃ pre, True ∧ Jx pre W')) := by
 refine callsIn_of_wp Try.func56 rfl trivial ?_ rfl
 simp only [Try.ntmps56, List.size_toArray, List.length_cons, List.length_nil, Nat.reduceAdd, Nat.reduceSub, Array.replicate_succ, Array.replicate_zero, List.push_toArray, List.append_toArray, List.nil_append, List.cons_append]
 have hc0 : W.cell? ⟨Bn, 0, none⟩ = some (.slice A0 len c0) := (blk_cell hBn 0).trans rfl
 have HSZ := Aside0.mk hsz
 have HC := Aside0.mk hC
 have HY := Aside0.mk hY
 have HBN := Aside0.mk hBn
 have H0 := Aside0.mk h0
 clear hsz hC hY hBn h0
 have hq1 : (len : Int) - 1 ≤ 9223372036854775807 := by have := HSZ.out; omega
 have hq2 : -9223372036854775808 ≤ (len : Int) - 1 := by omega
 gi_wp2
 gi_loopw [3] (fun i wr => ∃ (k : Nat) (pre : List (IxB len)), k ≤ len ∧ i = .int .i64 ((len : Int) - 1 - k) ∧ Aside0 (pre.map (·.1.1) = downTo len k) ∧ Aside0 (J pre wr) ∧ Aside0 (KeepB n0 Bn len A0 c0 W wr))
  (fun i _ => (intOf i + 1).toNat)
 case atStart => exact ⟨0, [], Nat.zero_le _, by simp, ⟨by simp [downTo]⟩, H0, ⟨⟨Below.refl _ _, rfl, id⟩⟩⟩
 case round =>
  clear hc0 H0
  obtain ⟨k, pre, hk, rfl, HP, HJ, HK⟩ := hrel
  have hc0 : wr.cell? ⟨Bn, 0, none⟩ = some (.slice A0 len c0) := (blk_cell (HK.out.2.1.trans HBN.out) 0).trans rfl
  by_cases hlt : k < len
  ·obtain ⟨i, hi⟩ : ∃ i : Int, i = (len : Int) - 1 - k := ⟨_, rfl⟩
   rw [← hi]
   have hi0 : 0 ≤ i := by omega
   have hi1 : i < len := by omega
   obtain ⟨bs, hbl, hbR⟩ := HK.out.2.2 HC.out
   obtain ⟨b, hb⟩ : ∃ b, b = rd_T40 bs i := ⟨_, rfl⟩
   obtain ⟨xi, hti, hxb⟩ : ∃ xi : IxB len, (xi.1.1 : Int) = i ∧ xi.2 = b := ⟨(⟨i.toNat, by omega⟩, b), by show ((i.toNat : Nat) : Int) = i; omega, rfl⟩
   obtain ⟨fn, tmps, assign, body, hy, hR⟩ := HY.out pre xi wr HJ.out (by have := congrArg List.length HP.out; rw [List.length_map, downTo_length] at this; omega)
   simp only [encB, hti, hxb] at hy
   have HTI := Aside0.mk hti
   obtain ⟨ad, e, hx0, hx1, hx2, hx3, hx4⟩ := at_T40 (Kd.R_reads' hbR).2.2 i hi0 (by omega)
   rw [← hb] at hx0 hx1 hx2 hx3 hx4
   have HI := Aside0.mk hi
   have HR := Aside0.mk hR
   have HL := Aside0.mk (And.intro hi0 (And.intro hi1 hlt))
   have c1 : decide (0 ≤ i) = true := decide_eq_true hi0
   have c2 : (0 ≤ i) = True := eq_true hi0
   have c3 : (i < len) = True := eq_true hi1
   have hb1 : i - 1 ≤ 9223372036854775807 := by have := HSZ.out; omega
   have hb2 : -9223372036854775808 ≤ i - 1 := by omega
   clear hi hR hi0 hi1 hlt hti hk hbl hbR hb hxb
   subst e
   gi_wp2
   refine HR.out.mono ?_
   rintro e W3 (⟨rfl, hJ3, hk3⟩ | ⟨rfl, hJx3⟩)
   ·have HJ3 := Aside0.mk hJ3
    have HK3 := Aside0.mk hk3
    clear hJ3 hk3
    gi_wp2
    go_roundw
    case rel =>
     refine ⟨k + 1, _, ?_, ?_, ⟨?_⟩, HJ3, ⟨keepB_t HK.out HK3.out⟩⟩
     ·have := HL.out; omega
     ·have := HI.out; first | (rw [show i - 1 = (len : Int) - 1 - ((k + 1 : Nat) : Int) from by omega]; done) | (simp; omega)
     ·rw [List.map_append, HP.out, downTo_succ]
      have h1 := HTI.out
      have h2 := HI.out
      have h3 := HL.out
      simp only [List.map_cons, List.map_nil]
      congr 2
      omega
    case measure => have := HL.out; simp [intOf]; omega
   ·gi_wp2
    refine bodyPost_ret (results_none rfl _ _ _) rfl ?_
    exact ⟨⟨_, rfl⟩, .inr ⟨_, trivial, hJx3⟩⟩
  ·obtain ⟨i, hi⟩ : ∃ i : Int, i = (len : Int) - 1 - k := ⟨_, rfl⟩
   rw [← hi]
   have c1 : decide (0 ≤ i) = false := decide_eq_false (by omega)
   have HKL := Aside0.mk (show k = len by omega)
   clear hlt hk hi
   gi_wp2
   go_end0
   exact ⟨⟨_, rfl⟩, .inl ⟨pre, by rw [HP.out, HKL.out], HJ.out⟩⟩
theorem backB_stops (n : Nat) (hn : 1 ≤ n) (Bn n0 : Nat) (A0 : Option Addr) (c0 len : Nat) (hsz : len ≤ 5864062014805) (w : World) (hBn : w.heap[Bn]? = some (.cells #[.slice A0 len c0] 69 (0, 0))) (hC : RdB n0 len A0 c0 w) :
  SeqStopsK Fence.wide n Try.prog 56 #[.pointer (some ⟨Bn, 0, none⟩)] (encB (n := len)) (KeepB n0 Bn len A0 c0) (fun xs => xs.map (·.1.1) = downTo len len) (fun _ => True) len w := by
 intro lr J Jx W hW _ _ hY h0
 obtain ⟨bs, hbl, hR⟩ := hC
 exact back1B_in n hn lr Bn n0 A0 c0 len hsz J Jx hY W (blk_below hBn hW) ⟨bs, hbl, Kd.R_below hR hW⟩ h0
end
section
def lowBy (b c lo : Int) : Int := mx 0 (mn b (wrap64 (c - lo)))
theorem lower_at (g o : Nat) (c lo b : Int) (w : World) (h1 : w.cell? ⟨g, o + 1, none⟩ = some (.int .i64 c)) (h2 : w.cell? ⟨g, o + 2, none⟩ = some (.int .i64 lo)) (hf : w.frozen? ⟨g, o + 1, none⟩ = false) :
  Calls Try.prog 37 #[.pointer (some ⟨g, o, none⟩), .int .i64 b] w fun e w' => e = .returned (.int .i64 (lowBy b c lo)) ∧ ∃ n, w' = (w.drewN n).setCell ⟨g, o + 1, none⟩ (.int .i64 (wrap64 (c - lowBy b c lo))) := by
 obtain ⟨j3, h3⟩ : ∃ j, (mn b (wrap64 (c - lo))) = j := ⟨_, rfl⟩
 have h3_ : (if (wrap64 (c - lo)) < b then (wrap64 (c - lo)) else b) = j3 := h3
 obtain ⟨j4, h4⟩ : ∃ j, mx 0 j3 = j := ⟨_, rfl⟩
 have h4_ : (if 0 < j3 then j3 else 0) = j4 := h4
 have HL : lowBy b c lo = j4 := by unfold lowBy; rw [h3, h4]
 rw [HL]
 clear HL h3 h4
 go_enter Try.func37, Try.ntmps37
 go_wp2
 repeat (go_quiet (fail); try go_wp2)
 go_ret
 exact ⟨rfl, _, rfl⟩
end
section
open Go.Proofs.YthjjabcbngffoaaH
def homesB : Int → List Int → Bool
 | _, [] => true
 | last, h :: t => if h ≤ last ∨ h > 64 then false else homesB h t
theorem homes_l0 (l : List Int) (hn : l.length ≤ 140737488355328) : ∀ (d : Nat) (i : Nat) (k : Nat) (last : Int), i + d = l.length → d < k → charges_households.l0 k last l (l.length : Int) (i : Int) = some (homesB last (l.drop i)) := by
 intro d
 induction d with
 | zero =>
  intro i k last hi hk
  obtain ⟨k, rfl⟩ : ∃ m, k = m + 1 := ⟨k - 1, by omega⟩
  simp only [charges_households.l0]
  rw [if_neg (by omega), List.drop_of_length_le (by omega)]
  rfl
 | succ d ih =>
  intro i k last hi hk
  obtain ⟨k, rfl⟩ : ∃ m, k = m + 1 := ⟨k - 1, by omega⟩
  have hil : i < l.length := by omega
  have hrd : rd l (i : Int) = l[i] := by simp [rd, List.getD_eq_getElem?_getD, hil]
  simp only [charges_households.l0]
  rw [if_pos (by omega), if_pos (by omega), if_pos (by omega), hrd, List.drop_eq_getElem_cons hil]
  simp only [homesB]
  by_cases c1 : l[i] ≤ last
  ·rw [if_pos c1, if_pos (.inl c1)]
  ·by_cases c2 : l[i] > 64
   ·rw [if_neg c1, if_pos c2, if_pos (.inr c2)]
   ·rw [if_neg c1, if_neg c2, if_neg (by omega), show wrap64 ((i : Int) + 1) = ((i + 1 : Nat) : Int) from by unfold wrap64; omega]
    exact ih (i + 1) k _ (by omega) (by omega)
theorem homes_any (A0 : Option Addr) (c0 : Nat) (l : List Int) (b : Bool) (w : World) (hr0 : Kd.C (Kd.int .i64) w A0 l.length l) (hc0 : l.length ≤ c0) (hn : l.length ≤ 140737488355328) (h : homesB 0 l = b) :
  Calls Try.prog 35 #[.slice A0 l.length c0] w fun e w' => e = .returned (.bool b) ∧ Drawn0 w w' := by
 refine charges_households.calls (l.length + 1) A0 c0 l b w hr0 hc0 ?_
 unfold charges_households.f
 have := homes_l0 l hn l.length 0 (l.length + 1) 0 (by omega) (by omega)
 rw [show ((0 : Nat) : Int) = 0 from rfl] at this
 rw [this, List.drop_zero, h]
def billOf (h : Int) (b : S38) : S40 := ⟨h, wrap64 (Int.tdiv (wrap64 (b.f0 + b.f1)) 2), ⟨b.f0, b.f1⟩, b.f0 == b.f1⟩
def billsN (homes : List Int) (bs : List S38) (n i : Nat) : List S40 := (List.range i).foldl (fun y (j : Nat) => y.set j (billOf (rd homes j) (rd_T38 bs j))) (List.replicate n z40)
def sumN (bs : List S38) (i : Nat) : Int := (List.range i).foldl (fun s (j : Nat) => wrap64 (s + wrap64 (Int.tdiv (wrap64 ((rd_T38 bs j).f0 + (rd_T38 bs j).f1)) 2))) 0
def leastN (l : List S38) (i : Nat) : Int := (List.range i).foldl (fun s (j : Nat) => wrap64 (s + (rd_T38 l j).f0)) 0
def lowStep (c : Int) (p : List S40 × Int) (j : Nat) : List S40 × Int :=
 (p.1.set j ⟨(rd_T40 p.1 j).f0, wrap64 ((rd_T40 p.1 j).f1 - lowBy (wrap64 (p.2 - c)) (rd_T40 p.1 j).f1 (rd_T40 p.1 j).f2.f0), (rd_T40 p.1 j).f2, (rd_T40 p.1 j).f3⟩, wrap64 (p.2 - lowBy (wrap64 (p.2 - c)) (rd_T40 p.1 j).f1 (rd_T40 p.1 j).f2.f0))
def lowAll (c : Int) (js : List Nat) (p : List S40 × Int) : List S40 × Int := js.foldl (lowStep c) p
theorem lowAll_len (c : Int) (js : List Nat) : ∀ p : List S40 × Int, (lowAll c js p).1.length = p.1.length := by
 induction js with
 | nil => intro p; rfl
 | cons j js ih =>
  intro p
  show (lowAll c js (lowStep c p j)).1.length = _
  rw [ih]
  simp [lowStep]
theorem billsN_len (homes : List Int) (bs : List S38) (n i : Nat) : (billsN homes bs n i).length = n := by unfold billsN; rw [fold_len, List.length_replicate]
def shareC (c t : Int) (homes : List Int) (l : List S38) : List S40 × Int × Int :=
 if (boundsC c t l).2 = 0 then
  if homes.length ≠ l.length ∨ homesB 0 homes = false then ([], 0, 1)
  else if t < leastN l l.length then ([], 0, 30)
  else ((lowAll c (downTo l.length l.length) (billsN homes (boundsC c t l).1 l.length l.length, sumN (boundsC c t l).1 l.length)).1, wrap64 (c - (lowAll c (downTo l.length l.length) (billsN homes (boundsC c t l).1 l.length l.length, sumN (boundsC c t l).1 l.length)).2), 0)
 else ([], 0, 1)
def charges_Share.f (a0 a1 : Int) (l2 : List Int) (l3 : List S38) : Option (List S40 × Int × Int) := some (shareC a0 a1 l2 l3)
theorem boundsC_two (c t : Int) (l : List S38) : boundsC c t l = ([], 1) ∨ (boundsC c t l = (l.map (chgR c t), 0) ∧ l.length ≤ 200) := by
 unfold boundsC
 split
 ·exact .inl rfl
 ·rename_i h
  exact .inr ⟨rfl, by omega⟩
theorem postM_ret {F : Fence} {n : Nat} {P : Program} {fn : Func} {R : Ending → World → Prop} {T : Array Value} {v : Value} {w : World} (h : (results fn T).run P w = .ok v w) (hR : R (.returned v) w) : bodyPostM F n P fn R .ret { tmps := T, defers := [] } w := ⟨v, h, hR⟩
theorem postM_done {F : Fence} {n : Nat} {P : Program} {fn : Func} {R : Ending → World → Prop} {T : Array Value} {v : Value} {D : Nat} {w : World} (hD : w.heap[D]? = some (.deferred (some []))) (h : (results fn T).run P (w.putObj D (.deferred none)) = .ok v (w.putObj D (.deferred none))) (hR : R (.returned v) (w.putObj D (.deferred none))) :
  bodyPostM F n P fn R .ret { tmps := T, defers := [{ target := .collected D, args := #[] }] } w := ⟨by simp, .inl ⟨_, _, rfl, run_takeDeferred hD, v, h, hR⟩⟩
def calmQ (Q : Exit → Act → World → Prop) : Exit → Act → World → Prop
 | .panic _, _, _ => False
 | .outgrown, _, _ => False
 | e, a, w => Q e a w
theorem wp_calm {P : Program} {c : Code} {Q : Exit → Act → World → Prop} {a : Act} {w : World} (h : c.wp P (calmQ Q) a w) : c.wp P Q a w := wp_mono h (by
 intro e a w h
 cases e with
 | panic _ => exact h.elim
 | outgrown => exact h.elim
 | _ => exact h)
theorem blk_over {w w1 : World} {g g' : Nat} {t t' : TypeId} {cs cs' : Array Value} (h : w.heap[g]? = some (.cells cs t (0, 0))) (h' : w.heap[g']? = some (.cells cs' t' (0, 0))) (ht : t ≠ t') (hg : w.grownBy w1 (some g')) : w1.heap[g]? = some (.cells cs t (0, 0)) :=
 blk_grown h hg (by have := blk_ne h h' ht; simpa using this)
theorem R_overB {α : Type} {d : Kd α} {e base g t : Nat} {w w1 : World} {cs : Array Value} {v : Value} {xs : List α} (h : d.R e w base (fun _ => True) v xs) (hb : w.heap[g]? = some (.cells cs t (0, 0))) (ht : ∀ q, q ∈ e :: d.E → q ≠ t) (hg : w.grownBy w1 (some g)) : d.R e w1 base (fun _ => True) v xs :=
 Kd.R_mono (Kd.R_grown (Kd.R_types h hb ht) hg (fun k hk ek => hk.2 (by cases ek; rfl))) (fun _ _ => trivial)
theorem rd_setC (xs : List S40) (i : Int) (y : S40) (h : i.toNat < xs.length) : rd_T40 (xs.set i.toNat y) i = y := by
 simp [rd_T40, List.getD_eq_getElem?_getD, h]
theorem at_frame {F : Fence} {n : Nat} {P : Program} {c : Code} {Q : Exit → Act → World → Prop} {T : Array Value} {d : List Deferred} {w : World} (h : ∀ T0, T0 = T → c.wpIn F n P Q { tmps := T0, defers := d } w) : c.wpIn F n P Q { tmps := T, defers := d } w := h T rfl
theorem share_bad (a0 a1 : Int) (A2 : Option Addr) (c2 : Nat) (l2 : List Int) (A3 : Option Addr) (c3 : Nat) (l3 : List (S38)) (w : World) (hr2 : Kd.C (Kd.int .i64) w A2 l2.length l2) (hc2 : l2.length ≤ c2) (hr3 : Kd.C k38 w A3 l3.length l3) (hc3 : l3.length ≤ c3)
  (h : boundsC a0 a1 l3 = ([], 1) ∨ (∃ bs, boundsC a0 a1 l3 = (bs, 0) ∧ l3.length ≤ 200 ∧ (l2.length ≠ l3.length ∨ homesB 0 l2 = false))) :
  Calls Try.prog 16 #[.int .i64 a0, .int .i64 a1, .slice A2 l2.length c2, .slice A3 l3.length c3] w fun e w' => e = .returned (.tuple #[.slice none 0 0, .int .i64 0, .int .i64 1]) ∧ Below w.heap.size w w' := by
 have HR2 := Aside0.mk hr2
 have HC2 := Aside0.mk hc2
 have HR3 := Aside0.mk hr3
 have HC3 := Aside0.mk hc3
 clear hr2 hc2 hr3 hc3
 have HB := Aside0.mk (Below.refl w.heap.size w)
 rcases h with h | ⟨bs, h, h200, h'⟩
 ·have HE := Aside0.mk (show charges_Bounds.f a0 a1 l3 = some _ from congrArg some h)
  clear h
  go_enter Try.func16, Try.ntmps16
  go_wp2_with (first | ((with_reducible refine gate_dst (N := 4) rfl ?_); refine box_event ?hg (N := 4) ?hd (cs := #[.int .i64 a0]) (t := 3) ?hr ?_; (case hd => rfl); (case hg => rfl); (case hr => first | (go_simp; done) | (go_simp; rfl)); intro gc hg_C wc hbox_ hb_; have n0_ := Aside0.mk (below_step HB.out hb_); have BC := Aside0.mk hbox_; have GC := Aside0.mk (show w.heap.size ≤ gc by rw [hg_C]; exact below_size HB.out); have EC := Aside0.mk hg_C; have hcc0 : wc.cell? ⟨gc, 0, none⟩ = some (.int .i64 a0) := (blk_cell hbox_ 0).trans rfl; have hfc0 := blk_frozen hbox_ 0; clear HB hg_C hbox_ hb_; have HB := n0_; clear n0_) | (go_at_call 13; (with_reducible refine (charges_Bounds.calls a0 a1 A3 c3 l3 _ _ _ (Kd.C_below HR3.out HB.out) HC3.out HE.out).mono ?_); rintro e w2 ⟨v2, rfl, hR_, hb_⟩; have n0_ := Aside0.mk (below_step HB.out hb_); obtain ⟨Ab, cb, rfl⟩ := Kd.R_slice hR_; clear HB hb_ hR_; have HB := n0_; clear n0_))
  go_ret3
  exact ⟨rfl, HB.out⟩
 ·have HE := Aside0.mk (show charges_Bounds.f a0 a1 l3 = some _ from congrArg some h)
  by_cases hl : l2.length = l3.length
  ·have e1 : ((l2.length : Int) == (l3.length : Int)) = true := beq_iff_eq.2 (by omega)
   have e2 : ((l2.length : Int) != (l3.length : Int)) = false := by rw [bne_eq_false_iff_eq]; omega
   have hh : homesB 0 l2 = false := by
    rcases h' with h' | h'
    ·exact absurd hl h'
    ·exact h'
   have HH := Aside0.mk hh
   have HN2 := Aside0.mk (show l2.length ≤ 140737488355328 by omega)
   clear h h' hl hh h200
   go_enter Try.func16, Try.ntmps16
   go_wp2_with (first | ((with_reducible refine gate_dst (N := 4) rfl ?_); refine box_event ?hg (N := 4) ?hd (cs := #[.int .i64 a0]) (t := 3) ?hr ?_; (case hd => rfl); (case hg => rfl); (case hr => first | (go_simp; done) | (go_simp; rfl)); intro gc hg_C wc hbox_ hb_; have n0_ := Aside0.mk (below_step HB.out hb_); have BC := Aside0.mk hbox_; have GC := Aside0.mk (show w.heap.size ≤ gc by rw [hg_C]; exact below_size HB.out); have EC := Aside0.mk hg_C; have hcc0 : wc.cell? ⟨gc, 0, none⟩ = some (.int .i64 a0) := (blk_cell hbox_ 0).trans rfl; have hfc0 := blk_frozen hbox_ 0; clear HB hg_C hbox_ hb_; have HB := n0_; clear n0_) | (go_at_call 13; (with_reducible refine (charges_Bounds.calls a0 a1 A3 c3 l3 _ _ _ (Kd.C_below HR3.out HB.out) HC3.out HE.out).mono ?_); rintro e w2 ⟨v2, rfl, hR_, hb_⟩; have n0_ := Aside0.mk (below_step HB.out hb_); obtain ⟨Ab, cb, rfl⟩ := Kd.R_slice hR_; have HRB := Aside0.mk (Kd.R_lower hR_ (below_size HB.out)); have BC := Aside0.mk (blk_below BC.out hb_); replace hcc0 := (hb_.cell (World.block_lt_of_cell? _ _ hcc0)).trans hcc0; clear HB hb_ hR_; have HB := n0_; clear n0_) | (go_at_call 35; (with_reducible refine (homes_any A2 c2 l2 _ _ (Kd.C_below HR2.out HB.out) HC2.out HN2.out HH.out).mono ?_); rintro e w3 ⟨rfl, hdr⟩; have hb_ := hdr.below; have n0_ := Aside0.mk (below_step HB.out hb_); have HRB := Aside0.mk (Kd.R_below HRB.out hb_); have BC := Aside0.mk (blk_below BC.out hb_); replace hcc0 := (hb_.cell (World.block_lt_of_cell? _ _ hcc0)).trans hcc0; clear HB hb_ hdr; have HB := n0_; clear n0_))
   go_ret3
   exact ⟨rfl, HB.out⟩
  ·have e1 : ((l2.length : Int) == (l3.length : Int)) = false := beq_eq_false_iff_ne.2 (by omega)
   have e2 : ((l2.length : Int) != (l3.length : Int)) = true := by rw [bne_iff_ne]; omega
   clear h h' hl h200
   go_enter Try.func16, Try.ntmps16
   go_wp2_with (first | ((with_reducible refine gate_dst (N := 4) rfl ?_); refine box_event ?hg (N := 4) ?hd (cs := #[.int .i64 a0]) (t := 3) ?hr ?_; (case hd => rfl); (case hg => rfl); (case hr => first | (go_simp; done) | (go_simp; rfl)); intro gc hg_C wc hbox_ hb_; have n0_ := Aside0.mk (below_step HB.out hb_); have BC := Aside0.mk hbox_; have GC := Aside0.mk (show w.heap.size ≤ gc by rw [hg_C]; exact below_size HB.out); have EC := Aside0.mk hg_C; have hcc0 : wc.cell? ⟨gc, 0, none⟩ = some (.int .i64 a0) := (blk_cell hbox_ 0).trans rfl; have hfc0 := blk_frozen hbox_ 0; clear HB hg_C hbox_ hb_; have HB := n0_; clear n0_) | (go_at_call 13; (with_reducible refine (charges_Bounds.calls a0 a1 A3 c3 l3 _ _ _ (Kd.C_below HR3.out HB.out) HC3.out HE.out).mono ?_); rintro e w2 ⟨v2, rfl, hR_, hb_⟩; have n0_ := Aside0.mk (below_step HB.out hb_); obtain ⟨Ab, cb, rfl⟩ := Kd.R_slice hR_; have HRB := Aside0.mk (Kd.R_lower hR_ (below_size HB.out)); have BC := Aside0.mk (blk_below BC.out hb_); replace hcc0 := (hb_.cell (World.block_lt_of_cell? _ _ hcc0)).trans hcc0; clear HB hb_ hR_; have HB := n0_; clear n0_))
   go_ret3
   exact ⟨rfl, HB.out⟩
attribute [local go_sem] Oper.semAt_some
set_option maxHeartbeats 16000000 in
theorem share_good (a0 a1 : Int) (A2 : Option Addr) (c2 : Nat) (l2 : List Int) (A3 : Option Addr) (c3 : Nat) (l3 : List (S38)) (bs : List (S38)) (w : World) (hr2 : Kd.C (Kd.int .i64) w A2 l2.length l2) (hc2 : l2.length ≤ c2) (hr3 : Kd.C k38 w A3 l3.length l3) (hc3 : l3.length ≤ c3)
  (h200 : l3.length ≤ 200) (hb : boundsC a0 a1 l3 = (bs, 0)) (hbl : bs.length = l3.length) (hl : l2.length = l3.length) (hh : homesB 0 l2 = true) :
  Calls Try.prog 16 #[.int .i64 a0, .int .i64 a1, .slice A2 l2.length c2, .slice A3 l3.length c3] w fun e w' => Below w.heap.size w w' ∧
   ((a1 < leastN l3 l3.length ∧ e = .returned (.tuple #[.slice none 0 0, .int .i64 0, .int .i64 30])) ∨
    (¬ a1 < leastN l3 l3.length ∧ ∃ v, e = .returned (.tuple #[v, .int .i64 (wrap64 (a0 - (lowAll a0 (downTo l3.length l3.length) (billsN l2 bs l3.length l3.length, sumN bs l3.length)).2)), .int .i64 0]) ∧
     Kd.R k40 40 w' w.heap.size (fun _ => True) v (lowAll a0 (downTo l3.length l3.length) (billsN l2 bs l3.length l3.length, sumN bs l3.length)).1)) := by
 refine (callsIn_wide (n := 5)).1 ?_
 refine callsIn_of_wp_marks Try.func16 rfl trivial ?_ rfl
 simp only [Try.ntmps16, List.size_toArray, List.length_cons, List.length_nil, Nat.reduceAdd, Nat.reduceSub, Array.replicate_succ, Array.replicate_zero, List.push_toArray, List.append_toArray, List.nil_append, List.cons_append]
 refine wpIn_wide.2 (wp_calm ?_)
 have hu38 := Try.underlying38
 have hu40 := Try.underlying40
 have hu71 := Try.underlying71
 have HR2 := Aside0.mk hr2
 have HC2 := Aside0.mk hc2
 have HR3 := Aside0.mk hr3
 have HC3 := Aside0.mk hc3
 have HN2 := Aside0.mk (show l2.length ≤ 140737488355328 by omega)
 have H200 := Aside0.mk h200
 have HE := Aside0.mk (show charges_Bounds.f a0 a1 l3 = some _ from congrArg some hb)
 have HBL := Aside0.mk hbl
 have HL := Aside0.mk hl
 have HH := Aside0.mk hh
 have e1 : ((l2.length : Int) == (l3.length : Int)) = true := beq_iff_eq.2 (by omega)
 have e2 : ((l2.length : Int) != (l3.length : Int)) = false := by rw [bne_eq_false_iff_eq]; omega
 clear hr2 hc2 hr3 hc3 h200 hb hbl hl hh
 have HB := Aside0.mk (Below.refl w.heap.size w)
 go_wp2_with (first | ((with_reducible refine gate_dst (N := 4) rfl ?_); refine box_event ?hg (N := 4) ?hd (cs := #[.int .i64 a0]) (t := 3) ?hr ?_; (case hd => rfl); (case hg => rfl); (case hr => first | (go_simp; done) | (go_simp; rfl)); intro gc hg_C wc hbox_ hb_; have n0_ := Aside0.mk (below_step HB.out hb_); have BC := Aside0.mk hbox_; have GC := Aside0.mk (show w.heap.size ≤ gc by rw [hg_C]; exact below_size HB.out); have EC := Aside0.mk hg_C; have hcc0 : wc.cell? ⟨gc, 0, none⟩ = some (.int .i64 a0) := (blk_cell hbox_ 0).trans rfl; have hfc0 := blk_frozen hbox_ 0; clear HB hg_C hbox_ hb_; have HB := n0_; clear n0_) | (go_at_call 13; (with_reducible refine (charges_Bounds.calls a0 a1 A3 c3 l3 _ _ _ (Kd.C_below HR3.out HB.out) HC3.out HE.out).mono ?_); rintro e w2 ⟨v2, rfl, hR_, hb_⟩; have n0_ := Aside0.mk (below_step HB.out hb_); obtain ⟨Ab, cb, rfl⟩ := Kd.R_slice hR_; rw [HBL.out] at hR_; rw [HBL.out]; have HRB := Aside0.mk (Kd.R_lower hR_ (below_size HB.out)); have BC := Aside0.mk (blk_below BC.out hb_); replace hcc0 := (hb_.cell (World.block_lt_of_cell? _ _ hcc0)).trans hcc0; clear HB hb_ hR_; have HB := n0_; clear n0_) | (go_at_call 35; (with_reducible refine (homes_any A2 c2 l2 _ _ (Kd.C_below HR2.out HB.out) HC2.out HN2.out HH.out).mono ?_); rintro e w3 ⟨rfl, hdr⟩; have hb_ := hdr.below; have n0_ := Aside0.mk (below_step HB.out hb_); have HRB := Aside0.mk (Kd.R_below HRB.out hb_); have BC := Aside0.mk (blk_below BC.out hb_); replace hcc0 := (hb_.cell (World.block_lt_of_cell? _ _ hcc0)).trans hcc0; clear HB hb_ hdr; have HB := n0_; clear n0_) | ((with_reducible refine gate_dst (N := 44) rfl ?_); refine Kd.R_make k40 _ 71 rfl (N := 44) rfl 69 _ _ rfl (l3.length : Int) rfl rfl Try.underlying69 (.agg #[.int .i64 0, .int .i64 0, .int .i64 0, .int .i64 0, .bool false]) 40 infoB rfl (by decide) (by omega) z40 (ok := fun _ => True) (okp := fun _ => True) (k40_mkM _ _ _ z40) (fun _ hk => hk) trivial (by omega) (by have := H200.out; omega) (Below.refl _ _) (Nat.le_refl _) ?_; intro v4 w4 ho_ hb_ hg_ hnew_; rw [Int.toNat_natCast] at ho_; obtain ⟨Al, cl, rfl⟩ := Kd.R_slice ho_; rw [List.length_replicate] at ho_; rw [List.length_replicate]; have n0_ := Aside0.mk (below_step HB.out hb_); have HRL := Aside0.mk (Kd.R_lower ho_ (below_size HB.out)); have HRB := Aside0.mk (Kd.R_below HRB.out hb_); have BC := Aside0.mk (blk_below BC.out hb_); replace hcc0 := (hb_.cell (World.block_lt_of_cell? _ _ hcc0)).trans hcc0; clear HB hb_ ho_ hg_ hnew_; have HB := n0_; clear n0_) | ((with_reducible refine gate_dst (N := 13) rfl ?_); refine box_event ?hg (N := 13) ?hd (cs := #[.slice none 0 0]) (t := 69) ?hr ?_; (case hd => rfl); (case hg => rfl); (case hr => first | (go_simp; done) | (go_simp; rfl)); intro gb hg_B w5 hbox_ hb_; have n0_ := Aside0.mk (below_step HB.out hb_); have BB := Aside0.mk hbox_; have GB := Aside0.mk (show w.heap.size ≤ gb by rw [hg_B]; exact below_size HB.out); have EB := Aside0.mk hg_B; have hcB0 : w5.cell? ⟨gb, 0, none⟩ = some (.slice none 0 0) := (blk_cell hbox_ 0).trans rfl; have hfB0 := blk_frozen hbox_ 0; have HRL := Aside0.mk (Kd.R_below HRL.out hb_); have HRB := Aside0.mk (Kd.R_below HRB.out hb_); have BC := Aside0.mk (blk_below BC.out hb_); replace hcc0 := (hb_.cell (World.block_lt_of_cell? _ _ hcc0)).trans hcc0; clear HB hg_B hbox_ hb_; have HB := n0_; clear n0_) | ((with_reducible refine gate_dst (N := 14) rfl ?_); refine box_event ?hg (N := 14) ?hd (cs := #[.int .i64 0]) (t := 3) ?hr ?_; (case hd => rfl); (case hg => rfl); (case hr => first | (go_simp; done) | (go_simp; rfl)); intro gs hg_S w6 hbox_ hb_; have n0_ := Aside0.mk (below_step HB.out hb_); have BS := Aside0.mk hbox_; have GS := Aside0.mk (show w.heap.size ≤ gs by rw [hg_S]; exact below_size HB.out); have ES := Aside0.mk hg_S; have hcS0 : w6.cell? ⟨gs, 0, none⟩ = some (.int .i64 0) := (blk_cell hbox_ 0).trans rfl; have hfS0 := blk_frozen hbox_ 0; have hne1_ : (gb = gs) = False := eq_false (by have := blk_lt BB.out; omega); have hne2_ : (gs = gb) = False := eq_false (by have := blk_lt BB.out; omega); have NCS := Aside0.mk (show gc ≠ gs by have := blk_lt BC.out; omega); have HRL := Aside0.mk (Kd.R_below HRL.out hb_); have HRB := Aside0.mk (Kd.R_below HRB.out hb_); have BC := Aside0.mk (blk_below BC.out hb_); replace hcc0 := (hb_.cell (World.block_lt_of_cell? _ _ hcc0)).trans hcc0; have BB := Aside0.mk (blk_below BB.out hb_); replace hcB0 := (hb_.cell (World.block_lt_of_cell? _ _ hcB0)).trans hcB0; have hfB0 := blk_frozen BB.out 0; clear HB hg_S hbox_ hb_; have HB := n0_; clear n0_))
 obtain ⟨w7, hw7⟩ : ∃ w7, w7 = (w6.setCell ⟨gb, 0, none⟩ (.slice Al l3.length cl)).setCell ⟨gs, 0, none⟩ (.int .i64 0) := ⟨_, rfl⟩
 rw [← hw7]
 have nbs : gb ≠ gs := blk_ne BB.out BS.out (by decide)
 have ncb : gc ≠ gb := blk_ne BC.out BB.out (by decide)
 have BB7 := Aside0.mk (show w7.heap[gb]? = some (.cells #[.slice Al l3.length cl] 69 (0, 0)) by rw [hw7]; exact blk_far (blk_put BB.out 0 _ rfl) nbs _)
 have BS7 := Aside0.mk (show w7.heap[gs]? = some (.cells #[.int .i64 0] 3 (0, 0)) by rw [hw7]; exact blk_put (blk_far BS.out nbs.symm _) 0 _ rfl)
 have BC7 := Aside0.mk (show w7.heap[gc]? = some (.cells #[.int .i64 a0] 3 (0, 0)) by rw [hw7]; exact blk_far (blk_far BC.out ncb _) NCS.out _)
 have HRL7 := Aside0.mk (show Kd.R k40 71 w7 w.heap.size (fun _ => True) (.slice Al l3.length cl) (List.replicate l3.length z40) by rw [hw7]; exact Kd.R_set (Kd.R_set HRL.out BB.out (by decide) _ _) (blk_far BS.out nbs.symm _) (by decide) _ _)
 have HRB7 := Aside0.mk (show Kd.R k38 38 w7 w.heap.size (fun _ => True) (.slice Ab l3.length cb) bs by rw [hw7]; exact Kd.R_set (Kd.R_set HRB.out BB.out (by decide) _ _) (blk_far BS.out nbs.symm _) (by decide) _ _)
 have HB7 := Aside0.mk (show Below w.heap.size w w7 by rw [hw7]; exact below_set (below_set HB.out GB.out) GS.out)
 clear hne1_ hne2_ hw7 nbs ncb BB BS BC HRL HRB HB hcc0 hfc0 hcB0 hfB0 hcS0 hfS0
 go_loopg [15, 47] l3.length (fun kq v15 v47 wr => ∃ (n : Nat) (y : List S40) (s q : Int), v15 = .int .i64 q ∧ v47 = .int .i64 n ∧ Aside0 (kq + n = l3.length) ∧ Aside0 (y = billsN l2 bs l3.length n) ∧ Aside0 (s = sumN bs n) ∧ Aside0 (q = leastN l3 n) ∧ Aside0 (Kd.R k40 71 wr w.heap.size (fun _ => True) (.slice Al l3.length cl) y)
  ∧ Aside0 (wr.heap[gb]? = some (.cells #[.slice Al l3.length cl] 69 (0, 0))) ∧ Aside0 (wr.heap[gs]? = some (.cells #[.int .i64 s] 3 (0, 0))) ∧ Aside0 (wr.heap[gc]? = some (.cells #[.int .i64 a0] 3 (0, 0))) ∧ Aside0 (Kd.R k38 38 wr w.heap.size (fun _ => True) (.slice Ab l3.length cb) bs) ∧ Aside0 (Below w.heap.size w wr))
 case atStart => exact ⟨0, _, _, _, rfl, rfl, ⟨by omega⟩, ⟨rfl⟩, ⟨rfl⟩, ⟨rfl⟩, HRL7, BB7, BS7, BC7, HRB7, HB7⟩
 case round =>
  clear HRL7 BB7 BS7 BC7 HRB7 HB7
  obtain ⟨n, y, s, q, rfl, rfl, HM, HY, HS, HQ, HRL, BB, BS, BC, HRB, HB⟩ := hrel
  have HYL := Aside0.mk (show y.length = l3.length by rw [HY.out, billsN_len])
  by_cases hlt : n < l3.length
  ·obtain ⟨i, hi⟩ : ∃ i : Int, i = (n : Int) := ⟨_, rfl⟩
   rw [← hi]
   have HI2 := Aside0.mk (show 0 ≤ i ∧ i < l3.length ∧ i = (n : Int) from ⟨by omega, by omega, hi⟩)
   have d7 : decide (i < (l3.length : Int)) = true := decide_eq_true HI2.out.2.1
   have ci2 : (0 ≤ i) = True := eq_true HI2.out.1
   have ci3 : (i < l3.length) = True := eq_true HI2.out.2.1
   have ci4 : (i < l2.length) = True := eq_true (by have := HI2.out; have := HL.out; omega)
   obtain ⟨adb, eb, hx0, hx1⟩ := at_T38 (Kd.R_reads' HRB.out).2.2 i HI2.out.1 (by have := HI2.out; have := HBL.out; omega)
   subst eb
   obtain ⟨adh, eh, hxh⟩ := Kd.at_int (Kd.C_below HR2.out HB.out) i HI2.out.1 (by have := HI2.out; have := HL.out; omega)
   subst eh
   obtain ⟨adl, el, hl0, hl1⟩ := at_T38 (Kd.C_below HR3.out HB.out) i HI2.out.1 HI2.out.2.1
   subst el
   obtain ⟨go, cgo, eo, gob, gol, ogl, hogl⟩ := Kd.R_form HRL.out (by have := HI2.out; have := HYL.out; omega)
   injection eo with ea en ec
   subst ea
   subst ec
   have HGC := Aside0.mk hogl
   have HGB := Aside0.mk gob
   clear hi hlt en gob gol hogl hl1
   have hz1 : i + 1 ≤ 9223372036854775807 := by have := HI2.out; have := H200.out; omega
   have hz2 : -9223372036854775808 ≤ i + 1 := by have := HI2.out; omega
   obtain ⟨x0, hx0'⟩ : ∃ x0, x0 = (rd_T38 bs i).f0 := ⟨_, rfl⟩
   obtain ⟨x1, hx1'⟩ : ∃ x1, x1 = (rd_T38 bs i).f1 := ⟨_, rfl⟩
   obtain ⟨xh, hxh'⟩ : ∃ xh, xh = rd l2 i := ⟨_, rfl⟩
   obtain ⟨xl, hxl'⟩ : ∃ xl, xl = (rd_T38 l3 i).f0 := ⟨_, rfl⟩
   rw [← hx0'] at hx0
   rw [← hx1'] at hx1
   rw [← hxh'] at hxh
   rw [← hxl'] at hl0
   have HX := Aside0.mk (show (x0 = (rd_T38 bs i).f0 ∧ x1 = (rd_T38 bs i).f1) ∧ xh = rd l2 i ∧ xl = (rd_T38 l3 i).f0 from ⟨⟨hx0', hx1'⟩, hxh', hxl'⟩)
   clear hx0' hx1' hxh' hxl'
   have HXH := Aside0.mk hxh
   have HL0 := Aside0.mk hl0
   have HB0 := Aside0.mk (Below.refl wr.heap.size wr)
   clear hxh hl0
   go_upto_region 10 with (first | ((with_reducible refine gate_dst (N := 17) rfl ?_); refine box_event ?hg (N := 17) ?hd (cs := #[.int .i64 0, .int .i64 0]) (t := 38) ?hr ?_; (case hd => rfl); (case hg => rfl); (case hr => first | (go_simp; done) | (go_simp; rfl)); intro gx hg_X w9 hbox_ hb_; have n0_ := Aside0.mk (below_step HB0.out hb_); have BX := Aside0.mk hbox_; have GX := Aside0.mk (show wr.heap.size ≤ gx by rw [hg_X]; exact below_size HB0.out); have EX := Aside0.mk hg_X; have hcx0 : w9.cell? ⟨gx, 0, none⟩ = some (.int .i64 0) := (blk_cell hbox_ 0).trans rfl; have hfx0 := blk_frozen hbox_ 0; have hcx1 : w9.cell? ⟨gx, 1, none⟩ = some (.int .i64 0) := (blk_cell hbox_ 1).trans rfl; have hfx1 := blk_frozen hbox_ 1; clear HB0 hg_X hbox_ hb_; have HB0 := n0_; clear n0_))
   obtain ⟨w10, hw10⟩ : ∃ w10, w10 = (w9.setCell ⟨gx, 0, none⟩ (.int .i64 x0)).setCell ⟨gx, 1, none⟩ (.int .i64 x1) := ⟨_, rfl⟩
   rw [← hw10]
   have BX10 := Aside0.mk (show w10.heap[gx]? = some (.cells #[.int .i64 x0, .int .i64 x1] 38 (0, 0)) by rw [hw10]; exact blk_put2 BX.out _ _)
   have HB10 := Aside0.mk (show Below wr.heap.size wr w10 by rw [hw10]; exact below_put2 HB0.out GX.out _ _)
   clear hw10 BX HB0 hcx0 hcx1 hfx0 hfx1 hx0 hx1
   have hcx0 : w10.cell? ⟨gx, 0, none⟩ = some (.int .i64 x0) := (blk_cell BX10.out 0).trans rfl
   have hcx1 : w10.cell? ⟨gx, 1, none⟩ = some (.int .i64 x1) := (blk_cell BX10.out 1).trans rfl
   have hcb0 : w10.cell? ⟨gb, 0, none⟩ = some (.slice (some ⟨go, 0, none⟩) l3.length cl) := (blk_cell (blk_below BB.out HB10.out) 0).trans rfl
   have hch0 : w10.cell? (adh.add i.toNat) = some (.int .i64 xh) := (HB10.out.cell (World.block_lt_of_cell? _ _ HXH.out)).trans HXH.out
   have HE := Aside0.mk (bill_elem (Kd.R_below HRL.out HB10.out) i HI2.out.1 HI2.out.2.1)
   have hz0_ := HE.out.1.1
   have hz1_ := HE.out.1.2.1
   have hz2_ := HE.out.1.2.2.1
   have hz3_ := HE.out.1.2.2.2.1
   have hz4_ := HE.out.1.2.2.2.2
   have hy0_ : w10.frozen? ⟨go, i.toNat * 5, none⟩ = false := HE.out.2.1 0
   have hy1_ := HE.out.2.1 1
   have hy2_ := HE.out.2.1 2
   have hy3_ := HE.out.2.1 3
   have hy4_ := HE.out.2.1 4
   refine start_ (n := 22) (S := fun w' => w'.cell? ⟨gb, 0, none⟩ = some (.slice (some ⟨go, 0, none⟩) l3.length cl) ∧ w'.cell? (adh.add i.toNat) = some (.int .i64 xh) ∧ w'.cell? ⟨gx, 0, none⟩ = some (.int .i64 x0) ∧ w'.cell? ⟨gx, 1, none⟩ = some (.int .i64 x1)) (ds := [21]) #[n_, n_, n_, n_, n_, n_, n_, n_, n_, n_, n_, n_, n_, n_, n_, n_, n_, n_, n_, n_, n_, n_] (by kernel_rfl) rfl rfl ⟨hcb0, hch0, hcx0, hcx1⟩ (fun hHeld => ?_)
   refine pv_ 1 53 (w_ 22 2) rfl ?_
   refine pv_ 2 54 (w_ 22 6) rfl ?_
   refine pv_ 3 55 (w_ 22 14) rfl ?_
   refine pv_ 4 56 (w_ 22 30) rfl ?_
   refine pv_ 6 58 (w_ 22 94) rfl ?_
   refine pv_ 8 60 (w_ 22 350) rfl ?_
   refine pv_ 13 65 (w_ 22 8542) rfl ?_
   refine pv_ 15 67 (w_ 22 41310) rfl ?_
   refine tb_ 0 52 (w_ 22 41311) rfl hHeld (by rintro w' ⟨s0, s1, s2, s3⟩; go_simp; with_reducible rfl) ?_
   refine tb_ 5 57 (w_ 22 41343) rfl hHeld (by rintro w' ⟨s0, s1, s2, s3⟩; go_simp; with_reducible rfl) ?_
   refine tb_ 7 59 (w_ 22 41471) rfl hHeld (by rintro w' ⟨s0, s1, s2, s3⟩; go_simp; with_reducible rfl) ?_
   refine tb_ 9 61 (w_ 22 41983) rfl hHeld (by rintro w' ⟨s0, s1, s2, s3⟩; go_simp; with_reducible rfl) ?_
   refine pv_ 10 62 (w_ 22 43007) rfl ?_
   refine pv_ 11 63 (w_ 22 45055) rfl ?_
   refine tb_ 12 64 (w_ 22 49151) rfl hHeld (by rintro w' ⟨s0, s1, s2, s3⟩; go_simp; with_reducible rfl) ?_
   refine tb_ 14 66 (w_ 22 65535) rfl hHeld (by rintro w' ⟨s0, s1, s2, s3⟩; go_simp; with_reducible rfl) ?_
   refine tb_ 16 68 (w_ 22 131071) rfl hHeld (by rintro w' ⟨s0, s1, s2, s3⟩; go_simp; with_reducible rfl) ?_
   refine pv_ 17 69 (w_ 22 262143) rfl ?_
   refine pv_ 18 70 (w_ 22 524287) rfl ?_
   refine pv_ 19 71 (w_ 22 1048575) rfl ?_
   refine pv_ 20 72 (w_ 22 2097151) rfl ?_
   refine last_ (i := 21) (N := none) (w_ 22 4194303) rfl rfl (by kernel_rfl) (by decide) (fun K hK => ?_)
   refine skip_ (w1 := ?_) (by rfl) rfl ?_ ?_
   rotate_left
   ·go_simp
    rfl
   refine hK.out _ _ ?_
   clear hK K
   refine done_ (by kernel_rfl) ?_
   go_wp2_with (fail)
   obtain ⟨xc, hxc⟩ : ∃ xc, xc = wrap64 (Int.tdiv (wrap64 (x0 + x1)) 2) := ⟨_, rfl⟩
   rw [← hxc]
   obtain ⟨w11, hw11⟩ : ∃ w11, w11 = (((((w10.setCell ⟨go, i.toNat * 5, none⟩ (.int .i64 xh)).setCell ⟨go, i.toNat * 5 + 1, none⟩ (.int .i64 xc)).setCell ⟨go, i.toNat * 5 + 2, none⟩ (.int .i64 x0)).setCell ⟨go, i.toNat * 5 + 3, none⟩ (.int .i64 x1)).setCell ⟨go, i.toNat * 5 + 4, none⟩ (.bool (x0 == x1))).drew := ⟨_, rfl⟩
   rw [← hw11]
   have hP : Kd.R k40 71 w11 w.heap.size (fun _ => True) (.slice (some ⟨go, 0, none⟩) l3.length cl) (y.set i.toNat (billOf xh ⟨x0, x1⟩)) ∧ w10.grownBy w11 (some go) := by
    have h1 := HE.out.2.2.1 (billOf xh ⟨x0, x1⟩)
    rw [hw11, hxc]
    exact ⟨Kd.R_drew h1.1, grown_drew h1.2⟩
   have HXC := Aside0.mk hxc
   have HP := Aside0.mk hP
   have hog10 := blk_below HGC.out HB10.out
   have BS11 := Aside0.mk (blk_over (blk_below BS.out HB10.out) hog10 (by decide) hP.2)
   have BB11 := Aside0.mk (blk_over (blk_below BB.out HB10.out) hog10 (by decide) hP.2)
   have BC11 := Aside0.mk (blk_over (blk_below BC.out HB10.out) hog10 (by decide) hP.2)
   have HRB11 := Aside0.mk (R_overB (Kd.R_below HRB.out HB10.out) hog10 (by decide) hP.2)
   have HB11 := Aside0.mk (grown_below (below_step HB.out HB10.out) hP.2 (fun k e => by cases e; exact HGB.out))
   have HYL1 := Aside0.mk (show i.toNat < y.length by have := HI2.out; have := HYL.out; omega)
   have hce : w11.cell? ⟨go, i.toNat * 5 + 1, none⟩ = some (.int .i64 xc) := by
    have h1 := (bill_elem hP.1 i HI2.out.1 HI2.out.2.1).1.2.1
    rw [rd_setC y i _ HYL1.out] at h1
    rw [h1, HXC.out]
    rfl
   have hcs0 : w11.cell? ⟨gs, 0, none⟩ = some (.int .i64 s) := (blk_cell BS11.out 0).trans rfl
   have hcb1 : w11.cell? ⟨gb, 0, none⟩ = some (.slice (some ⟨go, 0, none⟩) l3.length cl) := (blk_cell BB11.out 0).trans rfl
   have hfs0 := blk_frozen BS11.out 0
   clear hw11 hxc hP hog10 hcx0 hcx1 hcb0 hch0 hz0_ hz1_ hz2_ hz3_ hz4_ hy0_ hy1_ hy2_ hy3_ hy4_ HE
   refine start_ (n := 9) (S := fun w' => w'.cell? ⟨gs, 0, none⟩ = some (.int .i64 s) ∧ w'.cell? ⟨gb, 0, none⟩ = some (.slice (some ⟨go, 0, none⟩) l3.length cl) ∧ w'.cell? ⟨go, i.toNat * 5 + 1, none⟩ = some (.int .i64 xc)) (ds := [8]) #[n_, n_, n_, n_, n_, n_, n_, n_, n_] (by kernel_rfl) rfl rfl ⟨hcs0, hcb1, hce⟩ (fun hHeld => ?_)
   refine pv_ 2 75 (w_ 9 4) rfl ?_
   refine tb_ 0 73 (w_ 9 5) rfl hHeld (by rintro w' ⟨s0, s1, s2⟩; go_simp; with_reducible rfl) ?_
   refine tb_ 1 74 (w_ 9 7) rfl hHeld (by rintro w' ⟨s0, s1, s2⟩; go_simp; with_reducible rfl) ?_
   refine pv_ 3 76 (w_ 9 15) rfl ?_
   refine pv_ 4 77 (w_ 9 31) rfl ?_
   refine pv_ 5 78 (w_ 9 63) rfl ?_
   refine tb_ 6 79 (w_ 9 127) rfl hHeld (by rintro w' ⟨s0, s1, s2⟩; go_simp; with_reducible rfl) ?_
   refine pv_ 7 80 (w_ 9 255) rfl ?_
   refine last_ (i := 8) (N := none) (w_ 9 511) rfl rfl (by kernel_rfl) (by decide) (fun K hK => ?_)
   refine skip_ (w1 := ?_) (by rfl) rfl ?_ ?_
   rotate_left
   ·go_simp
    rfl
   refine hK.out _ _ ?_
   clear hK K
   refine done_ (by kernel_rfl) ?_
   obtain ⟨w12, hw12⟩ : ∃ w12, w12 = (w11.setCell ⟨gs, 0, none⟩ (.int .i64 (wrap64 (s + xc)))).drew := ⟨_, rfl⟩
   rw [← hw12]
   have BS12 := Aside0.mk (show w12.heap[gs]? = some (.cells #[.int .i64 (wrap64 (s + xc))] 3 (0, 0)) by rw [hw12]; exact blk_drew (blk_put BS11.out 0 _ rfl))
   have BB12 := Aside0.mk (show w12.heap[gb]? = some (.cells #[.slice (some ⟨go, 0, none⟩) l3.length cl] 69 (0, 0)) by rw [hw12]; exact blk_drew (blk_far BB11.out (blk_ne BB11.out BS11.out (by decide)) _))
   have BC12 := Aside0.mk (show w12.heap[gc]? = some (.cells #[.int .i64 a0] 3 (0, 0)) by rw [hw12]; exact blk_drew (blk_far BC11.out NCS.out _))
   have HRL12 := Aside0.mk (show Kd.R k40 71 w12 w.heap.size (fun _ => True) (.slice (some ⟨go, 0, none⟩) l3.length cl) (y.set i.toNat (billOf xh ⟨x0, x1⟩)) by rw [hw12]; exact Kd.R_drew (Kd.R_set HP.out.1 BS11.out (by decide) _ _))
   have HRB12 := Aside0.mk (show Kd.R k38 38 w12 w.heap.size (fun _ => True) (.slice (some adb) l3.length cb) bs by rw [hw12]; exact Kd.R_drew (Kd.R_set HRB11.out BS11.out (by decide) _ _))
   have HB12 := Aside0.mk (show Below w.heap.size w w12 by rw [hw12]; exact below_drew (below_set HB11.out GS.out))
   clear hw12 hce hcs0 hcb1 hfs0
   obtain ⟨adl', el', hl0, _⟩ := at_T38 (Kd.C_below HR3.out HB12.out) i HI2.out.1 HI2.out.2.1
   cases el'
   rw [← HX.out.2.2] at hl0
   go_wp2
   go_roundg (gk - 1)
   case measure => have := HM.out; have := HI2.out; omega
   case rel =>
    have ei : i.toNat = n := by have := HI2.out; omega
    have ec : ((n : Nat) : Int) = i := by have := HI2.out; omega
    refine ⟨n + 1, _, _, _, rfl, ?_, ⟨by have := HM.out; have := HI2.out; omega⟩, ⟨?_⟩, ⟨?_⟩, ⟨?_⟩, HRL12, BB12, BS12, BC12, HRB12, HB12⟩
    ·have := HI2.out
     first | (rw [show ((n + 1 : Nat) : Int) = i + 1 from by omega]; done) | (simp; omega)
    ·unfold billsN
     rw [foldl_range_succ]
     show _ = (billsN l2 bs l3.length n).set n _
     rw [← HY.out, ei, ec, HX.out.2.1]
     congr 1
     simp only [billOf, HX.out.1.1, HX.out.1.2]
    ·unfold sumN
     rw [foldl_range_succ]
     show _ = wrap64 (sumN bs n + _)
     rw [← HS.out, ec, HXC.out, HX.out.1.1, HX.out.1.2]
    ·unfold leastN
     rw [foldl_range_succ]
     show _ = wrap64 (leastN l3 n + _)
     rw [← HQ.out, ec, HX.out.2.2]
  ·have d7 : decide ((n : Int) < (l3.length : Int)) = false := decide_eq_false (by omega)
   have d7' : decide (n < l3.length) = false := decide_eq_false hlt
   have hnl : n = l3.length := by have := HM.out; omega
   have HY2 := Aside0.mk (show y = billsN l2 bs l3.length l3.length by rw [HY.out, hnl])
   have HS2 := Aside0.mk (show s = sumN bs l3.length by rw [HS.out, hnl])
   have HQ2 := Aside0.mk (show q = leastN l3 l3.length by rw [HQ.out, hnl])
   clear hlt hnl HY HS HQ
   by_cases hq : a1 < q
   ·have dq : decide (a1 < q) = true := decide_eq_true hq
    have HLT := Aside0.mk (show a1 < leastN l3 l3.length by rw [← HQ2.out]; exact hq)
    clear hq
    go_wp2
    show bodyPostM _ _ _ _ _ .ret _ _
    exact postM_ret (results_list (rs := [.tmp 8, .tmp 9, .tmp 10]) rfl (by simp) (.tmp (.tmp (.tmp .nil)))) ⟨HB.out, .inl ⟨HLT.out, rfl⟩⟩
   have dq : decide (a1 < q) = false := decide_eq_false hq
   have HLT := Aside0.mk (show ¬ a1 < leastN l3 l3.length by rw [← HQ2.out]; exact hq)
   clear hq
   have hcb0 : wr.cell? ⟨gb, 0, none⟩ = some (.slice Al l3.length cl) := (blk_cell BB.out 0).trans rfl
   go_wp2_with (go_at_call 36; refine (backB_calls _ _ _ _).mono ?_; rintro e w' ⟨rfl, rfl⟩)
   obtain ⟨gr, hgr⟩ : ∃ gr, gr = wr.heap.size := ⟨_, rfl⟩
   rw [← hgr]
   obtain ⟨W3, hW3⟩ : ∃ W3, W3 = wr.alloc (Obj.cells #[Value.slice Al l3.length cl] 69) := ⟨_, rfl⟩
   rw [← hW3]
   have hb3 : Below wr.heap.size wr W3 := by rw [hW3]; exact below_alloc (Below.refl _ _) _
   have hs3 : W3.heap.size = gr + 1 := by rw [hW3, hgr]; simp
   have bk3 : W3.heap[gr]? = some (.cells #[.slice Al l3.length cl] 69 (0, 0)) := by rw [hW3, hgr]; exact blk_new _ _
   have hk1 : w.heap.size ≤ W3.heap.size := by have := below_size HB.out; omega
   have hk2 : gr < W3.heap.size := by omega
   clear hs3 hgr hW3
   refine (wpIn_wide (n := 4)).1 ?_
   refine at_frame (fun T0 hT0 => ?_)
   refine wpIn_rangeFunc_ownG rfl (by omega) (gf := 56) (lb := #[.pointer (some ⟨gr, 0, none⟩)]) (by subst hT0; rfl) trivial (enters_fn Try.func56 (by kernel_rfl) rfl)
    (backB_stops 3 (by omega) gr w.heap.size Al cl l3.length (by have := H200.out; omega) W3 bk3 ⟨y, HYL.out, Kd.R_below HRL.out hb3⟩) keepB_t (keepB_b hk1 hk2) (Below.refl _ _) (fun _ => rfl)
    (fun pre W => (W.heap[gb]? = some (.cells #[.slice Al l3.length cl] 69 (0, 0)) ∧ W.heap[gs]? = some (.cells #[.int .i64 (lowAll a0 (pre.map (·.1.1)) (y, s)).2] 3 (0, 0)) ∧ W.heap[gc]? = some (.cells #[.int .i64 a0] 3 (0, 0)) ∧ W.heap[gr]? = some (.cells #[.slice Al l3.length cl] 69 (0, 0)))
     ∧ Kd.R k40 71 W w.heap.size (fun _ => True) (.slice Al l3.length cl) (lowAll a0 (pre.map (·.1.1)) (y, s)).1 ∧ Below w.heap.size w W)
    (fun _ _ _ => False)
    (fun st A B row hs hg hr => by
     have hr' : ∀ r, row = some r → ∃ o : Obj, A.heap[r]? = some o ∧ o.isCells = false := fun r e => (hr r e).2
     exact ⟨⟨blk_objs hs.1.1 hg hr', blk_objs hs.1.2.1 hg hr', blk_objs hs.1.2.2.1 hg hr', blk_objs hs.1.2.2.2 hg hr'⟩, R_objs hs.2.1 hg hr', grown_below hs.2.2 hg (fun r e => by have := (hr r e).1; omega)⟩)
    (fun _ _ _ _ _ hs _ _ => hs)
    ⟨⟨blk_below BB.out hb3, blk_below BS.out hb3, blk_below BC.out hb3, bk3⟩, Kd.R_below HRL.out hb3, below_step HB.out hb3⟩
    (fun x => { tmps := ((T0.setIfInBounds 94 (.int .i64 (x.1.1 : Int))).setIfInBounds 95 (.agg #[.int .i64 x.2.f0, .int .i64 x.2.f1, .int .i64 x.2.f2.f0, .int .i64 x.2.f2.f1, .bool x.2.f3])).setIfInBounds 18 (.int .i64 (x.1.1 : Int)), defers := [] }) ?assign ?body ?done ?stop
   case assign =>
    intro lr x W K hK
    subst hT0
    simp only [sI_, s0_, sS_] at hK
    simp only [encB]
    gi_wp2
    exact hK
   case stop =>
    rintro D c pre W _ _ h _
    exact h.elim
   case body =>
    rintro lr pre x W ⟨⟨hb1, hs1, hc1, hr1⟩, hRR, hBW⟩ hlen
    subst hT0
    simp only [sI_, s0_, sS_]
    obtain ⟨p, hp⟩ : ∃ p, p = lowAll a0 (pre.map (·.1.1)) (y, s) := ⟨_, rfl⟩
    rw [← hp] at hs1 hRR
    have HPL := Aside0.mk (show p.1.length = l3.length by rw [hp, lowAll_len]; exact HYL.out)
    have HPP := Aside0.mk hp
    obtain ⟨i, hi⟩ : ∃ i : Int, i = (x.1.1 : Int) := ⟨_, rfl⟩
    rw [← hi]
    have HI2 := Aside0.mk (show 0 ≤ i ∧ i < l3.length ∧ i = (x.1.1 : Int) from ⟨by omega, by have := x.1.2; omega, hi⟩)
    obtain ⟨go, cgo, eo, gob, gol, ogl, hogl⟩ := Kd.R_form hRR (by have := HI2.out; have := HPL.out; omega)
    injection eo with ea en ec
    subst ea
    subst ec
    have HGC := Aside0.mk hogl
    have HGB := Aside0.mk gob
    have ci2 : (0 ≤ i) = True := eq_true HI2.out.1
    have ci3 : (i < l3.length) = True := eq_true HI2.out.2.1
    have hcs0 : W.cell? ⟨gs, 0, none⟩ = some (.int .i64 p.2) := (blk_cell hs1 0).trans rfl
    have hcb0 : W.cell? ⟨gb, 0, none⟩ = some (.slice (some ⟨go, 0, none⟩) l3.length cl) := (blk_cell hb1 0).trans rfl
    have hcc0 : W.cell? ⟨gc, 0, none⟩ = some (.int .i64 a0) := (blk_cell hc1 0).trans rfl
    have HB1 := Aside0.mk hb1
    have HS1 := Aside0.mk hs1
    have HC1 := Aside0.mk hc1
    have HK1 := Aside0.mk hr1
    have HRR := Aside0.mk hRR
    have HBW := Aside0.mk hBW
    have HE := Aside0.mk (bill_elem hRR i HI2.out.1 HI2.out.2.1)
    obtain ⟨bc, hbc⟩ : ∃ bc, bc = (rd_T40 p.1 i).f1 := ⟨_, rfl⟩
    obtain ⟨bl, hbl⟩ : ∃ bl, bl = (rd_T40 p.1 i).f2.f0 := ⟨_, rfl⟩
    have HBC := Aside0.mk hbc
    have HBLO := Aside0.mk hbl
    have HD1 := Aside0.mk (show W.drew.cell? ⟨go, i.toNat * 5 + 1, none⟩ = some (.int .i64 bc) by rw [hbc]; exact HE.out.1.2.1)
    have HD2 := Aside0.mk (show W.drew.cell? ⟨go, i.toNat * 5 + 2, none⟩ = some (.int .i64 bl) by rw [hbl]; exact HE.out.1.2.2.1)
    have HD3 := Aside0.mk (show W.drew.frozen? ⟨go, i.toNat * 5 + 1, none⟩ = false from HE.out.2.1 1)
    clear hb1 hs1 hc1 hr1 hRR hBW hp hi en gob gol hogl hbc hbl
    gi_wp2_with (fail)
    refine start_R (m := 10) (S := fun w' => w'.cell? ⟨gs, 0, none⟩ = some (.int .i64 p.2) ∧ w'.cell? ⟨gb, 0, none⟩ = some (.slice (some ⟨go, 0, none⟩) l3.length cl) ∧ w'.cell? ⟨gc, 0, none⟩ = some (.int .i64 a0)) (ds := [9]) (by kernel_rfl) (by rintro ⟨_, _, h⟩; exact h) #[n_, n_, n_, n_, n_, n_, n_, n_, n_, n_] (by kernel_rfl) rfl rfl ⟨hcs0, hcb0, hcc0⟩ (fun hHeld => ?_)
    refine pv_ 2 98 (w_ 10 4) rfl ?_
    refine tb_ 0 96 (w_ 10 5) rfl hHeld (by rintro w' ⟨s0, s1, s2⟩; go_simp; with_reducible rfl) ?_
    refine tb_ 1 97 (w_ 10 7) rfl hHeld (by rintro w' ⟨s0, s1, s2⟩; go_simp; with_reducible rfl) ?_
    refine pv_ 3 99 (w_ 10 15) rfl ?_
    refine tb_ 4 100 (w_ 10 31) rfl hHeld (by rintro w' ⟨s0, s1, s2⟩; go_simp; with_reducible rfl) ?_
    refine tb_ 5 101 (w_ 10 63) rfl hHeld (by rintro w' ⟨s0, s1, s2⟩; go_simp; with_reducible rfl) ?_
    refine pv_ 6 102 (w_ 10 127) rfl ?_
    refine one_ (i := 7) (N := some 103) (w_ 10 255) rfl rfl (by kernel_rfl) (by decide) (fun K hK => ?_)
    refine goes_ Try.func37 (by kernel_rfl) rfl #[.pointer (some ⟨go, i.toNat * 5, none⟩), .int .i64 (wrap64 (p.2 - a0))] (by rfl) rfl rfl (by simp only [List.map_toArray, List.map_cons, List.map_nil]; rfl) ?_
    with_reducible refine (lower_at go (i.toNat * 5) bc bl (wrap64 (p.2 - a0)) _ HD1.out HD2.out HD3.out).mono ?_
    rintro e w3 ⟨rfl, nd, hw3⟩
    refine ⟨_, rfl, ?_⟩
    have hogw : (W.drew.drewN nd).heap[go]? = _ := HGC.out
    have hP3 := (bill_elem (Kd.R_drewN (Kd.R_drew HRR.out) nd) i HI2.out.1 HI2.out.2.1).2.2.2 (wrap64 (bc - lowBy (wrap64 (p.2 - a0)) bc bl))
    rw [← hw3] at hP3
    have HP3 := Aside0.mk hP3
    have HG3 := Aside0.mk hP3.2
    have HB3 := Aside0.mk (blk_over (show (W.drew.drewN nd).heap[gb]? = _ from HB1.out) hogw (by decide) hP3.2)
    have HS3 := Aside0.mk (blk_over (show (W.drew.drewN nd).heap[gs]? = _ from HS1.out) hogw (by decide) hP3.2)
    have HC3 := Aside0.mk (blk_over (show (W.drew.drewN nd).heap[gc]? = _ from HC1.out) hogw (by decide) hP3.2)
    have HK3 := Aside0.mk (blk_over (show (W.drew.drewN nd).heap[gr]? = _ from HK1.out) hogw (by decide) hP3.2)
    have hq0_ := (blk_cell HS3.out 0).trans rfl
    have hq1_ := blk_frozen HS3.out 0
    clear hw3 hogw hP3
    refine hK.out _ _ ⟨(blk_cell HS3.out 0).trans rfl, (blk_cell HB3.out 0).trans rfl, (blk_cell HC3.out 0).trans rfl⟩ (fun hHeld => ?_)
    clear hK K
    refine norm_ (a' := ?_) ?_ ?_
    rotate_left
    ·show Act.put _ (some 103) _ = _
     simp only [Act.put, sI_, s0_, sS_, i64_w, i32_w]
     rfl
    refine pv_ 8 104 (w_ 10 511) rfl ?_
    refine last_ (i := 9) (N := none) (w_ 10 1023) rfl rfl (by kernel_rfl) (by decide) (fun K hK => ?_)
    refine skip_ (w1 := ?_) (by rfl) rfl ?_ ?_
    rotate_left
    ·go_simp
     rfl
    refine hK.out _ _ ?_
    clear hK K
    refine done_ (by kernel_rfl) ?_
    obtain ⟨w4, hw4⟩ : ∃ w4, w4 = w3.setCell ⟨gs, 0, none⟩ (.int .i64 (wrap64 (p.2 - lowBy (wrap64 (p.2 - a0)) bc bl))) := ⟨_, rfl⟩
    have HB4 := blk_far HB3.out (blk_ne HB3.out HS3.out (by decide)) (p := ⟨gs, 0, none⟩) (.int .i64 (wrap64 (p.2 - lowBy (wrap64 (p.2 - a0)) bc bl)))
    have HK4 := blk_far HK3.out (blk_ne HK3.out HS3.out (by decide)) (p := ⟨gs, 0, none⟩) (.int .i64 (wrap64 (p.2 - lowBy (wrap64 (p.2 - a0)) bc bl)))
    have HC4 := blk_far HC3.out NCS.out (p := ⟨gs, 0, none⟩) (.int .i64 (wrap64 (p.2 - lowBy (wrap64 (p.2 - a0)) bc bl)))
    have HS4 := blk_put HS3.out 0 (.int .i64 (wrap64 (p.2 - lowBy (wrap64 (p.2 - a0)) bc bl))) rfl
    have HR4 := Kd.R_set HP3.out.1 HS3.out (by decide) 0 (.int .i64 (wrap64 (p.2 - lowBy (wrap64 (p.2 - a0)) bc bl)))
    rw [← hw4] at HB4 HK4 HC4 HS4 HR4 ⊢
    have hbel : Below w.heap.size W w4 := by
     rw [hw4]
     exact ((pw_below_drewN (below_drew1 (Below.refl w.heap.size W)) nd).grown HG3.out (show w.heap.size ≤ (W.drew.drewN nd).heap.size by have h_ := below_size HBW.out; exact h_) (fun k e => by cases e; exact HGB.out)).setCell (p := ⟨gs, 0, none⟩) GS.out _
    have hko : KeepsOthers W w4 := by
     rw [hw4]
     refine (KeepsOthers.of_grownBy (grown_of_below (pw_below_drewN (below_drew1 (Below.refl W.heap.size W)) nd) none) (by simp)).trans ((KeepsOthers.of_grownBy HG3.out (fun j o ej ho => ?_)).trans (KeepsOthers.setCell _ _ _))
     cases ej
     rw [show (W.drew.drewN nd).heap[go]? = _ from HGC.out] at ho
     cases ho
     rfl
    have hst : lowAll a0 ((pre ++ [x]).map (·.1.1)) (y, s) = (p.1.set i.toNat ⟨(rd_T40 p.1 i).f0, wrap64 (bc - lowBy (wrap64 (p.2 - a0)) bc bl), (rd_T40 p.1 i).f2, (rd_T40 p.1 i).f3⟩, wrap64 (p.2 - lowBy (wrap64 (p.2 - a0)) bc bl)) := by
     have e1 : lowAll a0 ((pre ++ [x]).map (·.1.1)) (y, s) = lowStep a0 p x.1.1 := by
      rw [HPP.out, List.map_append]
      unfold lowAll
      rw [List.foldl_append]
      rfl
     rw [e1]
     unfold lowStep
     rw [← HI2.out.2.2, ← HBC.out, ← HBLO.out, show x.1.1 = i.toNat by have := HI2.out.2.2; omega]
    refine ⟨hko.from _, ⟨hbel, HK4.trans HK1.out.symm, fun _ => ⟨_, by rw [List.length_set, HPL.out], HR4⟩⟩, ⟨HB4, ?_, HC4, HK4⟩, ?_, HBW.out.trans hbel⟩
    ·rw [hst]; exact HS4
    ·rw [hst]; exact HR4
   case done =>
    rintro D ys W hD hys ⟨⟨hb1, hs1, hc1, hr1⟩, hRR, hBW⟩ hDD
    subst hT0
    obtain ⟨p, hp⟩ : ∃ p, p = lowAll a0 (ys.map (·.1.1)) (y, s) := ⟨_, rfl⟩
    rw [← hp] at hs1 hRR
    have HPL := Aside0.mk (show p.1.length = l3.length by rw [hp, lowAll_len]; exact HYL.out)
    have HPP := Aside0.mk (show p = lowAll a0 (downTo l3.length l3.length) (billsN l2 bs l3.length l3.length, sumN bs l3.length) by rw [hp, hys, HY2.out, HS2.out])
    have hcb1 : W.cell? ⟨gb, 0, none⟩ = some (.slice Al l3.length cl) := (blk_cell hb1 0).trans rfl
    have BB := Aside0.mk hb1
    have BS := Aside0.mk hs1
    have BC := Aside0.mk hc1
    have HRL := Aside0.mk hRR
    have HB := Aside0.mk hBW
    have HDD := Aside0.mk hDD
    have HDL := Aside0.mk (show w.heap.size ≤ D from Nat.le_trans hk1 hD)
    clear hb1 hs1 hc1 hr1 hRR hBW hp hDD hD hys
    go_wp2_with (first | ((with_reducible refine gate_dst (N := 107) rfl ?_); refine Kd.R_make k40 _ 40 rfl (N := 107) rfl 31 _ _ rfl (l3.length : Int) rfl rfl Try.underlying31 (.agg #[.int .i64 0, .int .i64 0, .int .i64 0, .int .i64 0, .bool false]) 40 info40 rfl (by decide) (by omega) z40 (ok := fun _ => True) (okp := fun _ => True) (k40_mkM _ _ _ z40) (fun _ hk => hk) trivial (by omega) (by have := H200.out; omega) (Below.refl _ _) (Nat.le_refl _) ?_; intro v5 w5 ho_ hb_ hg_ hnew_; rw [Int.toNat_natCast] at ho_; obtain ⟨Ao, co, rfl⟩ := Kd.R_slice ho_; rw [List.length_replicate] at ho_; rw [List.length_replicate]; have n0_ := Aside0.mk (below_step HB.out hb_); have HRO := Aside0.mk (Kd.R_lower ho_ (below_size HB.out)); have HRL := Aside0.mk (Kd.R_below HRL.out hb_); have BC := Aside0.mk (blk_below BC.out hb_); have BS := Aside0.mk (blk_below BS.out hb_); have BB := Aside0.mk (blk_below BB.out hb_); have HDD := Aside0.mk (blk_below HDD.out hb_); replace hcb1 := (hb_.cell (World.block_lt_of_cell? _ _ hcb1)).trans hcb1; clear HB hb_ ho_ hg_ hnew_; have HB := n0_; clear n0_))
    go_loopg [110] l3.length (fun kq v110 wr => ∃ (n : Nat) (z : List S40), v110 = .int .i64 n ∧ Aside0 (kq + n = l3.length) ∧ Aside0 (z = (List.range n).foldl (fun y (j : Nat) => y.set j (p.1.getD j z40)) (List.replicate l3.length z40)) ∧ Aside0 (Kd.R k40 40 wr w.heap.size (fun _ => True) (.slice Ao l3.length co) z) ∧ Aside0 (Kd.R k40 71 wr w.heap.size (fun _ => True) (.slice Al l3.length cl) p.1)
     ∧ Aside0 (wr.heap[gs]? = some (.cells #[.int .i64 p.2] 3 (0, 0))) ∧ Aside0 (wr.heap[gc]? = some (.cells #[.int .i64 a0] 3 (0, 0))) ∧ Aside0 (wr.heap[D]? = some (.deferred (some []))) ∧ Aside0 (Below w.heap.size w wr))
    case atStart => exact ⟨0, _, rfl, ⟨by omega⟩, ⟨rfl⟩, HRO, HRL, BS, BC, HDD, HB⟩
    case round =>
     clear HRO HRL BS BC HDD HB BB hcb1
     obtain ⟨n, z, rfl, HM, HZ, HRO, HRL, BS, BC, HDD, HB⟩ := hrel
     have HZL := Aside0.mk (show z.length = l3.length by rw [HZ.out, fold_len, List.length_replicate])
     by_cases hlt : n < l3.length
     ·obtain ⟨i, hi⟩ : ∃ i : Int, i = (n : Int) := ⟨_, rfl⟩
      rw [← hi]
      have HI2 := Aside0.mk (show 0 ≤ i ∧ i < l3.length ∧ i = (n : Int) from ⟨by omega, by omega, hi⟩)
      have d7 : decide (i < (l3.length : Int)) = true := decide_eq_true HI2.out.2.1
      have ci2 : (0 ≤ i) = True := eq_true HI2.out.1
      have ci3 : (i < l3.length) = True := eq_true HI2.out.2.1
      obtain ⟨adb, eb, hx0, hx1, hx2, hx3, hx4⟩ := at_T40 (Kd.R_reads' HRL.out).2.2 i HI2.out.1 (by have := HI2.out; have := HPL.out; omega)
      subst eb
      obtain ⟨go, cgo, eo, gob, gol, ogl, hogl⟩ := Kd.R_form HRO.out (by have := HI2.out; have := HZL.out; omega)
      injection eo with ea en ec
      subst ea
      subst ec
      have HGC := Aside0.mk hogl
      have HGB := Aside0.mk gob
      clear hi hlt en gob gol hogl
      have hz1 : i + 1 ≤ 9223372036854775807 := by have := HI2.out; have := H200.out; omega
      have hz2 : -9223372036854775808 ≤ i + 1 := by have := HI2.out; omega
      obtain ⟨b, hb⟩ : ∃ b, b = rd_T40 p.1 i := ⟨_, rfl⟩
      rw [← hb] at hx0 hx1 hx2 hx3 hx4
      have HBI := Aside0.mk hb
      clear hb
      have HB0 := Aside0.mk (Below.refl wr.heap.size wr)
      go_upto_region 23 with (first | ((with_reducible refine gate_dst (N := 21) rfl ?_); refine box_event ?hg (N := 21) ?hd (cs := #[.int .i64 0, .int .i64 0, .int .i64 0, .int .i64 0, .bool false]) (t := 71) ?hr ?_; (case hd => rfl); (case hg => rfl); (case hr => first | (go_simp; done) | (go_simp; rfl)); intro gx hg_X w9 hbox_ hb_; have n0_ := Aside0.mk (below_step HB0.out hb_); have BX := Aside0.mk hbox_; have GX := Aside0.mk (show wr.heap.size ≤ gx by rw [hg_X]; exact below_size HB0.out); have EX := Aside0.mk hg_X; have hcx0 : w9.cell? ⟨gx, 0, none⟩ = some (.int .i64 0) := (blk_cell hbox_ 0).trans rfl; have hfx0 := blk_frozen hbox_ 0; have hcx1 : w9.cell? ⟨gx, 1, none⟩ = some (.int .i64 0) := (blk_cell hbox_ 1).trans rfl; have hfx1 := blk_frozen hbox_ 1; have hcx2 : w9.cell? ⟨gx, 2, none⟩ = some (.int .i64 0) := (blk_cell hbox_ 2).trans rfl; have hfx2 := blk_frozen hbox_ 2; have hcx3 : w9.cell? ⟨gx, 3, none⟩ = some (.int .i64 0) := (blk_cell hbox_ 3).trans rfl; have hfx3 := blk_frozen hbox_ 3; have hcx4 : w9.cell? ⟨gx, 4, none⟩ = some (.bool false) := (blk_cell hbox_ 4).trans rfl; have hfx4 := blk_frozen hbox_ 4; clear HB0 hg_X hbox_ hb_; have HB0 := n0_; clear n0_))
      obtain ⟨w10, hw10⟩ : ∃ w10, w10 = ((((w9.setCell ⟨gx, 0, none⟩ (.int .i64 b.f0)).setCell ⟨gx, 1, none⟩ (.int .i64 b.f1)).setCell ⟨gx, 2, none⟩ (.int .i64 b.f2.f0)).setCell ⟨gx, 3, none⟩ (.int .i64 b.f2.f1)).setCell ⟨gx, 4, none⟩ (.bool b.f3) := ⟨_, rfl⟩
      rw [← hw10]
      have BX10 := Aside0.mk (show w10.heap[gx]? = some (.cells #[.int .i64 b.f0, .int .i64 b.f1, .int .i64 b.f2.f0, .int .i64 b.f2.f1, .bool b.f3] 71 (0, 0)) by rw [hw10]; exact blk_put (blk_put (blk_put (blk_put (blk_put BX.out 0 _ rfl) 1 _ rfl) 2 _ rfl) 3 _ rfl) 4 _ rfl)
      have HB10 := Aside0.mk (show Below wr.heap.size wr w10 by rw [hw10]; exact below_set (below_set (below_set (below_set (below_set HB0.out GX.out) GX.out) GX.out) GX.out) GX.out)
      clear hw10 BX HB0 hcx0 hcx1 hcx2 hcx3 hcx4 hfx0 hfx1 hfx2 hfx3 hfx4 hx0 hx1 hx2 hx3 hx4
      have hcx0 : w10.cell? ⟨gx, 0, none⟩ = some (.int .i64 b.f0) := (blk_cell BX10.out 0).trans rfl
      have hcx1 : w10.cell? ⟨gx, 1, none⟩ = some (.int .i64 b.f1) := (blk_cell BX10.out 1).trans rfl
      have hcx2 : w10.cell? ⟨gx, 2, none⟩ = some (.int .i64 b.f2.f0) := (blk_cell BX10.out 2).trans rfl
      have hcx3 : w10.cell? ⟨gx, 3, none⟩ = some (.int .i64 b.f2.f1) := (blk_cell BX10.out 3).trans rfl
      have hcx4 : w10.cell? ⟨gx, 4, none⟩ = some (.bool b.f3) := (blk_cell BX10.out 4).trans rfl
      have HE := Aside0.mk (bill_elem (Kd.R_below HRO.out HB10.out) i HI2.out.1 HI2.out.2.1)
      have hz0_ := HE.out.1.1
      have hz1_ := HE.out.1.2.1
      have hz2_ := HE.out.1.2.2.1
      have hz3_ := HE.out.1.2.2.2.1
      have hz4_ := HE.out.1.2.2.2.2
      have hy0_ : w10.frozen? ⟨go, i.toNat * 5, none⟩ = false := HE.out.2.1 0
      have hy1_ := HE.out.2.1 1
      have hy2_ := HE.out.2.1 2
      have hy3_ := HE.out.2.1 3
      have hy4_ := HE.out.2.1 4
      go_wp2
      have hP := HE.out.2.2.1 b
      have hog10 := blk_below HGC.out HB10.out
      have e1 : b = p.1.getD n z40 := by rw [HBI.out]; show p.1.getD i.toNat z40 = _; rw [show i.toNat = n by have := HI2.out; omega]
      have e2 : i.toNat = n := by have := HI2.out; omega
      go_roundg (gk - 1)
      case measure => have := HM.out; have := HI2.out; omega
      case rel =>
       refine ⟨n + 1, _, ?_, ⟨by have := HM.out; have := HI2.out; omega⟩, ⟨?_⟩, ⟨hP.1⟩, ⟨R_overB (Kd.R_below HRL.out HB10.out) hog10 (by decide) hP.2⟩, ⟨blk_over (blk_below BS.out HB10.out) hog10 (by decide) hP.2⟩, ⟨blk_over (blk_below BC.out HB10.out) hog10 (by decide) hP.2⟩, ⟨?_⟩, ⟨grown_below (below_step HB.out HB10.out) hP.2 (fun k e => by cases e; exact HGB.out)⟩⟩
       ·have := HI2.out
        first | (rw [show ((n + 1 : Nat) : Int) = i + 1 from by omega]; done) | (simp; omega)
       ·rw [foldl_range_succ, ← HZ.out, e2, e1]
       ·refine (hP.2.block _ (blk_lt (blk_below HDD.out HB10.out)) (fun e => ?_)).trans (blk_below HDD.out HB10.out)
        injection e with e
        have h1 := blk_below HDD.out HB10.out
        rw [e, hog10] at h1
        cases h1
     ·have d7 : decide ((n : Int) < (l3.length : Int)) = false := decide_eq_false (by omega)
      have d7' : decide (n < l3.length) = false := decide_eq_false hlt
      have hnl : n = l3.length := by have := HM.out; omega
      have HZ2 := Aside0.mk (show z = p.1 by
       rw [HZ.out, hnl, fold_set _ _ _ (by simp), List.drop_of_length_le (by simp), List.append_nil, ← HPL.out]
       have := fold_map z40 id p.1
       rw [List.map_id] at this
       exact this)
      have hcs0 : wr.cell? ⟨gs, 0, none⟩ = some (.int .i64 p.2) := (blk_cell BS.out 0).trans rfl
      have hcc0 : wr.cell? ⟨gc, 0, none⟩ = some (.int .i64 a0) := (blk_cell BC.out 0).trans rfl
      clear hlt hnl
      go_wp2
      go_quiet (fail)
      go_wp2
      show bodyPostM _ _ _ _ _ .ret _ _
      refine postM_done (D := D) (show _ from HDD.out) (results_list (rs := [.tmp 8, .tmp 9, .tmp 10]) rfl (by simp) (.tmp (.tmp (.tmp .nil)))) ⟨?_, .inr ⟨HLT.out, .slice Ao l3.length co, ?_, ?_⟩⟩
      ·exact (pw_below_drewN HB.out _).trans (belowK_b (w := w) (Nat.le_refl _) _ D _ _ HDL.out (show _ from HDD.out) rfl rfl)
      ·rw [← HPP.out]
       rfl
      ·rw [← HPP.out, ← HZ2.out]
       exact R_objs (Kd.R_drewN HRO.out _) (grownBy_putObj' _ D _) (fun r e => by cases e; exact ⟨_, (show _ from HDD.out), rfl⟩)
theorem charges_Share.calls (a0 a1 : Int) (A2 : Option Addr) (c2 : Nat) (l2 : List Int) (A3 : Option Addr) (c3 : Nat) (l3 : List (S38)) (r1 : List (S40)) (r2 r3 : Int) (w : World) (hr2 : Kd.C (Kd.int .i64) w A2 l2.length l2) (hc2 : l2.length ≤ c2) (hr3 : Kd.C k38 w A3 l3.length l3) (hc3 : l3.length ≤ c3) (h : charges_Share.f a0 a1 l2 l3 = some (r1, r2, r3)) :
  Calls Try.prog 16 #[.int .i64 a0, .int .i64 a1, .slice A2 l2.length c2, .slice A3 l3.length c3] w fun e w' => ∃ v0_ : Value, e = .returned (.tuple #[v0_, .int .i64 r2, .int .i64 r3]) ∧ Kd.R k40 40 w' w.heap.size (fun _ => True) v0_ r1 ∧ Below w.heap.size w w' := by
 have hC : shareC a0 a1 l2 l3 = (r1, r2, r3) := Option.some.inj h
 clear h
 rcases boundsC_two a0 a1 l3 with hb | ⟨hb, h200⟩
 ·have e : shareC a0 a1 l2 l3 = ([], 0, 1) := by unfold shareC; rw [hb]; rfl
  rw [e] at hC
  cases hC
  refine (share_bad a0 a1 A2 c2 l2 A3 c3 l3 w hr2 hc2 hr3 hc3 (.inl hb)).mono ?_
  rintro e w' ⟨rfl, hB⟩
  exact ⟨_, rfl, Kd.R_nil _ _ _ _ _, hB⟩
 ·by_cases hbad : l2.length ≠ l3.length ∨ homesB 0 l2 = false
  ·have e : shareC a0 a1 l2 l3 = ([], 0, 1) := by unfold shareC; rw [hb, if_pos rfl, if_pos hbad]
   rw [e] at hC
   cases hC
   refine (share_bad a0 a1 A2 c2 l2 A3 c3 l3 w hr2 hc2 hr3 hc3 (.inr ⟨_, hb, h200, hbad⟩)).mono ?_
   rintro e w' ⟨rfl, hB⟩
   exact ⟨_, rfl, Kd.R_nil _ _ _ _ _, hB⟩
  ·have hl : l2.length = l3.length := Classical.byContradiction fun hn => hbad (.inl hn)
   have hh : homesB 0 l2 = true := by
    cases hx : homesB 0 l2 with
    | true => rfl
    | false => exact absurd (.inr hx) hbad
   refine (share_good a0 a1 A2 c2 l2 A3 c3 l3 _ w hr2 hc2 hr3 hc3 h200 hb (by rw [List.length_map]) hl hh).mono ?_
   rintro e w' ⟨hB, ⟨hlt, rfl⟩ | ⟨hlt, v, rfl, hR⟩⟩
   ·have e : shareC a0 a1 l2 l3 = ([], 0, 30) := by unfold shareC; rw [hb, if_pos rfl, if_neg hbad, if_pos hlt]
    rw [e] at hC
    cases hC
    exact ⟨_, rfl, Kd.R_nil _ _ _ _ _, hB⟩
   ·unfold shareC at hC
    rw [hb, if_pos rfl, if_neg hbad, if_neg hlt] at hC
    cases hC
    exact ⟨_, rfl, hR, hB⟩
end
end Go.Proofs.Ythjjabcbngffoaa.P
end
