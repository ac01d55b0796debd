/- Part 3 of the base that the seat's proofs share: words, walks and plain laws. -/
import Derived.Test.YtocbiggglnpeoaaCMb
set_option linter.unusedVariables false
set_option linter.unusedSimpArgs false
section
namespace Go.Proofs.Ytocbiggglnpeoaa.M
open Go.RowKit Go.Proofs.YtocbiggglnpeoaaW.PrintWords Go.Proofs.YtocbiggglnpeoaaW.PrintLast Go.Proofs.YtocbiggglnpeoaaW.PrintMore
attribute [local go_sem] max2_int min2_int max_two min_two max_three min_three max_four min_four
set_option linter.unusedVariables false
set_option linter.unusedSimpArgs false
open Go.Proofs.YtocbiggglnpeoaaH
def homesM (l : List S46) (n : Nat) : Int → Option Int := foldM (fun j => (rd_T46 l (j : Int)).f0) (fun j => (rd_T46 l (j : Int)).f1) n
def knownM (l : List S84) (n : Nat) : Int → Option Bool := foldM (fun j => (rd_T84 l (j : Int)).f0) (fun _ => true) n
def occM (l : List S46) (n : Nat) : Int → Option Bool := foldM (fun j => (rd_T46 l (j : Int)).f1) (fun j => (rd_T46 l (j : Int)).f1 != 0) n
structure Town (w : World) (base g1 g2 g3 : Nat) (H : Int → Option Int) (K T : Int → Option Bool) : Prop where
 flat : MapI w g1 (mapV vInt H)
 known : MapI w g2 (mapV vBool K)
 taken : MapI w g3 (mapV vBool T)
 lo : base ≤ g1 ∧ base ≤ g2 ∧ base ≤ g3
 ne : g1 ≠ g2 ∧ g1 ≠ g3 ∧ g2 ≠ g3
section
variable {w w' : World} {base g1 g2 g3 : Nat} {H : Int → Option Int} {K T : Int → Option Bool}
theorem Town.later (h : Town w base g1 g2 g3 H K T) (hb : Below w.heap.size w w') : Town w' base g1 g2 g3 H K T := ⟨h.flat.below hb, h.known.below hb, h.taken.below hb, h.lo, h.ne⟩
theorem Town.grown (h : Town w base g1 g2 g3 H K T) {row : Option Nat} (hg : w.grownBy w' row) (n1 : some g1 ≠ row) (n2 : some g2 ≠ row) (n3 : some g3 ≠ row) : Town w' base g1 g2 g3 H K T := ⟨h.flat.kept hg n1, h.known.kept hg n2, h.taken.kept hg n3, h.lo, h.ne⟩
theorem Town.put (h : Town w base g1 g2 g3 H K T) {g t : Nat} {cs : Array Value} (hb : w.heap[g]? = some (.cells cs t (0, 0))) (j : Nat) (u : Value) : Town (w.setCell ⟨g, j, none⟩ u) base g1 g2 g3 H K T :=
 ⟨h.flat.move (Below.heap_setCell _ _ _ _ (fun e => h.flat.ne_blk hb (by rw [e]))), h.known.move (Below.heap_setCell _ _ _ _ (fun e => h.known.ne_blk hb (by rw [e]))), h.taken.move (Below.heap_setCell _ _ _ _ (fun e => h.taken.ne_blk hb (by rw [e]))), h.lo, h.ne⟩
theorem Town.low (h : Town w base g1 g2 g3 H K T) {b : Nat} (hb : b ≤ base) : Town w b g1 g2 g3 H K T := ⟨h.flat, h.known, h.taken, ⟨Nat.le_trans hb h.lo.1, Nat.le_trans hb h.lo.2.1, Nat.le_trans hb h.lo.2.2⟩, h.ne⟩
end
structure TS (w0 w : World) (gR gT g1 g2 g3 : Nat) (H : Int → Option Int) (K T : Int → Option Bool) : Prop where
 res : w.heap[gR]? = some (.cells #[.map none, .map none, .map none] 68 (0, 0))
 cell : w.heap[gT]? = some (.cells #[.map (some g1), .map (some g2), .map (some g3)] 68 (0, 0))
 town : Town w w0.heap.size g1 g2 g3 H K T
 below : Below w0.heap.size w0 w
section
variable {w0 w w' : World} {gR gT g1 g2 g3 : Nat} {H : Int → Option Int} {K T : Int → Option Bool}
theorem TS.later (h : TS w0 w gR gT g1 g2 g3 H K T) (hb : Below w.heap.size w w') : TS w0 w' gR gT g1 g2 g3 H K T := ⟨blk_below h.res hb, blk_below h.cell hb, h.town.later hb, below_step h.below hb⟩
theorem TS.flat (h : TS w0 w gR gT g1 g2 g3 H K T) {k v : Int} (hm : MapI w' g1 (setM (mapV vInt H) k (.int .i64 v))) (hg : w.grownBy w' (some g1)) : TS w0 w' gR gT g1 g2 g3 (upd H k v) K T :=
 ⟨blk_grown h.res hg (h.town.flat.ne_blk h.res), blk_grown h.cell hg (h.town.flat.ne_blk h.cell), ⟨hm.eq (mapV_set vInt H k v), h.town.known.kept hg (fun e => h.town.ne.1 (by cases e; rfl)), h.town.taken.kept hg (fun e => h.town.ne.2.1 (by cases e; rfl)), h.town.lo, h.town.ne⟩, grown_below h.below hg (fun k e => by cases e; exact h.town.lo.1)⟩
theorem TS.known (h : TS w0 w gR gT g1 g2 g3 H K T) {k : Int} {v : Bool} (hm : MapI w' g2 (setM (mapV vBool K) k (.bool v))) (hg : w.grownBy w' (some g2)) : TS w0 w' gR gT g1 g2 g3 H (upd K k v) T :=
 ⟨blk_grown h.res hg (h.town.known.ne_blk h.res), blk_grown h.cell hg (h.town.known.ne_blk h.cell), ⟨h.town.flat.kept hg (fun e => h.town.ne.1 (by cases e; rfl)), hm.eq (mapV_set vBool K k v), h.town.taken.kept hg (fun e => h.town.ne.2.2 (by cases e; rfl)), h.town.lo, h.town.ne⟩, grown_below h.below hg (fun k e => by cases e; exact h.town.lo.2.1)⟩
theorem TS.taken (h : TS w0 w gR gT g1 g2 g3 H K T) {k : Int} {v : Bool} (hm : MapI w' g3 (setM (mapV vBool T) k (.bool v))) (hg : w.grownBy w' (some g3)) : TS w0 w' gR gT g1 g2 g3 H K (upd T k v) :=
 ⟨blk_grown h.res hg (h.town.taken.ne_blk h.res), blk_grown h.cell hg (h.town.taken.ne_blk h.cell), ⟨h.town.flat.kept hg (fun e => h.town.ne.2.1 (by cases e; rfl)), h.town.known.kept hg (fun e => h.town.ne.2.2 (by cases e; rfl)), hm.eq (mapV_set vBool T k v), h.town.lo, h.town.ne⟩, grown_below h.below hg (fun k e => by cases e; exact h.town.lo.2.2)⟩
end
set_option maxHeartbeats 8000000 in
set_option maxRecDepth 100000 in
theorem read_calls (A0 : Option Addr) (c0 : Nat) (l0 : List (S84)) (A1 : Option Addr) (c1 : Nat) (l1 : List (S46)) (w : World) (hr0 : Kd.C k84 w A0 l0.length l0) (hc0 : l0.length ≤ c0) (hr1 : Kd.C k46 w A1 l1.length l1) (hc1 : l1.length ≤ c1) (hf : fewM l0 l1 = true) :
  Calls Try.prog 30 #[.agg #[.slice A0 l0.length c0, .slice A1 l1.length c1]] w fun e w' => ∃ m1 m2 m3 : Option Nat, e = .returned (.tuple #[.agg #[.map m1, .map m2, .map m3], .bool (marketOk l0 l1)]) ∧ (marketOk l0 l1 = true → ∃ g1 g2 g3, m1 = some g1 ∧ m2 = some g2 ∧ m3 = some g3 ∧ Town w' w.heap.size g1 g2 g3 (homesM l1 l1.length) (knownM l0 l0.length) (occM l1 l1.length)) ∧ Below w.heap.size w w' := by
 have hu25 := Try.underlying25
 have hu46 := Try.underlying46
 have hu84 := Try.underlying84
 have hu68 := Try.underlying68
 have hu65 := Try.underlying65
 have hu66 := Try.underlying66
 have HFW := mk_ (fewM_at hf)
 have HVF := mk_ (show market_Valid.f l0 l1 = some (marketOk l0 l1) by unfold market_Valid.f; rw [if_pos hf])
 have HR0 := mk_ hr0
 have HC0 := mk_ hc0
 have HR1 := mk_ hr1
 have HC1 := mk_ hc1
 have HB := mk_ (Below.refl w.heap.size w)
 have hmm := @run_makeMap Try.prog
 clear hr0 hc0 hr1 hc1 hf
 cases hx : marketOk l0 l1 with
 | false =>
  rw [hx] at HVF
  clear hx
  go_enter Try.func30, Try.ntmps30
  go_wp2_with (first | ((with_reducible refine gate_dst (N := 1) rfl ?_); refine box_event ?hg (N := 1) ?hd (cs := #[.slice A0 l0.length c0, .slice A1 l1.length c1]) (t := 25) ?hr ?_; (case hd => rfl); (case hg => rfl); (case hr => first | (go_simp; done) | (go_simp; rfl)); intro gM hg_M w1 hbox_ hb_; have n0_ := mk_ (below_step HB.out hb_); have BM := mk_ hbox_; have GM := mk_ (show w.heap.size ≤ gM by rw [hg_M]; exact below_size HB.out); have EM := mk_ hg_M; have hcM0 : w1.cell? ⟨gM, 0, none⟩ = some (.slice A0 l0.length c0) := (blk_cell hbox_ 0).trans rfl; have hfM0 := blk_frozen hbox_ 0; have hcM1 : w1.cell? ⟨gM, 1, none⟩ = some (.slice A1 l1.length c1) := (blk_cell hbox_ 1).trans rfl; have hfM1 := blk_frozen hbox_ 1; have BMk := mk_ hbox_; clear HB hg_M hbox_ hb_; have HB := n0_; clear n0_) | ((with_reducible refine gate_dst (N := 2) rfl ?_); refine box_event ?hg (N := 2) ?hd (cs := #[.map none, .map none, .map none]) (t := 68) ?hr ?_; (case hd => rfl); (case hg => rfl); (case hr => first | (go_simp; done) | (go_simp; rfl)); intro gR hg_R w2 hbox_ hb_; have n0_ := mk_ (below_step HB.out hb_); have BR := mk_ hbox_; have GR := mk_ (show w.heap.size ≤ gR by rw [hg_R]; exact below_size HB.out); have ER := mk_ hg_R; have hcR0 : w2.cell? ⟨gR, 0, none⟩ = some (.map none) := (blk_cell hbox_ 0).trans rfl; have hfR0 := blk_frozen hbox_ 0; have hcR1 : w2.cell? ⟨gR, 1, none⟩ = some (.map none) := (blk_cell hbox_ 1).trans rfl; have hfR1 := blk_frozen hbox_ 1; have hcR2 : w2.cell? ⟨gR, 2, none⟩ = some (.map none) := (blk_cell hbox_ 2).trans rfl; have hfR2 := blk_frozen hbox_ 2; have BRr := mk_ hbox_; have BMk := mk_ (blk_below BMk.out hb_); replace hcM0 := cd_ hb_ hcM0; replace hcM1 := cd_ hb_ hcM1; clear HB hg_R hbox_ hb_; have HB := n0_; clear n0_) | (go_at_call 22; (with_reducible refine (market_Valid.calls A0 c0 l0 A1 c1 l1 _ _ (Kd.C_below HR0.out HB.out) HC0.out (Kd.C_below HR1.out HB.out) HC1.out HVF.out).mono ?_); rintro e w3 ⟨rfl, hb_⟩; have BMk := mk_ (blk_below BMk.out hb_); have BRr := mk_ (blk_below BRr.out hb_); replace hcR0 := cd_ hb_ hcR0; have hfR0 := blk_frozen BRr.out 0; replace hcR1 := cd_ hb_ hcR1; have hfR1 := blk_frozen BRr.out 1; replace hcR2 := cd_ hb_ hcR2; have hfR2 := blk_frozen BRr.out 2; have n0_ := mk_ (below_step HB.out hb_); clear HB hb_; have HB := n0_; clear n0_))
  refine bodyPost_ret (results_ct rfl _ _ gR 68 #[.map none, .map none, .map none] (0, 0) _ rfl (blk_put3 BRr.out _ _ _) Try.underlying68 rfl (by kernel_rfl)) rfl ?_
  exact ⟨none, none, none, rfl, fun h => Bool.noConfusion h, below_put3 HB.out GR.out _ _ _⟩
 | true =>
  rw [hx] at HVF
  clear hx
  go_enter Try.func30, Try.ntmps30
  go_upto_region 3 with (first | ((with_reducible refine gate_dst (N := 1) rfl ?_); refine box_event ?hg (N := 1) ?hd (cs := #[.slice A0 l0.length c0, .slice A1 l1.length c1]) (t := 25) ?hr ?_; (case hd => rfl); (case hg => rfl); (case hr => first | (go_simp; done) | (go_simp; rfl)); intro gM hg_M w1 hbox_ hb_; have n0_ := mk_ (below_step HB.out hb_); have BM := mk_ hbox_; have GM := mk_ (show w.heap.size ≤ gM by rw [hg_M]; exact below_size HB.out); have EM := mk_ hg_M; have hcM0 : w1.cell? ⟨gM, 0, none⟩ = some (.slice A0 l0.length c0) := (blk_cell hbox_ 0).trans rfl; have hfM0 := blk_frozen hbox_ 0; have hcM1 : w1.cell? ⟨gM, 1, none⟩ = some (.slice A1 l1.length c1) := (blk_cell hbox_ 1).trans rfl; have hfM1 := blk_frozen hbox_ 1; have BMk := mk_ hbox_; clear HB hg_M hbox_ hb_; have HB := n0_; clear n0_) | ((with_reducible refine gate_dst (N := 2) rfl ?_); refine box_event ?hg (N := 2) ?hd (cs := #[.map none, .map none, .map none]) (t := 68) ?hr ?_; (case hd => rfl); (case hg => rfl); (case hr => first | (go_simp; done) | (go_simp; rfl)); intro gR hg_R w2 hbox_ hb_; have n0_ := mk_ (below_step HB.out hb_); have BR := mk_ hbox_; have GR := mk_ (show w.heap.size ≤ gR by rw [hg_R]; exact below_size HB.out); have ER := mk_ hg_R; have hcR0 : w2.cell? ⟨gR, 0, none⟩ = some (.map none) := (blk_cell hbox_ 0).trans rfl; have hfR0 := blk_frozen hbox_ 0; have hcR1 : w2.cell? ⟨gR, 1, none⟩ = some (.map none) := (blk_cell hbox_ 1).trans rfl; have hfR1 := blk_frozen hbox_ 1; have hcR2 : w2.cell? ⟨gR, 2, none⟩ = some (.map none) := (blk_cell hbox_ 2).trans rfl; have hfR2 := blk_frozen hbox_ 2; have BRr := mk_ hbox_; have BMk := mk_ (blk_below BMk.out hb_); replace hcM0 := cd_ hb_ hcM0; replace hcM1 := cd_ hb_ hcM1; clear HB hg_R hbox_ hb_; have HB := n0_; clear n0_) | (go_at_call 22; (with_reducible refine (market_Valid.calls A0 c0 l0 A1 c1 l1 _ _ (Kd.C_below HR0.out HB.out) HC0.out (Kd.C_below HR1.out HB.out) HC1.out HVF.out).mono ?_); rintro e w3 ⟨rfl, hb_⟩; have BMk := mk_ (blk_below BMk.out hb_); have BRr := mk_ (blk_below BRr.out hb_); replace hcR0 := cd_ hb_ hcR0; have hfR0 := blk_frozen BRr.out 0; replace hcR1 := cd_ hb_ hcR1; have hfR1 := blk_frozen BRr.out 1; replace hcR2 := cd_ hb_ hcR2; have hfR2 := blk_frozen BRr.out 2; have n0_ := mk_ (below_step HB.out hb_); clear HB hb_; have HB := n0_; clear n0_))
  have hb3 : Below w3.heap.size w3 (((w3.alloc (Obj.map #[] 0)).alloc (Obj.map #[] 0)).alloc (Obj.map #[] 0)) := below_alloc (below_alloc (below_alloc (Below.refl _ _) _) _) _
  have hlo := below_size HB.out
  have HT3 := mk_ (show Town (((w3.alloc (Obj.map #[] 0)).alloc (Obj.map #[] 0)).alloc (Obj.map #[] 0)) w.heap.size w3.heap.size (w3.heap.size + 1) (w3.heap.size + 2) (homesM l1 0) (knownM l0 0) (occM l1 0) from by
   have e1 := World.size_alloc w3 (Obj.map #[] 0)
   have e2 := World.size_alloc (w3.alloc (Obj.map #[] 0)) (Obj.map #[] 0)
   have m1 : MapI ((w3.alloc (Obj.map #[] 0)).alloc (Obj.map #[] 0)) (w3.heap.size + 1) (fun _ => none) := by have := MapI.made (w3.alloc (Obj.map #[] 0)); rwa [e1] at this
   have m2 : MapI (((w3.alloc (Obj.map #[] 0)).alloc (Obj.map #[] 0)).alloc (Obj.map #[] 0)) (w3.heap.size + 2) (fun _ => none) := by have := MapI.made ((w3.alloc (Obj.map #[] 0)).alloc (Obj.map #[] 0)); rwa [e2, e1] at this
   exact ⟨(((MapI.made w3).alloc _).alloc _).none_ vInt, (m1.alloc _).none_ vBool, m2.none_ vBool, ⟨by omega, by omega, by omega⟩, ⟨by omega, by omega, by omega⟩⟩)
  have n0_ := mk_ (below_step HB.out hb3)
  have n1_ := mk_ (blk_below BMk.out hb3)
  have n2_ := mk_ (blk_below BRr.out hb3)
  clear HB BMk BRr hb3 hlo hcM0 hcM1 hfM0 hfM1 hcR0 hcR1 hcR2 hfR0 hfR1 hfR2
  have HB := n0_
  have BMk := n1_
  have BRr := n2_
  clear n0_ n1_ n2_
  have HB0 := mk_ (Below.refl (((w3.alloc (Obj.map #[] 0)).alloc (Obj.map #[] 0)).alloc (Obj.map #[] 0)).heap.size (((w3.alloc (Obj.map #[] 0)).alloc (Obj.map #[] 0)).alloc (Obj.map #[] 0)))
  go_upto_region 4 with (first | ((with_reducible refine gate_dst (N := 4) rfl ?_); refine box_event ?hg (N := 4) ?hd (cs := #[.map none, .map none, .map none]) (t := 68) ?hr ?_; (case hd => rfl); (case hg => rfl); (case hr => first | (go_simp; done) | (go_simp; rfl)); intro gT hg_T w4 hbox_ hb_; have n0_ := mk_ (below_step HB0.out hb_); have BT := mk_ hbox_; have GT := mk_ (show (((w3.alloc (Obj.map #[] 0)).alloc (Obj.map #[] 0)).alloc (Obj.map #[] 0)).heap.size ≤ gT by rw [hg_T]; exact below_size HB0.out); have ET := mk_ hg_T; have hcT0 : w4.cell? ⟨gT, 0, none⟩ = some (.map none) := (blk_cell hbox_ 0).trans rfl; have hfT0 := blk_frozen hbox_ 0; have hcT1 : w4.cell? ⟨gT, 1, none⟩ = some (.map none) := (blk_cell hbox_ 1).trans rfl; have hfT1 := blk_frozen hbox_ 1; have hcT2 : w4.cell? ⟨gT, 2, none⟩ = some (.map none) := (blk_cell hbox_ 2).trans rfl; have hfT2 := blk_frozen hbox_ 2; clear HB0 hg_T hbox_ hb_; have HB0 := n0_; clear n0_))
  obtain ⟨g1, hg1⟩ : ∃ g1, g1 = w3.heap.size := ⟨_, rfl⟩
  obtain ⟨g2, hg2⟩ : ∃ g2, g2 = w3.heap.size + 1 := ⟨_, rfl⟩
  obtain ⟨g3, hg3⟩ : ∃ g3, g3 = w3.heap.size + 2 := ⟨_, rfl⟩
  rw [← hg3, ← hg2, ← hg1]
  obtain ⟨w5, hw5⟩ : ∃ w5, w5 = ((w4.setCell ⟨gT, 0, none⟩ (.map (some g1))).setCell ⟨gT, 1, none⟩ (.map (some g2))).setCell ⟨gT, 2, none⟩ (.map (some g3)) := ⟨_, rfl⟩
  rw [← hw5]
  have HS5 := mk_ (show TS w w5 gR gT g1 g2 g3 (homesM l1 0) (knownM l0 0) (occM l1 0) by
   have hT := HT3.out
   rw [← hg3, ← hg2, ← hg1] at hT
   have hne : gR ≠ gT := by have := blk_lt BRr.out; have := GT.out; omega
   refine ⟨?_, ?_, ?_, ?_⟩
   ·rw [hw5]
    exact (Below.heap_setCell _ _ _ _ hne).trans ((Below.heap_setCell _ _ _ _ hne).trans ((Below.heap_setCell _ _ _ _ hne).trans (blk_below BRr.out HB0.out)))
   ·rw [hw5]
    exact blk_put3 BT.out _ _ _
   ·rw [hw5]
    exact (((hT.later HB0.out).put BT.out 0 _).put (blk_put BT.out 0 _ rfl) 1 _).put (blk_put (blk_put BT.out 0 _ rfl) 1 _ rfl) 2 _
   ·rw [hw5]
    exact below_put3 (below_step HB.out HB0.out) (Nat.le_trans (below_size HB.out) GT.out) _ _ _)
  have BM5 := mk_ (show w5.heap[gM]? = some (.cells #[.slice A0 l0.length c0, .slice A1 l1.length c1] 25 (0, 0)) by
   have hne : gM ≠ gT := by have := blk_lt BMk.out; have := GT.out; omega
   rw [hw5]
   exact (Below.heap_setCell _ _ _ _ hne).trans ((Below.heap_setCell _ _ _ _ hne).trans ((Below.heap_setCell _ _ _ _ hne).trans (blk_below BMk.out HB0.out))))
  clear hw5 hg1 hg2 hg3 HT3 HB HB0 BMk BRr BT GT hcT0 hcT1 hcT2 hfT0 hfT1 hfT2
  have hcM0 := bc0_ BM5.out
  go_wp2
  go_loopg [20] l0.length (fun kq v20 wr => ∃ (n : Nat), v20 = .int .i64 n ∧ Aside0 (kq + n = l0.length) ∧ Aside0 (wr.heap[gM]? = some (.cells #[.slice A0 l0.length c0, .slice A1 l1.length c1] 25 (0, 0))) ∧ Aside0 (TS w wr gR gT g1 g2 g3 (homesM l1 0) (knownM l0 n) (occM l1 0)))
  case atStart => exact ⟨0, rfl, ⟨by omega⟩, BM5, HS5⟩
  case round =>
   clear HS5 BM5 hcM0
   obtain ⟨n, rfl, HK, BM, HS⟩ := hrel
   by_cases hlt : n < l0.length
   ·obtain ⟨i, hi⟩ : ∃ i : Int, i = (n : Int) := ⟨_, rfl⟩
    rw [← hi]
    have HI2 := mk_ (show 0 ≤ i ∧ i < l0.length ∧ i = (n : Int) from ⟨by omega, by omega, hi⟩)
    have d7 : decide (i < (l0.length : Int)) = true := decide_eq_true HI2.out.2.1
    have ci2 : (0 ≤ i) = True := eq_true HI2.out.1
    have ci3 : (i < l0.length) = True := eq_true HI2.out.2.1
    obtain ⟨adp, ep, hx0, hx1⟩ := at_T84 (Kd.C_below HR0.out HS.out.below) i HI2.out.1 HI2.out.2.1
    subst ep
    obtain ⟨p, hp⟩ : ∃ p, p = rd_T84 l0 i := ⟨_, rfl⟩
    rw [← hp] at hx0 hx1
    have HP := mk_ (show rd_T84 l0 (n : Int) = p by rw [hp, hi])
    have hz1 : i + 1 ≤ 9223372036854775807 := by have := HI2.out; have := HFW.out.1; omega
    have hz2 : -9223372036854775808 ≤ i + 1 := by have := HI2.out; omega
    have HLT := mk_ hlt
    clear hi hlt hp
    have HB0 := mk_ (Below.refl wr.heap.size wr)
    go_upto_region 7 with (first | ((with_reducible refine gate_dst (N := 6) rfl ?_); refine box_event ?hg (N := 6) ?hd (cs := #[.int .i64 0, .int .i64 0]) (t := 84) ?hr ?_; (case hd => rfl); (case hg => rfl); (case hr => first | (go_simp; done) | (go_simp; rfl)); intro gf hg_F w9 hbox_ hb_; have n0_ := mk_ (below_step HB0.out hb_); have BF := mk_ hbox_; have GF := mk_ (show wr.heap.size ≤ gf by rw [hg_F]; exact below_size HB0.out); have EF := mk_ hg_F; have hcf0 : w9.cell? ⟨gf, 0, none⟩ = some (.int .i64 0) := (blk_cell hbox_ 0).trans rfl; have hff0 := blk_frozen hbox_ 0; have hcf1 : w9.cell? ⟨gf, 1, none⟩ = some (.int .i64 0) := (blk_cell hbox_ 1).trans rfl; have hff1 := blk_frozen hbox_ 1; replace hx0 := cd_ hb_ hx0; replace hx1 := cd_ hb_ hx1; clear HB0 hg_F hbox_ hb_; have HB0 := n0_; clear n0_))
    obtain ⟨w10, hw10⟩ : ∃ w10, w10 = (w9.setCell ⟨gf, 0, none⟩ (.int .i64 p.f0)).setCell ⟨gf, 1, none⟩ (.int .i64 p.f1) := ⟨_, rfl⟩
    rw [← hw10]
    have BF10 := mk_ (show w10.heap[gf]? = some (.cells #[.int .i64 p.f0, .int .i64 p.f1] 84 (0, 0)) by rw [hw10]; exact blk_put2 BF.out _ _)
    have hb10 : Below wr.heap.size wr w10 := by rw [hw10]; exact below_put2 HB0.out GF.out _ _
    have HS10 := mk_ (HS.out.later hb10)
    have BM10 := mk_ (blk_below BM.out hb10)
    clear hw10 hb10 BF HB0 hcf0 hcf1 hff0 hff1 hx0 hx1
    have hcf0 := bc0_ BF10.out
    have hcT1 : w10.cell? ⟨gT, 1, none⟩ = some (.map (some g2)) := (blk_cell HS10.out.cell 1).trans rfl
    go_wp2_with (first | ((with_reducible refine gate_ (op := .mapUpdate 66 (.tmp 25) (.tmp 27) (.const (.bool true))) rfl ?_); refine wpList_storeI _ rfl (.tmp 25) (.tmp 27) (.const (.bool true)) 66 rfl 3 4 Try.underlying66 Try.underlying3 g2 (mapV vBool (knownM l0 n)) rfl HS10.out.town.known p.f0 rfl (.bool true) rfl ?_; intro w11 hm_ hg_; have BM11 := mk_ (blk_grown BM10.out hg_ (HS10.out.town.known.ne_blk BM10.out)); have HS11 := mk_ (show TS w w11 gR gT g1 g2 g3 (homesM l1 0) (knownM l0 (n + 1)) (occM l1 0) by unfold knownM; rw [foldM_succ]; simp only [HP.out]; exact HS10.out.known hm_ hg_); clear hm_ hg_))
    go_roundg (gk - 1)
    case measure => have := HK.out; have := HLT.out; omega
    case rel =>
     refine ⟨n + 1, ?_, ⟨by have := HK.out; have := HLT.out; omega⟩, BM11, HS11⟩
     ·have := HI2.out
      first | (rw [show ((n + 1 : Nat) : Int) = i + 1 from by omega]; done) | (simp; omega)
   have d7 : decide ((n : Int) < (l0.length : Int)) = false := decide_eq_false (by omega)
   have d7' : decide (n < l0.length) = false := decide_eq_false hlt
   have hnl : n = l0.length := by have := HK.out; omega
   rw [hnl] at HS
   clear hlt hnl
   have hcM1 := bc1_ BM.out
   go_wp2
   go_loopg [32] l1.length (fun kq v32 wr => ∃ (n : Nat), v32 = .int .i64 n ∧ Aside0 (kq + n = l1.length) ∧ Aside0 (TS w wr gR gT g1 g2 g3 (homesM l1 n) (knownM l0 l0.length) (occM l1 n)))
   case atStart => exact ⟨0, rfl, ⟨by omega⟩, HS⟩
   case round =>
    clear HS BM hcM1 HK d7 d7'
    obtain ⟨n, rfl, HK, HS⟩ := hrel
    by_cases hlt : n < l1.length
    rotate_left
    ·have d7 : decide ((n : Int) < (l1.length : Int)) = false := decide_eq_false (by omega)
     have d7' : decide (n < l1.length) = false := decide_eq_false hlt
     have hnl : n = l1.length := by have := HK.out; omega
     rw [hnl] at HS
     clear hlt hnl
     have hcT0 : wr.cell? ⟨gT, 0, none⟩ = some (.map (some g1)) := (blk_cell HS.out.cell 0).trans rfl
     have hcT1 : wr.cell? ⟨gT, 1, none⟩ = some (.map (some g2)) := (blk_cell HS.out.cell 1).trans rfl
     have hcT2 : wr.cell? ⟨gT, 2, none⟩ = some (.map (some g3)) := (blk_cell HS.out.cell 2).trans rfl
     have hcR0 : wr.cell? ⟨gR, 0, none⟩ = some (.map none) := (blk_cell HS.out.res 0).trans rfl
     have hcR1 : wr.cell? ⟨gR, 1, none⟩ = some (.map none) := (blk_cell HS.out.res 1).trans rfl
     have hcR2 : wr.cell? ⟨gR, 2, none⟩ = some (.map none) := (blk_cell HS.out.res 2).trans rfl
     have hfR0 := blk_frozen HS.out.res 0
     have hfR1 := blk_frozen HS.out.res 1
     have hfR2 := blk_frozen HS.out.res 2
     go_wp2
     refine bodyPost_ret (results_ct rfl _ _ gR 68 #[.map (some g1), .map (some g2), .map (some g3)] (0, 0) _ rfl (blk_put3 HS.out.res _ _ _) Try.underlying68 rfl (by kernel_rfl)) rfl ?_
     exact ⟨some g1, some g2, some g3, rfl, fun _ => ⟨g1, g2, g3, rfl, rfl, rfl, (((HS.out.town.put HS.out.res 0 _).put (blk_put HS.out.res 0 _ rfl) 1 _).put (blk_put (blk_put HS.out.res 0 _ rfl) 1 _ rfl) 2 _)⟩, below_put3 HS.out.below GR.out _ _ _⟩
    obtain ⟨i, hi⟩ : ∃ i : Int, i = (n : Int) := ⟨_, rfl⟩
    rw [← hi]
    have HI2 := mk_ (show 0 ≤ i ∧ i < l1.length ∧ i = (n : Int) from ⟨by omega, by omega, hi⟩)
    have d7 : decide (i < (l1.length : Int)) = true := decide_eq_true HI2.out.2.1
    have ci2 : (0 ≤ i) = True := eq_true HI2.out.1
    have ci3 : (i < l1.length) = True := eq_true HI2.out.2.1
    obtain ⟨adp, Ap, cp, ep, hx0, hx1, hx2, hpc, hpC⟩ := at_T46 (Kd.C_below HR1.out HS.out.below) i HI2.out.1 HI2.out.2.1
    subst ep
    obtain ⟨p, hp⟩ : ∃ p, p = rd_T46 l1 i := ⟨_, rfl⟩
    rw [← hp] at hx0 hx1 hx2
    have HP := mk_ (show rd_T46 l1 (n : Int) = p by rw [hp, hi])
    have hz1 : i + 1 ≤ 9223372036854775807 := by have := HI2.out; have := HFW.out.2.1; omega
    have hz2 : -9223372036854775808 ≤ i + 1 := by have := HI2.out; omega
    have HLT := mk_ hlt
    clear hi hlt hp hpc hpC
    have HB0 := mk_ (Below.refl wr.heap.size wr)
    go_upto_region 12 with (first | ((with_reducible refine gate_dst (N := 8) rfl ?_); refine box_event ?hg (N := 8) ?hd (cs := #[.int .i64 0, .int .i64 0, .slice none 0 0]) (t := 46) ?hr ?_; (case hd => rfl); (case hg => rfl); (case hr => first | (go_simp; done) | (go_simp; rfl)); intro gp hg_P w9 hbox_ hb_; have n0_ := mk_ (below_step HB0.out hb_); have BP := mk_ hbox_; have GP := mk_ (show wr.heap.size ≤ gp by rw [hg_P]; exact below_size HB0.out); have EP := mk_ hg_P; have hcp0 : w9.cell? ⟨gp, 0, none⟩ = some (.int .i64 0) := (blk_cell hbox_ 0).trans rfl; have hfp0 := blk_frozen hbox_ 0; have hcp1 : w9.cell? ⟨gp, 1, none⟩ = some (.int .i64 0) := (blk_cell hbox_ 1).trans rfl; have hfp1 := blk_frozen hbox_ 1; have hcp2 : w9.cell? ⟨gp, 2, none⟩ = some (.slice none 0 0) := (blk_cell hbox_ 2).trans rfl; have hfp2 := blk_frozen hbox_ 2; replace hx0 := cd_ hb_ hx0; replace hx1 := cd_ hb_ hx1; replace hx2 := cd_ hb_ hx2; clear HB0 hg_P hbox_ hb_; have HB0 := n0_; clear n0_))
    obtain ⟨w10, hw10⟩ : ∃ w10, w10 = ((w9.setCell ⟨gp, 0, none⟩ (.int .i64 p.f0)).setCell ⟨gp, 1, none⟩ (.int .i64 p.f1)).setCell ⟨gp, 2, none⟩ (.slice Ap p.f2.length cp) := ⟨_, rfl⟩
    rw [← hw10]
    have hb10 : Below wr.heap.size wr w10 := by rw [hw10]; exact below_put3 HB0.out GP.out _ _ _
    have BP10 := mk_ (blk_put3 BP.out (.int .i64 p.f0) (.int .i64 p.f1) (.slice Ap p.f2.length cp))
    rw [← hw10] at BP10
    have HS10 := mk_ (HS.out.later hb10)
    clear hw10 hb10 BP HB0 hcp0 hcp1 hcp2 hfp0 hfp1 hfp2 hx0 hx1 hx2
    have hcp0 := bc0_ BP10.out
    have hcp1 := bc1_ BP10.out
    have hcT0 : w10.cell? ⟨gT, 0, none⟩ = some (.map (some g1)) := (blk_cell HS10.out.cell 0).trans rfl
    go_upto_region 13 with (first | ((with_reducible refine gate_ (op := .mapUpdate 65 (.tmp 37) (.tmp 39) (.tmp 41)) rfl ?_); refine wpList_storeI _ rfl (.tmp 37) (.tmp 39) (.tmp 41) 65 rfl 3 3 Try.underlying65 Try.underlying3 g1 (mapV vInt (homesM l1 n)) rfl HS10.out.town.flat p.f0 rfl (.int .i64 p.f1) rfl ?_; intro w11 hm_ hg_; have BP11 := mk_ (blk_grown BP10.out hg_ (HS10.out.town.flat.ne_blk BP10.out)); have HS11 := mk_ (HS10.out.flat hm_ hg_); clear hm_ hg_))
    clear hcp0 hcp1 hcT0
    have hcp1 := bc1_ BP11.out
    have hcT2 : w11.cell? ⟨gT, 2, none⟩ = some (.map (some g3)) := (blk_cell HS11.out.cell 2).trans rfl
    go_wp2_with (first | ((with_reducible refine gate_ (op := .mapUpdate 66 (.tmp 43) (.tmp 45) (.tmp 48)) rfl ?_); refine wpList_storeI _ rfl (.tmp 43) (.tmp 45) (.tmp 48) 66 rfl 3 4 Try.underlying66 Try.underlying3 g3 (mapV vBool (occM l1 n)) rfl HS11.out.town.taken p.f1 rfl (.bool (p.f1 != 0)) rfl ?_; intro w12 hm_ hg_; have HS12 := mk_ (HS11.out.taken hm_ hg_); clear hm_ hg_))
    go_roundg (gk - 1)
    case measure => have := HK.out; have := HLT.out; omega
    case rel =>
     refine ⟨n + 1, ?_, ⟨by have := HK.out; have := HLT.out; omega⟩, ⟨?_⟩⟩
     ·have := HI2.out
      first | (rw [show ((n + 1 : Nat) : Int) = i + 1 from by omega]; done) | (simp; omega)
     ·unfold homesM occM
      rw [foldM_succ, foldM_succ]
      simp only [HP.out]
      exact HS12.out
end Go.Proofs.Ytocbiggglnpeoaa.M
end
section
namespace Go.Proofs.Ytocbiggglnpeoaa.M
open Go.RowKit Go.Proofs.YtocbiggglnpeoaaW.PrintWords Go.Proofs.YtocbiggglnpeoaaW.PrintLast Go.Proofs.YtocbiggglnpeoaaW.PrintMore
attribute [local go_sem] max2_int min2_int max_two min_two max_three min_three max_four min_four
set_option linter.unusedVariables false
set_option linter.unusedSimpArgs false
open Go.Proofs.YtocbiggglnpeoaaH
def lastD (l : List S55) (n : Nat) : Int := if n = 0 then 0 else (rd_T55 l ((n - 1 : Nat) : Int)).f2
theorem lastD_succ (l : List S55) (n : Nat) : lastD l (n + 1) = (rd_T55 l (n : Int)).f2 := by
 unfold lastD
 rw [if_neg (by omega)]
 rfl
def replyP (q : Int) (x : S55) : Prop := 1 ≤ x.f0 ∧ x.f0 ≤ 3 ∧ 1 ≤ x.f1 ∧ x.f1 ≤ 64 ∧ q ≤ x.f2 ∧ x.f2 ≤ 36524
instance (q : Int) (x : S55) : Decidable (replyP q x) := by unfold replyP; infer_instance
def replyAt (l : List S55) (n : Nat) : Bool := decide (replyP (lastD l n) (rd_T55 l (n : Int)))
def repliesB (l : List S55) : Bool := (List.range l.length).all (replyAt l) && decide (l.length ≤ 1000)
theorem repliesB_false {l : List S55} {n : Nat} (hn : n < l.length) (h : replyAt l n = false) : repliesB l = false := by
 have : (List.range l.length).all (replyAt l) = false := by
  rw [List.all_eq_false]
  exact ⟨n, List.mem_range.2 hn, by simp [h]⟩
 unfold repliesB
 rw [this]
 rfl
theorem repliesB_end {l : List S55} (h : ∀ j, j < l.length → replyAt l j = true) : repliesB l = decide (l.length ≤ 1000) := by
 have : (List.range l.length).all (replyAt l) = true := by
  rw [List.all_eq_true]
  exact fun j hj => h j (List.mem_range.1 hj)
 unfold repliesB
 rw [this]
 rfl
theorem st_field (y z : Bool) (W : World) : (Instr.field 76 (.agg #[.bool y, .bool z]) 1).run Try.prog W = .ok (.bool z) W := by
 have hu := Try.underlying76
 simp [Instr.field, run_underlying hu, go_sem, asAgg]
theorem eqS (d : Nat) (w : World) (x0 y0 : Bool) (x1 y1 : Bool) :
  (Op.equalIn (d + 2) 76 (.agg #[.bool x0, .bool x1]) (.agg #[.bool y0, .bool y1])).run Try.prog w = .ok (x0 == y0 && (x1 == y1)) w := by
 refine eqA_of Try.underlying76 (by kernel_rfl) ?_
 refine eqf_cons (by rfl) (by go_simp; rfl) (by go_simp; rfl) (by go_simp) ?_
 exact eqf_last (by rfl) (by go_simp; rfl) (by go_simp; rfl) (by go_simp)
theorem neS (y z : Bool) (W : World) : (binOp .neq 76 (.agg #[.bool y, .bool z]) (.agg #[.bool true, .bool false])).run Try.prog W = .ok (.bool (!(y == true && (z == false)))) W := by
 simp only [binOp]
 simp [Op.equal, Op.maxDepth, eqS 9998]
def vState : Bool × Bool → Value := fun s => .agg #[.bool s.1, .bool s.2]
def repM (l : List S55) (due : Int) : Nat → Int → Option (Bool × Bool)
 | 0 => fun _ => none
 | n + 1 => if (rd_T55 l (n : Int)).f2 ≤ due then upd (repM l due n) (rd_T55 l (n : Int)).f1 ((rd_T55 l (n : Int)).f0 == 1, ((repM l due n (rd_T55 l (n : Int)).f1).getD (false, false)).2 || (rd_T55 l (n : Int)).f0 == 3) else repM l due n
theorem repM_succ (l : List S55) (due : Int) (n : Nat) : repM l due (n + 1) = if (rd_T55 l (n : Int)).f2 ≤ due then upd (repM l due n) (rd_T55 l (n : Int)).f1 ((rd_T55 l (n : Int)).f0 == 1, ((repM l due n (rd_T55 l (n : Int)).f1).getD (false, false)).2 || (rd_T55 l (n : Int)).f0 == 3) else repM l due n := rfl
set_option maxHeartbeats 8000000 in
set_option maxRecDepth 100000 in
theorem replied_calls (A0 : Option Addr) (c0 : Nat) (l0 : List (S55)) (due : Int) (w : World) (hr0 : Kd.C k55 w A0 l0.length l0) (hc0 : l0.length ≤ c0) (hn : l0.length ≤ 1000000000) :
  Calls Try.prog 31 #[.slice A0 l0.length c0, .int .i64 due] w fun e w' => ∃ mv : Option Nat, e = .returned (.tuple #[.map mv, .bool (repliesB l0)]) ∧ (repliesB l0 = true → ∃ g, mv = some g ∧ w.heap.size ≤ g ∧ MapI w' g (mapV vState (repM l0 due l0.length))) ∧ Below w.heap.size w w' := by
 have hu55 := Try.underlying55
 have hu76 := Try.underlying76
 have HR0 := mk_ hr0
 have HN := mk_ hn
 have hmm := @run_makeMap Try.prog
 have hfl := st_field
 clear hr0 hn
 go_enter Try.func31, Try.ntmps31
 go_wp2
 obtain ⟨gm, hgm⟩ : ∃ gm, gm = w.heap.size := ⟨_, rfl⟩
 obtain ⟨w4, hw4⟩ : ∃ w4, w4 = w.alloc (Obj.map #[] 0) := ⟨_, rfl⟩
 rw [← hw4, ← hgm]
 have HM := mk_ (show MapI w4 gm (mapV vState (repM l0 due 0)) by rw [hw4, hgm]; exact (MapI.made w).none_ vState)
 have HB := mk_ (show Below w.heap.size w w4 by rw [hw4]; exact below_alloc (Below.refl _ _) _)
 have GM := mk_ (show w.heap.size ≤ gm by omega)
 clear hw4 hgm
 go_loopg [7, 13] l0.length (fun kq v7 v13 wr => ∃ (n : Nat) (q : Int), v7 = .int .i64 q ∧ v13 = .int .i64 n ∧ Aside0 (kq + n = l0.length) ∧ Aside0 (q = lastD l0 n) ∧ Aside0 (∀ j, j < n → replyAt l0 j = true) ∧ Aside0 (MapI wr gm (mapV vState (repM l0 due n))) ∧ Aside0 (Below w.heap.size w wr))
 case atStart => exact ⟨0, 0, rfl, rfl, ⟨by omega⟩, ⟨rfl⟩, ⟨fun j hj => absurd hj (by omega)⟩, HM, HB⟩
 case round =>
  clear HM HB
  obtain ⟨n, q, rfl, rfl, HK, HQ, HA, HM, HB⟩ := hrel
  by_cases hlt : n < l0.length
  rotate_left
  ·have d7 : decide ((n : Int) < (l0.length : Int)) = false := decide_eq_false (by omega)
   have d7' : decide (n < l0.length) = false := decide_eq_false hlt
   have hnl : n = l0.length := by have := HK.out; omega
   rw [hnl] at HM HA
   have HX := mk_ (repliesB_end HA.out)
   clear hlt hnl
   cases hl : decide (l0.length ≤ 1000) with
   | false =>
    have v0 : decide ((l0.length : Int) ≤ 1000) = false := decide_eq_false (by have := of_decide_eq_false hl; omega)
    go_wp2
    go_ret2
    rw [HX.out, hl]
    exact ⟨some gm, rfl, fun h => Bool.noConfusion h, HB.out⟩
   | true =>
    have v0 : decide ((l0.length : Int) ≤ 1000) = true := decide_eq_true (by have := of_decide_eq_true hl; omega)
    go_wp2
    go_ret2
    rw [HX.out, hl]
    exact ⟨some gm, rfl, fun _ => ⟨gm, rfl, GM.out, HM.out⟩, HB.out⟩
  obtain ⟨i, hi⟩ : ∃ i : Int, i = (n : Int) := ⟨_, rfl⟩
  rw [← hi]
  have HI2 := mk_ (show 0 ≤ i ∧ i < l0.length ∧ i = (n : Int) from ⟨by omega, by omega, hi⟩)
  have d7 : decide (i < (l0.length : Int)) = true := decide_eq_true HI2.out.2.1
  have ci2 : (0 ≤ i) = True := eq_true HI2.out.1
  have ci3 : (i < l0.length) = True := eq_true HI2.out.2.1
  obtain ⟨adp, ep, hx0, hx1, hx2⟩ := at_T55 (Kd.C_below HR0.out HB.out) i HI2.out.1 HI2.out.2.1
  subst ep
  obtain ⟨x, hp⟩ : ∃ x, x = rd_T55 l0 i := ⟨_, rfl⟩
  rw [← hp] at hx0 hx1 hx2
  have HP := mk_ (show rd_T55 l0 (n : Int) = x by rw [hp, hi])
  have hz1 : i + 1 ≤ 9223372036854775807 := by have := HI2.out; have := HN.out; omega
  have hz2 : -9223372036854775808 ≤ i + 1 := by have := HI2.out; omega
  have HFA := mk_ (show replyAt l0 n = decide (replyP q x) by unfold replyAt; rw [HP.out, ← HQ.out])
  have HLT := mk_ hlt
  clear hi hlt hp
  have HB0 := mk_ (Below.refl wr.heap.size wr)
  go_upto_region 5 with (first | ((with_reducible refine gate_dst (N := 9) rfl ?_); refine box_event ?hg (N := 9) ?hd (cs := #[.int .i64 0, .int .i64 0, .int .i64 0]) (t := 55) ?hr ?_; (case hd => rfl); (case hg => rfl); (case hr => first | (go_simp; done) | (go_simp; rfl)); intro gx hg_X w9 hbox_ hb_; have n0_ := mk_ (below_step HB0.out hb_); have BX := mk_ hbox_; have GX := mk_ (show wr.heap.size ≤ gx by rw [hg_X]; exact below_size HB0.out); have EX := mk_ hg_X; have hcx0 : w9.cell? ⟨gx, 0, none⟩ = some (.int .i64 0) := (blk_cell hbox_ 0).trans rfl; have hfx0 := blk_frozen hbox_ 0; have hcx1 : w9.cell? ⟨gx, 1, none⟩ = some (.int .i64 0) := (blk_cell hbox_ 1).trans rfl; have hfx1 := blk_frozen hbox_ 1; have hcx2 : w9.cell? ⟨gx, 2, none⟩ = some (.int .i64 0) := (blk_cell hbox_ 2).trans rfl; have hfx2 := blk_frozen hbox_ 2; replace hx0 := cd_ hb_ hx0; replace hx1 := cd_ hb_ hx1; replace hx2 := cd_ hb_ hx2; clear HB0 hg_X hbox_ hb_; have HB0 := n0_; clear n0_))
  obtain ⟨w10, hw10⟩ : ∃ w10, w10 = ((w9.setCell ⟨gx, 0, none⟩ (.int .i64 x.f0)).setCell ⟨gx, 1, none⟩ (.int .i64 x.f1)).setCell ⟨gx, 2, none⟩ (.int .i64 x.f2) := ⟨_, rfl⟩
  rw [← hw10]
  have BX10 := mk_ (show w10.heap[gx]? = some (.cells #[.int .i64 x.f0, .int .i64 x.f1, .int .i64 x.f2] 55 (0, 0)) by rw [hw10]; exact blk_put3 BX.out _ _ _)
  have HB10 := mk_ (show Below wr.heap.size wr w10 by rw [hw10]; exact below_put3 HB0.out GX.out _ _ _)
  clear hw10 BX HB0 hcx0 hcx1 hcx2 hfx0 hfx1 hfx2 hx0 hx1 hx2
  have hcx0 := bc0_ BX10.out
  have hcx1 := bc1_ BX10.out
  have hcx2 := bc2_ BX10.out
  have HM10 := mk_ (HM.out.below HB10.out)
  have HB11 := mk_ (below_step HB.out HB10.out)
  rcases Decidable.em (replyP q x) with hgood | hbad
  ·have HG := mk_ (show replyAt l0 n = true by rw [HFA.out]; exact decide_eq_true hgood)
   have t0 : decide (x.f0 < 1) = false := decide_eq_false (by unfold replyP at hgood; omega)
   have t1 : decide (3 < x.f0) = false := decide_eq_false (by unfold replyP at hgood; omega)
   have t2 : decide (x.f1 < 1) = false := decide_eq_false (by unfold replyP at hgood; omega)
   have t3 : decide (64 < x.f1) = false := decide_eq_false (by unfold replyP at hgood; omega)
   have t4 : decide (x.f2 < q) = false := decide_eq_false (by unfold replyP at hgood; omega)
   have t5 : decide (36524 < x.f2) = false := decide_eq_false (by unfold replyP at hgood; omega)
   clear hgood
   by_cases hd : x.f2 ≤ due
   rotate_left
   ·have u0 : decide (x.f2 ≤ due) = false := decide_eq_false hd
    have HM12 := mk_ (show MapI w10 gm (mapV vState (repM l0 due (n + 1))) by rw [repM_succ, HP.out, if_neg hd]; exact HM10.out)
    have HB12 := HB11
    clear hd
    go_wp2
    go_roundg (gk - 1)
    case measure => have := HK.out; have := HLT.out; omega
    case rel =>
     refine ⟨n + 1, x.f2, ?_, ?_, ⟨by have := HK.out; have := HLT.out; omega⟩, ⟨by rw [lastD_succ, HP.out]⟩, ⟨fun j hj => ?_⟩, HM12, HB12⟩
     ·first | rfl | (simp; done)
     ·have := HI2.out
      first | (rw [show ((n + 1 : Nat) : Int) = i + 1 from by omega]; done) | (simp; omega)
     ·by_cases e : j = n
      rotate_left
      ·exact HA.out j (by omega)
      rw [e]; exact HG.out
   have u0 : decide (x.f2 ≤ due) = true := decide_eq_true hd
   obtain ⟨s, hs⟩ : ∃ s, s = (repM l0 due n x.f1).getD (false, false) := ⟨_, rfl⟩
   have HS := mk_ hs
   have HSN := mk_ (show repM l0 due (n + 1) = upd (repM l0 due n) x.f1 (x.f0 == 1, s.2 || x.f0 == 3) by rw [repM_succ, HP.out, if_pos hd, hs])
   clear hd hs
   obtain ⟨y, z⟩ := s
   cases z with
   | true =>
    go_wp2_with (first | ((with_reducible refine gate_ (op := .lookup 71 (.tmp 58) (.tmp 60) false) rfl ?_); refine wpList_lookI _ rfl (.tmp 58) (.tmp 60) 71 false rfl 3 76 Try.underlying71 Try.underlying3 (Try.zeroValue76 _) gm (mapV vState (repM l0 due n)) rfl HM10.out x.f1 rfl ?_; rw [if_neg (by decide), show (Value.agg #[.bool false, .bool false]) = vState (false, false) from rfl, mapV_get, ← HS.out]; dsimp only [vState]) | ((with_reducible refine gate_ (op := .mapUpdate 71 (.tmp 52) (.tmp 54) (.tmp 68)) rfl ?_); refine wpList_storeI _ rfl (.tmp 52) (.tmp 54) (.tmp 68) 71 rfl 3 76 Try.underlying71 Try.underlying3 gm (mapV vState (repM l0 due n)) rfl HM10.out x.f1 rfl (.agg #[.bool (x.f0 == 1), .bool true]) rfl ?_; intro w12 hm_ hg_; have HM12 := mk_ (show MapI w12 gm (mapV vState (repM l0 due (n + 1))) by rw [HSN.out]; exact hm_.eq (mapV_set vState _ x.f1 (x.f0 == 1, true || x.f0 == 3))); have HB12 := mk_ (grown_below HB11.out hg_ (fun k e => by cases e; exact GM.out)); clear hm_ hg_))
    go_roundg (gk - 1)
    case measure => have := HK.out; have := HLT.out; omega
    case rel =>
     refine ⟨n + 1, x.f2, ?_, ?_, ⟨by have := HK.out; have := HLT.out; omega⟩, ⟨by rw [lastD_succ, HP.out]⟩, ⟨fun j hj => ?_⟩, HM12, HB12⟩
     ·first | rfl | (simp; done)
     ·have := HI2.out
      first | (rw [show ((n + 1 : Nat) : Int) = i + 1 from by omega]; done) | (simp; omega)
     ·by_cases e : j = n
      rotate_left
      ·exact HA.out j (by omega)
      rw [e]; exact HG.out
   | false =>
    go_wp2_with (first | ((with_reducible refine gate_ (op := .lookup 71 (.tmp 58) (.tmp 60) false) rfl ?_); refine wpList_lookI _ rfl (.tmp 58) (.tmp 60) 71 false rfl 3 76 Try.underlying71 Try.underlying3 (Try.zeroValue76 _) gm (mapV vState (repM l0 due n)) rfl HM10.out x.f1 rfl ?_; rw [if_neg (by decide), show (Value.agg #[.bool false, .bool false]) = vState (false, false) from rfl, mapV_get, ← HS.out]; dsimp only [vState]) | ((with_reducible refine gate_ (op := .mapUpdate 71 (.tmp 52) (.tmp 54) (.tmp 68)) rfl ?_); refine wpList_storeI _ rfl (.tmp 52) (.tmp 54) (.tmp 68) 71 rfl 3 76 Try.underlying71 Try.underlying3 gm (mapV vState (repM l0 due n)) rfl HM10.out x.f1 rfl (.agg #[.bool (x.f0 == 1), .bool (x.f0 == 3)]) rfl ?_; intro w12 hm_ hg_; have HM12 := mk_ (show MapI w12 gm (mapV vState (repM l0 due (n + 1))) by rw [HSN.out]; exact hm_.eq (mapV_set vState _ x.f1 (x.f0 == 1, false || x.f0 == 3))); have HB12 := mk_ (grown_below HB11.out hg_ (fun k e => by cases e; exact GM.out)); clear hm_ hg_))
    go_roundg (gk - 1)
    case measure => have := HK.out; have := HLT.out; omega
    case rel =>
     refine ⟨n + 1, x.f2, ?_, ?_, ⟨by have := HK.out; have := HLT.out; omega⟩, ⟨by rw [lastD_succ, HP.out]⟩, ⟨fun j hj => ?_⟩, HM12, HB12⟩
     ·first | rfl | (simp; done)
     ·have := HI2.out
      first | (rw [show ((n + 1 : Nat) : Int) = i + 1 from by omega]; done) | (simp; omega)
     ·by_cases e : j = n
      rotate_left
      ·exact HA.out j (by omega)
      rw [e]; exact HG.out
  ·have HX := mk_ (repliesB_false HLT.out (show replyAt l0 n = false by rw [HFA.out]; exact decide_eq_false hbad))
   by_cases b0 : x.f0 < 1
   ·have t0 : decide (x.f0 < 1) = true := decide_eq_true b0
    clear b0 hbad
    go_wp2
    go_ret2
    rw [HX.out]
    exact ⟨none, rfl, fun h => Bool.noConfusion h, HB11.out⟩
   have t0 : decide (x.f0 < 1) = false := decide_eq_false b0
   by_cases b1 : 3 < x.f0
   ·have t1 : decide (3 < x.f0) = true := decide_eq_true b1
    clear b0 b1 hbad
    go_wp2
    go_ret2
    rw [HX.out]
    exact ⟨none, rfl, fun h => Bool.noConfusion h, HB11.out⟩
   have t1 : decide (3 < x.f0) = false := decide_eq_false b1
   by_cases b2 : x.f1 < 1
   ·have t2 : decide (x.f1 < 1) = true := decide_eq_true b2
    clear b0 b1 b2 hbad
    go_wp2
    go_ret2
    rw [HX.out]
    exact ⟨none, rfl, fun h => Bool.noConfusion h, HB11.out⟩
   have t2 : decide (x.f1 < 1) = false := decide_eq_false b2
   by_cases b3 : 64 < x.f1
   ·have t3 : decide (64 < x.f1) = true := decide_eq_true b3
    clear b0 b1 b2 b3 hbad
    go_wp2
    go_ret2
    rw [HX.out]
    exact ⟨none, rfl, fun h => Bool.noConfusion h, HB11.out⟩
   have t3 : decide (64 < x.f1) = false := decide_eq_false b3
   by_cases b4 : x.f2 < q
   ·have t4 : decide (x.f2 < q) = true := decide_eq_true b4
    clear b0 b1 b2 b3 b4 hbad
    go_wp2
    go_ret2
    rw [HX.out]
    exact ⟨none, rfl, fun h => Bool.noConfusion h, HB11.out⟩
   have t4 : decide (x.f2 < q) = false := decide_eq_false b4
   have b5 : 36524 < x.f2 := by unfold replyP at hbad; omega
   have t5 : decide (36524 < x.f2) = true := decide_eq_true b5
   clear b0 b1 b2 b3 b4 b5 hbad
   go_wp2
   go_ret2
   rw [HX.out]
   exact ⟨none, rfl, fun h => Bool.noConfusion h, HB11.out⟩
end Go.Proofs.Ytocbiggglnpeoaa.M
end
section
namespace Go.Proofs.Ytocbiggglnpeoaa.M
open Go.RowKit Go.Proofs.YtocbiggglnpeoaaW.PrintWords Go.Proofs.YtocbiggglnpeoaaW.PrintLast Go.Proofs.YtocbiggglnpeoaaW.PrintMore
attribute [local go_sem] max2_int min2_int max_two min_two max_three min_three max_four min_four
set_option linter.unusedVariables false
set_option linter.unusedSimpArgs false
open Go.Proofs.YtocbiggglnpeoaaH
def fitsB (H : Int → Option Int) (K : Int → Option Bool) (x : S51) : Bool := (H x.f0).isSome && ((H x.f0).getD 0 == x.f1) && (K x.f2).getD false
set_option maxHeartbeats 8000000 in
set_option maxRecDepth 100000 in
theorem fits_calls (w : World) (b g1 g2 g3 : Nat) (H : Int → Option Int) (K T : Int → Option Bool) (x : S51) (hT : Town w b g1 g2 g3 H K T) :
  Calls Try.prog 37 #[.agg #[.map (some g1), .map (some g2), .map (some g3)], .agg #[.int .i64 x.f0, .int .i64 x.f1, .int .i64 x.f2]] w fun e w' => e = .returned (.bool (fitsB H K x)) ∧ Below w.heap.size w w' := by
 have hu68 := Try.underlying68
 have hu51 := Try.underlying51
 have HT := mk_ hT
 have HB := mk_ (Below.refl w.heap.size w)
 clear hT
 cases h1 : (H x.f0).isSome with
 | false =>
  have HX := mk_ (show fitsB H K x = false by unfold fitsB; rw [h1]; rfl)
  have HS1 := mk_ h1
  clear h1
  go_enter Try.func37, Try.ntmps37
  go_wp2_with (first | ((with_reducible refine gate_dst (N := 2) rfl ?_); refine box_event ?hg (N := 2) ?hd (cs := #[.map (some g1), .map (some g2), .map (some g3)]) (t := 68) ?hr ?_; (case hd => rfl); (case hg => rfl); (case hr => first | (go_simp; done) | (go_simp; rfl)); intro gT hg_T w1 hbox_ hb_; have n0_ := mk_ (below_step HB.out hb_); have BT := mk_ hbox_; have GT := mk_ (show w.heap.size ≤ gT by rw [hg_T]; exact below_size HB.out); have ET := mk_ hg_T; have hcT0 : w1.cell? ⟨gT, 0, none⟩ = some (.map (some g1)) := (blk_cell hbox_ 0).trans rfl; have hfT0 := blk_frozen hbox_ 0; have hcT1 : w1.cell? ⟨gT, 1, none⟩ = some (.map (some g2)) := (blk_cell hbox_ 1).trans rfl; have hfT1 := blk_frozen hbox_ 1; have hcT2 : w1.cell? ⟨gT, 2, none⟩ = some (.map (some g3)) := (blk_cell hbox_ 2).trans rfl; have hfT2 := blk_frozen hbox_ 2; have HT1 := mk_ (HT.out.later hb_); clear HB hg_T hbox_ hb_; have HB := n0_; clear n0_) | ((with_reducible refine gate_dst (N := 3) rfl ?_); refine box_event ?hg (N := 3) ?hd (cs := #[.int .i64 x.f0, .int .i64 x.f1, .int .i64 x.f2]) (t := 51) ?hr ?_; (case hd => rfl); (case hg => rfl); (case hr => first | (go_simp; done) | (go_simp; rfl)); intro gx hg_X w2 hbox_ hb_; have n0_ := mk_ (below_step HB.out hb_); have BX := mk_ hbox_; have GX := mk_ (show w.heap.size ≤ gx by rw [hg_X]; exact below_size HB.out); have EX := mk_ hg_X; have hcX0 : w2.cell? ⟨gx, 0, none⟩ = some (.int .i64 x.f0) := (blk_cell hbox_ 0).trans rfl; have hfX0 := blk_frozen hbox_ 0; have hcX1 : w2.cell? ⟨gx, 1, none⟩ = some (.int .i64 x.f1) := (blk_cell hbox_ 1).trans rfl; have hfX1 := blk_frozen hbox_ 1; have hcX2 : w2.cell? ⟨gx, 2, none⟩ = some (.int .i64 x.f2) := (blk_cell hbox_ 2).trans rfl; have hfX2 := blk_frozen hbox_ 2; replace hcT0 := cd_ hb_ hcT0; replace hcT1 := cd_ hb_ hcT1; replace hcT2 := cd_ hb_ hcT2; have HT2 := mk_ (HT1.out.later hb_); clear HB hg_X hbox_ hb_; have HB := n0_; clear n0_) | ((with_reducible refine gate_ (op := .lookup 65 (.tmp 9) (.tmp 11) true) rfl ?_); refine wpList_lookI _ rfl (.tmp 9) (.tmp 11) 65 true rfl 3 3 Try.underlying65 Try.underlying3 (Try.zeroValue3 _) g1 (mapV vInt H) rfl HT2.out.flat x.f0 rfl ?_; rw [if_pos rfl, show (Value.int IntKind.i64 0) = vInt 0 from rfl, mapV_get, mapV_some, HS1.out]; dsimp only [vInt]))
  go_ret
  rw [HX.out]
  exact ⟨rfl, HB.out⟩
 | true =>
  have HS1 := mk_ h1
  cases h2 : ((H x.f0).getD 0 == x.f1) with
  | false =>
   have HX := mk_ (show fitsB H K x = false by unfold fitsB; rw [h2, Bool.and_false]; rfl)
   clear h1
   go_enter Try.func37, Try.ntmps37
   go_wp2_with (first | ((with_reducible refine gate_dst (N := 2) rfl ?_); refine box_event ?hg (N := 2) ?hd (cs := #[.map (some g1), .map (some g2), .map (some g3)]) (t := 68) ?hr ?_; (case hd => rfl); (case hg => rfl); (case hr => first | (go_simp; done) | (go_simp; rfl)); intro gT hg_T w1 hbox_ hb_; have n0_ := mk_ (below_step HB.out hb_); have BT := mk_ hbox_; have GT := mk_ (show w.heap.size ≤ gT by rw [hg_T]; exact below_size HB.out); have ET := mk_ hg_T; have hcT0 : w1.cell? ⟨gT, 0, none⟩ = some (.map (some g1)) := (blk_cell hbox_ 0).trans rfl; have hfT0 := blk_frozen hbox_ 0; have hcT1 : w1.cell? ⟨gT, 1, none⟩ = some (.map (some g2)) := (blk_cell hbox_ 1).trans rfl; have hfT1 := blk_frozen hbox_ 1; have hcT2 : w1.cell? ⟨gT, 2, none⟩ = some (.map (some g3)) := (blk_cell hbox_ 2).trans rfl; have hfT2 := blk_frozen hbox_ 2; have HT1 := mk_ (HT.out.later hb_); clear HB hg_T hbox_ hb_; have HB := n0_; clear n0_) | ((with_reducible refine gate_dst (N := 3) rfl ?_); refine box_event ?hg (N := 3) ?hd (cs := #[.int .i64 x.f0, .int .i64 x.f1, .int .i64 x.f2]) (t := 51) ?hr ?_; (case hd => rfl); (case hg => rfl); (case hr => first | (go_simp; done) | (go_simp; rfl)); intro gx hg_X w2 hbox_ hb_; have n0_ := mk_ (below_step HB.out hb_); have BX := mk_ hbox_; have GX := mk_ (show w.heap.size ≤ gx by rw [hg_X]; exact below_size HB.out); have EX := mk_ hg_X; have hcX0 : w2.cell? ⟨gx, 0, none⟩ = some (.int .i64 x.f0) := (blk_cell hbox_ 0).trans rfl; have hfX0 := blk_frozen hbox_ 0; have hcX1 : w2.cell? ⟨gx, 1, none⟩ = some (.int .i64 x.f1) := (blk_cell hbox_ 1).trans rfl; have hfX1 := blk_frozen hbox_ 1; have hcX2 : w2.cell? ⟨gx, 2, none⟩ = some (.int .i64 x.f2) := (blk_cell hbox_ 2).trans rfl; have hfX2 := blk_frozen hbox_ 2; replace hcT0 := cd_ hb_ hcT0; replace hcT1 := cd_ hb_ hcT1; replace hcT2 := cd_ hb_ hcT2; have HT2 := mk_ (HT1.out.later hb_); clear HB hg_X hbox_ hb_; have HB := n0_; clear n0_) | ((with_reducible refine gate_ (op := .lookup 65 (.tmp 9) (.tmp 11) true) rfl ?_); refine wpList_lookI _ rfl (.tmp 9) (.tmp 11) 65 true rfl 3 3 Try.underlying65 Try.underlying3 (Try.zeroValue3 _) g1 (mapV vInt H) rfl HT2.out.flat x.f0 rfl ?_; rw [if_pos rfl, show (Value.int IntKind.i64 0) = vInt 0 from rfl, mapV_get, mapV_some, HS1.out]; dsimp only [vInt]))
   go_ret
   rw [HX.out]
   exact ⟨rfl, HB.out⟩
  | true =>
   have HX := mk_ (show fitsB H K x = (K x.f2).getD false by unfold fitsB; rw [h1, h2]; rfl)
   clear h1
   go_enter Try.func37, Try.ntmps37
   go_wp2_with (first | ((with_reducible refine gate_dst (N := 2) rfl ?_); refine box_event ?hg (N := 2) ?hd (cs := #[.map (some g1), .map (some g2), .map (some g3)]) (t := 68) ?hr ?_; (case hd => rfl); (case hg => rfl); (case hr => first | (go_simp; done) | (go_simp; rfl)); intro gT hg_T w1 hbox_ hb_; have n0_ := mk_ (below_step HB.out hb_); have BT := mk_ hbox_; have GT := mk_ (show w.heap.size ≤ gT by rw [hg_T]; exact below_size HB.out); have ET := mk_ hg_T; have hcT0 : w1.cell? ⟨gT, 0, none⟩ = some (.map (some g1)) := (blk_cell hbox_ 0).trans rfl; have hfT0 := blk_frozen hbox_ 0; have hcT1 : w1.cell? ⟨gT, 1, none⟩ = some (.map (some g2)) := (blk_cell hbox_ 1).trans rfl; have hfT1 := blk_frozen hbox_ 1; have hcT2 : w1.cell? ⟨gT, 2, none⟩ = some (.map (some g3)) := (blk_cell hbox_ 2).trans rfl; have hfT2 := blk_frozen hbox_ 2; have HT1 := mk_ (HT.out.later hb_); clear HB hg_T hbox_ hb_; have HB := n0_; clear n0_) | ((with_reducible refine gate_dst (N := 3) rfl ?_); refine box_event ?hg (N := 3) ?hd (cs := #[.int .i64 x.f0, .int .i64 x.f1, .int .i64 x.f2]) (t := 51) ?hr ?_; (case hd => rfl); (case hg => rfl); (case hr => first | (go_simp; done) | (go_simp; rfl)); intro gx hg_X w2 hbox_ hb_; have n0_ := mk_ (below_step HB.out hb_); have BX := mk_ hbox_; have GX := mk_ (show w.heap.size ≤ gx by rw [hg_X]; exact below_size HB.out); have EX := mk_ hg_X; have hcX0 : w2.cell? ⟨gx, 0, none⟩ = some (.int .i64 x.f0) := (blk_cell hbox_ 0).trans rfl; have hfX0 := blk_frozen hbox_ 0; have hcX1 : w2.cell? ⟨gx, 1, none⟩ = some (.int .i64 x.f1) := (blk_cell hbox_ 1).trans rfl; have hfX1 := blk_frozen hbox_ 1; have hcX2 : w2.cell? ⟨gx, 2, none⟩ = some (.int .i64 x.f2) := (blk_cell hbox_ 2).trans rfl; have hfX2 := blk_frozen hbox_ 2; replace hcT0 := cd_ hb_ hcT0; replace hcT1 := cd_ hb_ hcT1; replace hcT2 := cd_ hb_ hcT2; have HT2 := mk_ (HT1.out.later hb_); clear HB hg_X hbox_ hb_; have HB := n0_; clear n0_) | ((with_reducible refine gate_ (op := .lookup 65 (.tmp 9) (.tmp 11) true) rfl ?_); refine wpList_lookI _ rfl (.tmp 9) (.tmp 11) 65 true rfl 3 3 Try.underlying65 Try.underlying3 (Try.zeroValue3 _) g1 (mapV vInt H) rfl HT2.out.flat x.f0 rfl ?_; rw [if_pos rfl, show (Value.int IntKind.i64 0) = vInt 0 from rfl, mapV_get, mapV_some, HS1.out]; dsimp only [vInt]) | ((with_reducible refine gate_ (op := .lookup 66 (.tmp 24) (.tmp 26) false) rfl ?_); (try (refine gate_guard (by rfl) ?_; dsimp only)); refine wpList_lookI _ rfl (.tmp 24) (.tmp 26) 66 false rfl 3 4 Try.underlying66 Try.underlying3 (Try.zeroValue4 _) g2 (mapV vBool K) rfl HT2.out.known x.f2 rfl ?_; rw [if_neg (by decide), show (Value.bool false) = vBool false from rfl, mapV_get]; dsimp only [vBool]))
   go_ret
   rw [HX.out]
   exact ⟨rfl, HB.out⟩
end Go.Proofs.Ytocbiggglnpeoaa.M
end
section
namespace Go.Proofs.Ytocbiggglnpeoaa.M
open Go.RowKit Go.Proofs.YtocbiggglnpeoaaW.PrintWords Go.Proofs.YtocbiggglnpeoaaW.PrintLast Go.Proofs.YtocbiggglnpeoaaW.PrintMore
attribute [local go_sem] max2_int min2_int max_two min_two max_three min_three max_four min_four
set_option linter.unusedVariables false
set_option linter.unusedSimpArgs false
open Go.Proofs.YtocbiggglnpeoaaH
def setB (f : S51 → Int) (ms : List S51) : Int → Option Bool := fun k => if ms.any (fun m => f m == k) then some true else none
theorem setB_snoc (f : S51 → Int) (ms : List S51) (x : S51) : setB f (ms ++ [x]) = upd (setB f ms) (f x) true := by
 funext k
 unfold setB upd
 rw [List.any_append]
 by_cases h : k = f x
 ·rw [if_pos h, h]; simp
 rw [if_neg h]
 have : (f x == k) = false := beq_eq_false_iff_ne.2 (fun e => h e.symm)
 simp [this]
def ahead (l : List S49) (n k : Nat) : List S51 := (l.take n).flatMap (fun r => r.f1) ++ (rd_T49 l (n : Int)).f1.take k
theorem ahead_succ (l : List S49) (n k : Nat) (h : k < (rd_T49 l (n : Int)).f1.length) : ahead l n (k + 1) = ahead l n k ++ [rd_T51 (rd_T49 l (n : Int)).f1 (k : Int)] := by
 unfold ahead
 rw [List.take_succ_eq_append_getElem h, List.append_assoc]
 congr 3
 simp [rd_T51, List.getD_eq_getElem?_getD, h]
theorem ahead_next (l : List S49) (n : Nat) (h : n < l.length) : ahead l n (rd_T49 l (n : Int)).f1.length = ahead l (n + 1) 0 := by
 unfold ahead
 rw [List.take_length, List.take_zero, List.append_nil, List.take_succ_eq_append_getElem h, List.flatMap_append]
 congr 1
 simp [rd_T49, List.getD_eq_getElem?_getD, h]
def offB (r : S49) (k : Nat) : Bool :=
 (decide (0 < k) && r.f0 && (rd_T51 r.f1 (k : Int)).f2 != (rd_T51 r.f1 ((k : Int) - 1)).f1) ||
 (!r.f0 && ((rd_T51 r.f1 (k : Int)).f1 == 0 || (rd_T51 r.f1 (k : Int)).f2 != (rd_T51 r.f1 (Int.tmod ((k : Int) + 1) (r.f1.length : Int))).f1))
def moveB (H : Int → Option Int) (K : Int → Option Bool) (l : List S49) (n k : Nat) : Bool :=
 fitsB H K (rd_T51 (rd_T49 l (n : Int)).f1 (k : Int)) && !(setB (fun m => m.f0) (ahead l n k) (rd_T51 (rd_T49 l (n : Int)).f1 (k : Int)).f0).getD false && !(setB (fun m => m.f2) (ahead l n k) (rd_T51 (rd_T49 l (n : Int)).f1 (k : Int)).f2).getD false && !offB (rd_T49 l (n : Int)) k
def endB (T : Int → Option Bool) (r : S49) : Bool := decide (0 < r.f1.length) && (!r.f0 || !(T (rd_T51 r.f1 0).f2).getD false)
def ringB (H : Int → Option Int) (K T : Int → Option Bool) (l : List S49) (n : Nat) : Bool := (List.range (rd_T49 l (n : Int)).f1.length).all (moveB H K l n) && endB T (rd_T49 l (n : Int))
def ringsB (H : Int → Option Int) (K T : Int → Option Bool) (l : List S49) : Bool := (List.range l.length).all (ringB H K T l) && decide (l.length ≤ 64)
theorem ringsB_false {H : Int → Option Int} {K T : Int → Option Bool} {l : List S49} {n : Nat} (hn : n < l.length) (h : ringB H K T l n = false) : ringsB H K T l = false := by
 have : (List.range l.length).all (ringB H K T l) = false := by
  rw [List.all_eq_false]
  exact ⟨n, List.mem_range.2 hn, by simp [h]⟩
 unfold ringsB
 rw [this]
 rfl
theorem ringB_false {H : Int → Option Int} {K T : Int → Option Bool} {l : List S49} {n k : Nat} (hk : k < (rd_T49 l (n : Int)).f1.length) (h : moveB H K l n k = false) : ringB H K T l n = false := by
 have : (List.range (rd_T49 l (n : Int)).f1.length).all (moveB H K l n) = false := by
  rw [List.all_eq_false]
  exact ⟨k, List.mem_range.2 hk, by simp [h]⟩
 unfold ringB
 rw [this]
 rfl
theorem ringB_end {H : Int → Option Int} {K T : Int → Option Bool} {l : List S49} {n : Nat} (h : ∀ j, j < (rd_T49 l (n : Int)).f1.length → moveB H K l n j = true) : ringB H K T l n = endB T (rd_T49 l (n : Int)) := by
 have : (List.range (rd_T49 l (n : Int)).f1.length).all (moveB H K l n) = true := by
  rw [List.all_eq_true]
  exact fun j hj => h j (List.mem_range.1 hj)
 unfold ringB
 rw [this]
 rfl
theorem ringsB_end {H : Int → Option Int} {K T : Int → Option Bool} {l : List S49} (h : ∀ j, j < l.length → ringB H K T l j = true) : ringsB H K T l = decide (l.length ≤ 64) := by
 have : (List.range l.length).all (ringB H K T l) = true := by
  rw [List.all_eq_true]
  exact fun j hj => h j (List.mem_range.1 hj)
 unfold ringsB
 rw [this]
 rfl
def fewR (l : List S49) : Bool := decide (l.length ≤ 1000000000) && l.all (fun r => decide (r.f1.length ≤ 1000000000))
theorem fewR_at {l : List S49} (h : fewR l = true) : l.length ≤ 1000000000 ∧ ∀ i : Int, 0 ≤ i → i < l.length → (rd_T49 l i).f1.length ≤ 1000000000 := by
 unfold fewR at h
 rw [Bool.and_eq_true, decide_eq_true_iff, List.all_eq_true] at h
 refine ⟨h.1, fun i h0 h1 => ?_⟩
 have h2 : i.toNat < l.length := by omega
 have := h.2 (l[i.toNat]'h2) (List.getElem_mem _)
 simpa [rd_T49, List.getD_eq_getElem?_getD, h2] using this
structure RS (w0 w : World) (b gT g1 g2 g3 gh gq : Nat) (H : Int → Option Int) (K T : Int → Option Bool) (ms : List S51) : Prop where
 cell : w.heap[gT]? = some (.cells #[.map (some g1), .map (some g2), .map (some g3)] 68 (0, 0))
 town : Town w b g1 g2 g3 H K T
 homes : MapI w gh (mapV vBool (setB (fun m => m.f0) ms))
 goals : MapI w gq (mapV vBool (setB (fun m => m.f2) ms))
 ne : g1 ≠ gh ∧ g2 ≠ gh ∧ g3 ≠ gh ∧ g1 ≠ gq ∧ g2 ≠ gq ∧ g3 ≠ gq ∧ gh ≠ gq
 lo : w0.heap.size ≤ gh ∧ w0.heap.size ≤ gq
 below : Below w0.heap.size w0 w
theorem RS.later {w0 w w' : World} {b gT g1 g2 g3 gh gq : Nat} {H : Int → Option Int} {K T : Int → Option Bool} {ms : List S51} (h : RS w0 w b gT g1 g2 g3 gh gq H K T ms) (hb : Below w.heap.size w w') : RS w0 w' b gT g1 g2 g3 gh gq H K T ms :=
 ⟨blk_below h.cell hb, h.town.later hb, h.homes.below hb, h.goals.below hb, h.ne, h.lo, below_step h.below hb⟩
theorem RS.step {w0 w w1 w2 : World} {b gT g1 g2 g3 gh gq : Nat} {H : Int → Option Int} {K T : Int → Option Bool} {ms : List S51} (x : S51) (h : RS w0 w b gT g1 g2 g3 gh gq H K T ms)
  (hm1 : MapI w1 gh (setM (mapV vBool (setB (fun m => m.f0) ms)) x.f0 (.bool true))) (hg1 : w.grownBy w1 (some gh)) (hm2 : MapI w2 gq (setM (mapV vBool (setB (fun m => m.f2) ms)) x.f2 (.bool true))) (hg2 : w1.grownBy w2 (some gq)) : RS w0 w2 b gT g1 g2 g3 gh gq H K T (ms ++ [x]) := by
 have ne : ∀ {a c : Nat}, a ≠ c → some a ≠ some c := fun h e => h (by cases e; rfl)
 have hq1 := h.goals.kept hg1 (ne h.ne.2.2.2.2.2.2.symm)
 have hc1 := blk_grown h.cell hg1 (h.homes.ne_blk h.cell)
 refine ⟨blk_grown hc1 hg2 (hq1.ne_blk hc1), (h.town.grown hg1 (ne h.ne.1) (ne h.ne.2.1) (ne h.ne.2.2.1)).grown hg2 (ne h.ne.2.2.2.1) (ne h.ne.2.2.2.2.1) (ne h.ne.2.2.2.2.2.1), ?_, ?_, h.ne, h.lo, grown_below (grown_below h.below hg1 (fun k e => by cases e; exact h.lo.1)) hg2 (fun k e => by cases e; exact h.lo.2)⟩
 ·rw [setB_snoc]
  exact (hm1.eq (mapV_set vBool _ x.f0 true)).kept hg2 (ne h.ne.2.2.2.2.2.2)
 ·rw [setB_snoc]
  exact hm2.eq (mapV_set vBool _ x.f2 true)
set_option maxHeartbeats 16000000 in
set_option maxRecDepth 100000 in
theorem rings_calls (w : World) (b g1 g2 g3 : Nat) (H : Int → Option Int) (K T : Int → Option Bool) (A1 : Option Addr) (c1 : Nat) (l1 : List (S49)) (hT : Town w b g1 g2 g3 H K T) (hr1 : Kd.C k49 w A1 l1.length l1) (hc1 : l1.length ≤ c1) (hf : fewR l1 = true) :
  Calls Try.prog 32 #[.agg #[.map (some g1), .map (some g2), .map (some g3)], .slice A1 l1.length c1] w fun e w' => e = .returned (.bool (ringsB H K T l1)) ∧ Below w.heap.size w w' := by
 have hu68 := Try.underlying68
 have hu51 := Try.underlying51
 have hu49 := Try.underlying49
 have HT := mk_ hT
 have HR1 := mk_ hr1
 have HC1 := mk_ hc1
 have HF := mk_ (fewR_at hf)
 have HB := mk_ (Below.refl w.heap.size w)
 have hmm := @run_makeMap Try.prog
 clear hT hr1 hc1 hf
 go_enter Try.func32, Try.ntmps32
 go_upto_region 1 with (first | ((with_reducible refine gate_dst (N := 2) rfl ?_); refine box_event ?hg (N := 2) ?hd (cs := #[.map (some g1), .map (some g2), .map (some g3)]) (t := 68) ?hr ?_; (case hd => rfl); (case hg => rfl); (case hr => first | (go_simp; done) | (go_simp; rfl)); intro gT hg_T w1 hbox_ hb_; have n0_ := mk_ (below_step HB.out hb_); have BT := mk_ hbox_; have GT := mk_ (show w.heap.size ≤ gT by rw [hg_T]; exact below_size HB.out); have ET := mk_ hg_T; have hcT0 : w1.cell? ⟨gT, 0, none⟩ = some (.map (some g1)) := (blk_cell hbox_ 0).trans rfl; have hfT0 := blk_frozen hbox_ 0; have hcT1 : w1.cell? ⟨gT, 1, none⟩ = some (.map (some g2)) := (blk_cell hbox_ 1).trans rfl; have hfT1 := blk_frozen hbox_ 1; have hcT2 : w1.cell? ⟨gT, 2, none⟩ = some (.map (some g3)) := (blk_cell hbox_ 2).trans rfl; have hfT2 := blk_frozen hbox_ 2; have HT1 := mk_ (HT.out.later hb_); clear HB hg_T hbox_ hb_; have HB := n0_; clear n0_))
 go_step3
 go_wp2
 go_step3
 go_wp2
 obtain ⟨gh, hgh⟩ : ∃ gh, gh = w1.heap.size := ⟨_, rfl⟩
 obtain ⟨gq, hgq⟩ : ∃ gq, gq = w1.heap.size + 1 := ⟨_, rfl⟩
 obtain ⟨w2, hw2⟩ : ∃ w2, w2 = (w1.alloc (Obj.map #[] 0)).alloc (Obj.map #[] 0) := ⟨_, rfl⟩
 rw [← hgq, ← hgh, ← hw2]
 have HS2 := mk_ (show RS w w2 b gT g1 g2 g3 gh gq H K T (ahead l1 0 0) by
  have hb2 : Below w1.heap.size w1 w2 := by rw [hw2]; exact below_alloc (below_alloc (Below.refl _ _) _) _
  have e1 := World.size_alloc w1 (Obj.map #[] 0)
  have hlo := below_size HB.out
  have a1 := HT1.out.flat.lt
  have a2 := HT1.out.known.lt
  have a3 := HT1.out.taken.lt
  refine ⟨blk_below BT.out hb2, HT1.out.later hb2, ?_, ?_, ⟨by omega, by omega, by omega, by omega, by omega, by omega, by omega⟩, ⟨by omega, by omega⟩, below_step HB.out hb2⟩
  ·rw [hw2, hgh]
   exact ((MapI.made w1).alloc _).eq (fun k => rfl)
  ·rw [hw2, hgq]
   have := MapI.made (w1.alloc (Obj.map #[] 0))
   rw [e1] at this
   exact this.eq (fun k => rfl))
 clear hw2 hgh hgq HB HT1 BT hcT0 hcT1 hcT2 hfT0 hfT1 hfT2
 go_loopg [15] l1.length (fun kq v15 wr => ∃ (n : Nat), v15 = .int .i64 n ∧ Aside0 (kq + n = l1.length) ∧ Aside0 (∀ j, j < n → ringB H K T l1 j = true) ∧ Aside0 (RS w wr b gT g1 g2 g3 gh gq H K T (ahead l1 n 0)))
 case atStart => exact ⟨0, rfl, ⟨by omega⟩, ⟨fun j hj => absurd hj (by omega)⟩, HS2⟩
 case round =>
  clear HS2
  obtain ⟨n, rfl, HK, HA, HS⟩ := hrel
  by_cases hlt : n < l1.length
  rotate_left
  ·have d7 : decide ((n : Int) < (l1.length : Int)) = false := decide_eq_false (by omega)
   have d7' : decide (n < l1.length) = false := decide_eq_false hlt
   have hnl : n = l1.length := by have := HK.out; omega
   rw [hnl] at HA
   have HZ := mk_ (ringsB_end HA.out)
   clear hlt hnl
   go_wp2
   (try simp only [Exit.noGoto_ret])
   go_ret
   rw [HZ.out]
   rw [show decide (l1.length ≤ 64) = decide ((l1.length : Int) ≤ 64) from decide_eq_decide.2 (by omega)]
   exact ⟨by first | rfl | (simp; done), HS.out.below⟩
  obtain ⟨i, hi⟩ : ∃ i : Int, i = (n : Int) := ⟨_, rfl⟩
  rw [← hi]
  have HI2 := mk_ (show 0 ≤ i ∧ i < l1.length ∧ i = (n : Int) from ⟨by omega, by omega, hi⟩)
  have d7 : decide (i < (l1.length : Int)) = true := decide_eq_true HI2.out.2.1
  have ci2 : (0 ≤ i) = True := eq_true HI2.out.1
  have ci3 : (i < l1.length) = True := eq_true HI2.out.2.1
  obtain ⟨adr, Ar, cr, er, hx0, hx1, hrc, hrC⟩ := at_T49 HR1.out i HI2.out.1 HI2.out.2.1
  subst er
  obtain ⟨r, hr⟩ : ∃ r, r = rd_T49 l1 i := ⟨_, rfl⟩
  have HRL := mk_ (show r.f1.length ≤ 1000000000 by rw [hr]; exact HF.out.2 i HI2.out.1 HI2.out.2.1)
  rw [← hr] at hx0 hx1 hrc hrC
  have HRC := mk_ (And.intro hrc hrC)
  replace hx0 := (HS.out.below.cell (World.block_lt_of_cell? _ _ hx0)).trans hx0
  replace hx1 := (HS.out.below.cell (World.block_lt_of_cell? _ _ hx1)).trans hx1
  have HP := mk_ (show rd_T49 l1 (n : Int) = r by rw [hr, hi])
  have hz1 : i + 1 ≤ 9223372036854775807 := by have := HI2.out; have := HF.out.1; omega
  have hz2 : -9223372036854775808 ≤ i + 1 := by have := HI2.out; omega
  have HLT := mk_ hlt
  clear hi hlt hr hrc hrC
  have HB0 := mk_ (Below.refl wr.heap.size wr)
  obtain ⟨ko, hko⟩ : ∃ ko, ko = gk := ⟨_, rfl⟩
  have HKO := mk_ hko
  clear hko
  go_upto_region 5 with (first | ((with_reducible refine gate_dst (N := 8) rfl ?_); refine box_event ?hg (N := 8) ?hd (cs := #[.bool false, .slice none 0 0]) (t := 49) ?hr ?_; (case hd => rfl); (case hg => rfl); (case hr => first | (go_simp; done) | (go_simp; rfl)); intro gr hg_R w9 hbox_ hb_; have n0_ := mk_ (below_step HB0.out hb_); have BR := mk_ hbox_; have GR := mk_ (show wr.heap.size ≤ gr by rw [hg_R]; exact below_size HB0.out); have ER := mk_ hg_R; have hcr0 : w9.cell? ⟨gr, 0, none⟩ = some (.bool false) := (blk_cell hbox_ 0).trans rfl; have hfr0 := blk_frozen hbox_ 0; have hcr1 : w9.cell? ⟨gr, 1, none⟩ = some (.slice none 0 0) := (blk_cell hbox_ 1).trans rfl; have hfr1 := blk_frozen hbox_ 1; replace hx0 := cd_ hb_ hx0; replace hx1 := cd_ hb_ hx1; clear HB0 hg_R hbox_ hb_; have HB0 := n0_; clear n0_))
  obtain ⟨w10, hw10⟩ : ∃ w10, w10 = (w9.setCell ⟨gr, 0, none⟩ (.bool r.f0)).setCell ⟨gr, 1, none⟩ (.slice Ar r.f1.length cr) := ⟨_, rfl⟩
  rw [← hw10]
  have BR10 := mk_ (show w10.heap[gr]? = some (.cells #[.bool r.f0, .slice Ar r.f1.length cr] 49 (0, 0)) by rw [hw10]; exact blk_put2 BR.out _ _)
  have hb10 : Below wr.heap.size wr w10 := by rw [hw10]; exact below_put2 HB0.out GR.out _ _
  have HS10 := mk_ (HS.out.later hb10)
  clear hw10 hb10 BR HB0 hcr0 hcr1 hfr0 hfr1 hx0 hx1 HS
  have hcr1 := bc1_ BR10.out
  go_wp2
  go_loopg [22] r.f1.length (fun kq v22 wr => ∃ (m : Nat), v22 = .int .i64 m ∧ Aside0 (kq + m = r.f1.length) ∧ Aside0 (∀ j, j < m → moveB H K l1 n j = true) ∧ Aside0 (wr.heap[gr]? = some (.cells #[.bool r.f0, .slice Ar r.f1.length cr] 49 (0, 0))) ∧ Aside0 (RS w wr b gT g1 g2 g3 gh gq H K T (ahead l1 n m)))
  case atStart => exact ⟨0, rfl, ⟨by omega⟩, ⟨fun j hj => absurd hj (by omega)⟩, BR10, HS10⟩
  case round =>
   clear HS10 BR10 hcr1
   obtain ⟨m, rfl, HM, HQ, BR, HS⟩ := hrel
   by_cases hlt : m < r.f1.length
   rotate_left
   ·have d8 : decide ((m : Int) < (r.f1.length : Int)) = false := decide_eq_false (by omega)
    have d8' : decide (m < r.f1.length) = false := decide_eq_false hlt
    have hml : m = r.f1.length := by have := HM.out; omega
    rw [hml] at HQ HS
    have HRB := mk_ (ringB_end (T := T) (by rw [HP.out]; exact HQ.out))
    rw [HP.out] at HRB
    have HAN := mk_ (show ahead l1 n r.f1.length = ahead l1 (n + 1) 0 by have := ahead_next l1 n HLT.out; rw [HP.out] at this; exact this)
    have hcr0 := bc0_ BR.out
    have hcr1 := bc1_ BR.out
    have hcT2 : wr.cell? ⟨gT, 2, none⟩ = some (.map (some g3)) := (blk_cell HS.out.cell 2).trans rfl
    clear hlt hml
    go_upto_region 14 with (fail)
    by_cases h0 : 0 < r.f1.length
    rotate_left
    ·have v0 : decide (0 < (r.f1.length : Int)) = false := decide_eq_false (by omega)
     have v0' : decide (0 < r.f1.length) = false := decide_eq_false h0
     have HEB := mk_ (show endB T r = false by unfold endB; rw [v0']; rfl)
     clear h0
     have HZ := mk_ (ringsB_false (T := T) HLT.out (show ringB H K T l1 n = false by rw [HRB.out]; exact HEB.out))
     refine start_ (n := 20) (S := fun w' => w'.cell? ⟨gr, 0, none⟩ = some (.bool r.f0) ∧ w'.cell? ⟨gr, 1, none⟩ = some (.slice Ar r.f1.length cr) ∧ w'.cell? ⟨gT, 2, none⟩ = some (.map (some g3))) (ds := []) #[n_, n_, n_, n_, n_, n_, n_, n_, n_, n_, n_, n_, n_, n_, n_, n_, n_, n_, n_, n_] (by kernel_rfl) rfl rfl ⟨hcr0, hcr1, hcT2⟩ (fun hHeld => ?_)
     refine pv_ 0 94 (w_ 20 1) rfl ?_
     refine tb_ 1 95 (w_ 20 3) rfl hHeld (by rintro w' ⟨s0, s1, s2⟩; go_simp; with_reducible rfl) ?_
     refine pv_ 2 96 (w_ 20 7) rfl ?_
     refine pv_ 3 97 (w_ 20 15) rfl ?_
     refine pv_ 4 98 (w_ 20 31) rfl ?_
     refine po_ 5 99 (w_ 20 63) rfl ?_
     refine po_ 6 100 (w_ 20 127) rfl ?_
     refine po_ 7 101 (w_ 20 255) rfl ?_
     refine po_ 8 102 (w_ 20 511) rfl ?_
     refine po_ 9 103 (w_ 20 1023) rfl ?_
     refine po_ 10 104 (w_ 20 2047) rfl ?_
     refine po_ 11 105 (w_ 20 4095) rfl ?_
     refine po_ 12 106 (w_ 20 8191) rfl ?_
     refine po_ 13 107 (w_ 20 16383) rfl ?_
     refine po_ 14 108 (w_ 20 32767) rfl ?_
     refine po_ 15 109 (w_ 20 65535) rfl ?_
     refine po_ 16 110 (w_ 20 131071) rfl ?_
     refine po_ 17 111 (w_ 20 262143) rfl ?_
     refine po_ 18 112 (w_ 20 524287) rfl ?_
     refine pv_ 19 113 (w_ 20 1048575) rfl ?_
     refine done_ (by kernel_rfl) ?_
     go_wp2_with (fail)
     (try simp only [Exit.noGoto_ret])
     go_ret
     rw [HZ.out]
     exact ⟨rfl, HS.out.below.drew⟩
    have v0 : decide (0 < (r.f1.length : Int)) = true := decide_eq_true (by omega)
    have v0' : decide (0 < r.f1.length) = true := decide_eq_true h0
    have H0 := mk_ h0
    clear h0
    rcases (Bool.eq_false_or_eq_true r.f0).symm with hch | hch
    ·have HEB := mk_ (show endB T r = true by unfold endB; rw [v0', hch]; rfl)
     rw [hch] at hcr0
     clear hch
     refine start_ (n := 20) (S := fun w' => w'.cell? ⟨gr, 0, none⟩ = some (.bool false) ∧ w'.cell? ⟨gr, 1, none⟩ = some (.slice Ar r.f1.length cr) ∧ w'.cell? ⟨gT, 2, none⟩ = some (.map (some g3))) (ds := []) #[n_, n_, n_, n_, n_, n_, n_, n_, n_, n_, n_, n_, n_, n_, n_, n_, n_, n_, n_, n_] (by kernel_rfl) rfl rfl ⟨hcr0, hcr1, hcT2⟩ (fun hHeld => ?_)
     refine pv_ 0 94 (w_ 20 1) rfl ?_
     refine tb_ 1 95 (w_ 20 3) rfl hHeld (by rintro w' ⟨s0, s1, s2⟩; go_simp; with_reducible rfl) ?_
     refine pv_ 2 96 (w_ 20 7) rfl ?_
     refine pv_ 3 97 (w_ 20 15) rfl ?_
     refine pv_ 4 98 (w_ 20 31) rfl ?_
     refine pv_ 5 99 (w_ 20 63) rfl ?_
     refine tb_ 6 100 (w_ 20 127) rfl hHeld (by rintro w' ⟨s0, s1, s2⟩; go_simp; with_reducible rfl) ?_
     refine pv_ 7 101 (w_ 20 255) rfl ?_
     refine pv_ 8 102 (w_ 20 511) rfl ?_
     refine po_ 9 103 (w_ 20 1023) rfl ?_
     refine po_ 10 104 (w_ 20 2047) rfl ?_
     refine po_ 11 105 (w_ 20 4095) rfl ?_
     refine po_ 12 106 (w_ 20 8191) rfl ?_
     refine po_ 13 107 (w_ 20 16383) rfl ?_
     refine po_ 14 108 (w_ 20 32767) rfl ?_
     refine po_ 15 109 (w_ 20 65535) rfl ?_
     refine po_ 16 110 (w_ 20 131071) rfl ?_
     refine po_ 17 111 (w_ 20 262143) rfl ?_
     refine pv_ 18 112 (w_ 20 524287) rfl ?_
     refine pv_ 19 113 (w_ 20 1048575) rfl ?_
     refine done_ (by kernel_rfl) ?_
     go_wp2_with (fail)
     go_roundg (ko - 1)
     case measure => have := HKO.out; have := HK.out; have := HLT.out; omega
     case rel =>
      refine ⟨n + 1, ?_, ⟨by have := HKO.out; have := HK.out; have := HLT.out; omega⟩, ⟨fun j hj => ?_⟩, ⟨?_⟩⟩
      ·have := HI2.out
       first | (rw [show ((n + 1 : Nat) : Int) = i + 1 from by omega]; done) | (simp; omega)
      ·by_cases e : j = n
       rotate_left
       ·exact HA.out j (by omega)
       rw [e, HRB.out]; exact HEB.out
      ·rw [← HAN.out]
       exact HS.out.later (below_drew (Below.refl _ _))
    ·have HCH := mk_ hch
     rw [hch] at hcr0
     clear hch
     obtain ⟨adx, ex, hy0, hy1, hy2⟩ := at_T51 (Kd.C_below HRC.out.2 HS.out.below) 0 (by omega) (by have := H0.out; omega)
     subst ex
     obtain ⟨k, hk⟩ : ∃ k, k = (rd_T51 r.f1 0).f2 := ⟨_, rfl⟩
     rw [← hk] at hy2
     have hci : (0 < r.f1.length) = True := eq_true H0.out
     have e0 : adx.add ((0 : Int).toNat * 3) = adx := by cases adx; rfl
     rw [e0] at hy2
     have HTB := mk_ (show endB T r = !(T k).getD false by unfold endB; rw [v0', HCH.out, ← hk]; rfl)
     clear hk hy0 hy1 e0
     cases htk : (T k).getD false with
     | true =>
      have HTK := mk_ htk
      have HEB := mk_ (show endB T r = false by rw [HTB.out, htk]; rfl)
      have hlk : ∀ W : World, MapI W g3 (mapV vBool T) → (Instr.lookup 66 (.map (some g3)) (.int .i64 k) false).run Try.prog W = .ok (.bool true) W := fun W hW => by
       rw [run_lookI (P := Try.prog) (kt := 3) (et := 4) hW Try.underlying66 Try.underlying3 (Try.zeroValue4 W) k false, if_neg (by decide), show (Value.bool false) = vBool false from rfl, mapV_get, htk]
       try rfl
      clear htk
      have HZ := mk_ (ringsB_false (T := T) HLT.out (show ringB H K T l1 n = false by rw [HRB.out]; exact HEB.out))
      refine start_ (n := 20) (S := fun w' => w'.cell? ⟨gr, 0, none⟩ = some (.bool true) ∧ w'.cell? ⟨gr, 1, none⟩ = some (.slice (some adx) r.f1.length cr) ∧ w'.cell? ⟨gT, 2, none⟩ = some (.map (some g3)) ∧ w'.cell? ⟨adx.block, adx.off + 2, none⟩ = some (.int .i64 k) ∧ MapI w' g3 (mapV vBool T)) (ds := []) #[n_, n_, n_, n_, n_, n_, n_, n_, n_, n_, n_, n_, n_, n_, n_, n_, n_, n_, n_, n_] (by kernel_rfl) rfl rfl ⟨hcr0, hcr1, hcT2, hy2, HS.out.town.taken.drew⟩ (fun hHeld => ?_)
      refine pv_ 0 94 (w_ 20 1) rfl ?_
      refine tb_ 1 95 (w_ 20 3) rfl hHeld (by rintro w' ⟨s0, s1, s2, s3, s4⟩; go_simp; with_reducible rfl) ?_
      refine pv_ 2 96 (w_ 20 7) rfl ?_
      refine pv_ 3 97 (w_ 20 15) rfl ?_
      refine pv_ 4 98 (w_ 20 31) rfl ?_
      refine pv_ 5 99 (w_ 20 63) rfl ?_
      refine tb_ 6 100 (w_ 20 127) rfl hHeld (by rintro w' ⟨s0, s1, s2, s3, s4⟩; go_simp; with_reducible rfl) ?_
      refine pv_ 7 101 (w_ 20 255) rfl ?_
      refine pv_ 8 102 (w_ 20 511) rfl ?_
      refine pv_ 9 103 (w_ 20 1023) rfl ?_
      refine pv_ 11 105 (w_ 20 3071) rfl ?_
      refine tb_ 10 104 (w_ 20 4095) rfl hHeld (by rintro w' ⟨s0, s1, s2, s3, s4⟩; go_simp; with_reducible rfl) ?_
      refine tb_ 12 106 (w_ 20 8191) rfl hHeld (by rintro w' ⟨s0, s1, s2, s3, s4⟩; go_simp; with_reducible rfl) ?_
      refine pv_ 13 107 (w_ 20 16383) rfl ?_
      refine pv_ 14 108 (w_ 20 32767) rfl ?_
      refine tb_ 15 109 (w_ 20 65535) rfl hHeld (by rintro w' ⟨s0, s1, s2, s3, s4⟩; go_simp; with_reducible rfl) ?_
      refine tb_ 16 110 (w_ 20 131071) rfl hHeld (by rintro w' ⟨s0, s1, s2, s3, s4⟩; go_simp; with_reducible rfl) ?_
      refine pv_ 17 111 (w_ 20 262143) rfl ?_
      refine pv_ 18 112 (w_ 20 524287) rfl ?_
      refine pv_ 19 113 (w_ 20 1048575) rfl ?_
      refine done_ (by kernel_rfl) ?_
      go_wp2_with (fail)
      (try simp only [Exit.noGoto_ret])
      go_ret
      rw [HZ.out]
      exact ⟨rfl, HS.out.below.drew⟩
     | false =>
      have HTK := mk_ htk
      have HEB := mk_ (show endB T r = true by rw [HTB.out, htk]; rfl)
      have hlk : ∀ W : World, MapI W g3 (mapV vBool T) → (Instr.lookup 66 (.map (some g3)) (.int .i64 k) false).run Try.prog W = .ok (.bool false) W := fun W hW => by
       rw [run_lookI (P := Try.prog) (kt := 3) (et := 4) hW Try.underlying66 Try.underlying3 (Try.zeroValue4 W) k false, if_neg (by decide), show (Value.bool false) = vBool false from rfl, mapV_get, htk]
       try rfl
      clear htk
      refine start_ (n := 20) (S := fun w' => w'.cell? ⟨gr, 0, none⟩ = some (.bool true) ∧ w'.cell? ⟨gr, 1, none⟩ = some (.slice (some adx) r.f1.length cr) ∧ w'.cell? ⟨gT, 2, none⟩ = some (.map (some g3)) ∧ w'.cell? ⟨adx.block, adx.off + 2, none⟩ = some (.int .i64 k) ∧ MapI w' g3 (mapV vBool T)) (ds := []) #[n_, n_, n_, n_, n_, n_, n_, n_, n_, n_, n_, n_, n_, n_, n_, n_, n_, n_, n_, n_] (by kernel_rfl) rfl rfl ⟨hcr0, hcr1, hcT2, hy2, HS.out.town.taken.drew⟩ (fun hHeld => ?_)
      refine pv_ 0 94 (w_ 20 1) rfl ?_
      refine tb_ 1 95 (w_ 20 3) rfl hHeld (by rintro w' ⟨s0, s1, s2, s3, s4⟩; go_simp; with_reducible rfl) ?_
      refine pv_ 2 96 (w_ 20 7) rfl ?_
      refine pv_ 3 97 (w_ 20 15) rfl ?_
      refine pv_ 4 98 (w_ 20 31) rfl ?_
      refine pv_ 5 99 (w_ 20 63) rfl ?_
      refine tb_ 6 100 (w_ 20 127) rfl hHeld (by rintro w' ⟨s0, s1, s2, s3, s4⟩; go_simp; with_reducible rfl) ?_
      refine pv_ 7 101 (w_ 20 255) rfl ?_
      refine pv_ 8 102 (w_ 20 511) rfl ?_
      refine pv_ 9 103 (w_ 20 1023) rfl ?_
      refine pv_ 11 105 (w_ 20 3071) rfl ?_
      refine tb_ 10 104 (w_ 20 4095) rfl hHeld (by rintro w' ⟨s0, s1, s2, s3, s4⟩; go_simp; with_reducible rfl) ?_
      refine tb_ 12 106 (w_ 20 8191) rfl hHeld (by rintro w' ⟨s0, s1, s2, s3, s4⟩; go_simp; with_reducible rfl) ?_
      refine pv_ 13 107 (w_ 20 16383) rfl ?_
      refine pv_ 14 108 (w_ 20 32767) rfl ?_
      refine tb_ 15 109 (w_ 20 65535) rfl hHeld (by rintro w' ⟨s0, s1, s2, s3, s4⟩; go_simp; with_reducible rfl) ?_
      refine tb_ 16 110 (w_ 20 131071) rfl hHeld (by rintro w' ⟨s0, s1, s2, s3, s4⟩; go_simp; with_reducible rfl) ?_
      refine pv_ 17 111 (w_ 20 262143) rfl ?_
      refine pv_ 18 112 (w_ 20 524287) rfl ?_
      refine pv_ 19 113 (w_ 20 1048575) rfl ?_
      refine done_ (by kernel_rfl) ?_
      go_wp2_with (fail)
      go_roundg (ko - 1)
      case measure => have := HKO.out; have := HK.out; have := HLT.out; omega
      case rel =>
       refine ⟨n + 1, ?_, ⟨by have := HKO.out; have := HK.out; have := HLT.out; omega⟩, ⟨fun j hj => ?_⟩, ⟨?_⟩⟩
       ·have := HI2.out
        first | (rw [show ((n + 1 : Nat) : Int) = i + 1 from by omega]; done) | (simp; omega)
       ·by_cases e : j = n
        rotate_left
        ·exact HA.out j (by omega)
        rw [e, HRB.out]; exact HEB.out
       ·rw [← HAN.out]
        exact HS.out.later (below_drew (Below.refl _ _))
   obtain ⟨q, hq⟩ : ∃ q : Int, q = (m : Int) := ⟨_, rfl⟩
   rw [← hq]
   have HJ2 := mk_ (show 0 ≤ q ∧ q < r.f1.length ∧ q = (m : Int) from ⟨by omega, by omega, hq⟩)
   have d8 : decide (q < (r.f1.length : Int)) = true := decide_eq_true HJ2.out.2.1
   have cj2 : (0 ≤ q) = True := eq_true HJ2.out.1
   have cj3 : (q < r.f1.length) = True := eq_true HJ2.out.2.1
   obtain ⟨adx, ex, hy0, hy1, hy2⟩ := at_T51 (Kd.C_below HRC.out.2 HS.out.below) q HJ2.out.1 HJ2.out.2.1
   subst ex
   obtain ⟨x, hx⟩ : ∃ x, x = rd_T51 r.f1 q := ⟨_, rfl⟩
   rw [← hx] at hy0 hy1 hy2
   have HX := mk_ (show rd_T51 r.f1 (m : Int) = x by rw [hx, hq])
   have hz3 : q + 1 ≤ 9223372036854775807 := by have := HJ2.out; have := HRL.out; omega
   have hz4 : -9223372036854775808 ≤ q + 1 := by have := HJ2.out; omega
   have HLJ := mk_ hlt
   obtain ⟨ms, hms⟩ : ∃ ms, ms = ahead l1 n m := ⟨_, rfl⟩
   rw [← hms] at HS
   have HMS := mk_ hms
   have HMB := mk_ (show moveB H K l1 n m = (fitsB H K x && !(setB (fun m => m.f0) ms x.f0).getD false && !(setB (fun m => m.f2) ms x.f2).getD false && !offB r m) by unfold moveB; rw [HP.out, HX.out, ← hms])
   clear hq hlt hx hms
   have HB0 := mk_ (Below.refl wr.heap.size wr)
   go_upto_region 8 with (first | ((with_reducible refine gate_dst (N := 10) rfl ?_); refine box_event ?hg (N := 10) ?hd (cs := #[.int .i64 0, .int .i64 0, .int .i64 0]) (t := 51) ?hr ?_; (case hd => rfl); (case hg => rfl); (case hr => first | (go_simp; done) | (go_simp; rfl)); intro gx hg_X w9 hbox_ hb_; have n0_ := mk_ (below_step HB0.out hb_); have BX := mk_ hbox_; have GX := mk_ (show wr.heap.size ≤ gx by rw [hg_X]; exact below_size HB0.out); have EX := mk_ hg_X; have hcx0 : w9.cell? ⟨gx, 0, none⟩ = some (.int .i64 0) := (blk_cell hbox_ 0).trans rfl; have hfx0 := blk_frozen hbox_ 0; have hcx1 : w9.cell? ⟨gx, 1, none⟩ = some (.int .i64 0) := (blk_cell hbox_ 1).trans rfl; have hfx1 := blk_frozen hbox_ 1; have hcx2 : w9.cell? ⟨gx, 2, none⟩ = some (.int .i64 0) := (blk_cell hbox_ 2).trans rfl; have hfx2 := blk_frozen hbox_ 2; replace hy0 := cd_ hb_ hy0; replace hy1 := cd_ hb_ hy1; replace hy2 := cd_ hb_ hy2; clear HB0 hg_X hbox_ hb_; have HB0 := n0_; clear n0_))
   obtain ⟨w11, hw11⟩ : ∃ w11, w11 = ((w9.setCell ⟨gx, 0, none⟩ (.int .i64 x.f0)).setCell ⟨gx, 1, none⟩ (.int .i64 x.f1)).setCell ⟨gx, 2, none⟩ (.int .i64 x.f2) := ⟨_, rfl⟩
   rw [← hw11]
   have BX11 := mk_ (show w11.heap[gx]? = some (.cells #[.int .i64 x.f0, .int .i64 x.f1, .int .i64 x.f2] 51 (0, 0)) by rw [hw11]; exact blk_put3 BX.out _ _ _)
   have hb11 : Below wr.heap.size wr w11 := by rw [hw11]; exact below_put3 HB0.out GX.out _ _ _
   have HS11 := mk_ (HS.out.later hb11)
   have BR11 := mk_ (blk_below BR.out hb11)
   clear hw11 hb11 BX HB0 hcx0 hcx1 hcx2 hfx0 hfx1 hfx2 hy0 hy1 hy2 HS BR
   have hcx0 := bc0_ BX11.out
   have hcx1 := bc1_ BX11.out
   have hcx2 := bc2_ BX11.out
   have hcT0 : w11.cell? ⟨gT, 0, none⟩ = some (.map (some g1)) := (blk_cell HS11.out.cell 0).trans rfl
   have hcT1 : w11.cell? ⟨gT, 1, none⟩ = some (.map (some g2)) := (blk_cell HS11.out.cell 1).trans rfl
   have hcT2 : w11.cell? ⟨gT, 2, none⟩ = some (.map (some g3)) := (blk_cell HS11.out.cell 2).trans rfl
   cases h1 : fitsB H K x with
   | false =>
    have HF1 := mk_ h1
    have HZ := mk_ (ringsB_false (T := T) HLT.out (ringB_false (T := T) (by rw [HP.out]; exact HLJ.out) (show moveB H K l1 n m = false by rw [HMB.out, h1]; rfl)))
    clear h1
    go_wp2_with (first | (go_at_call 37; (with_reducible refine (fits_calls _ b g1 g2 g3 H K T x HS11.out.town).mono ?_); rw [HF1.out]; rintro e w12 ⟨rfl, hb_⟩; have HS12 := mk_ (HS11.out.later hb_); have BX12 := mk_ (blk_below BX11.out hb_); have BR12 := mk_ (blk_below BR11.out hb_); replace hcx0 := cd_ hb_ hcx0; replace hcx1 := cd_ hb_ hcx1; replace hcx2 := cd_ hb_ hcx2; clear hb_ hcT0 hcT1 hcT2))
    (try simp only [Exit.noGoto_ret])
    go_ret
    rw [HZ.out]
    exact ⟨rfl, HS12.out.below⟩
   | true =>
   have HF1 := mk_ h1
   cases h2 : (setB (fun m => m.f0) ms x.f0).getD false with
   | true =>
    have HF2 := mk_ h2
    have HZ := mk_ (ringsB_false (T := T) HLT.out (ringB_false (T := T) (by rw [HP.out]; exact HLJ.out) (show moveB H K l1 n m = false by rw [HMB.out, h1, h2]; rfl)))
    clear h1 h2
    go_wp2_with (first | (go_at_call 37; (with_reducible refine (fits_calls _ b g1 g2 g3 H K T x HS11.out.town).mono ?_); rw [HF1.out]; rintro e w12 ⟨rfl, hb_⟩; have HS12 := mk_ (HS11.out.later hb_); have BX12 := mk_ (blk_below BX11.out hb_); have BR12 := mk_ (blk_below BR11.out hb_); replace hcx0 := cd_ hb_ hcx0; replace hcx1 := cd_ hb_ hcx1; replace hcx2 := cd_ hb_ hcx2; clear hb_ hcT0 hcT1 hcT2) | ((with_reducible refine gate_ (op := .lookup 66 (.tmp 32) (.tmp 34) false) rfl ?_); (try (refine gate_guard (by rfl) ?_; dsimp only)); refine wpList_lookI _ rfl (.tmp 32) (.tmp 34) 66 false rfl 3 4 Try.underlying66 Try.underlying3 (Try.zeroValue4 _) gh (mapV vBool (setB (fun m => m.f0) ms)) rfl HS12.out.homes x.f0 rfl ?_; rw [if_neg (by decide), show (Value.bool false) = vBool false from rfl, mapV_get, HF2.out]; dsimp only [vBool]))
    (try simp only [Exit.noGoto_ret])
    go_ret
    rw [HZ.out]
    exact ⟨rfl, HS12.out.below⟩
   | false =>
   have HF2 := mk_ h2
   cases h3 : (setB (fun m => m.f2) ms x.f2).getD false with
   | true =>
    have HF3 := mk_ h3
    have HZ := mk_ (ringsB_false (T := T) HLT.out (ringB_false (T := T) (by rw [HP.out]; exact HLJ.out) (show moveB H K l1 n m = false by rw [HMB.out, h1, h2, h3]; rfl)))
    clear h1 h2 h3
    go_wp2_with (first | (go_at_call 37; (with_reducible refine (fits_calls _ b g1 g2 g3 H K T x HS11.out.town).mono ?_); rw [HF1.out]; rintro e w12 ⟨rfl, hb_⟩; have HS12 := mk_ (HS11.out.later hb_); have BX12 := mk_ (blk_below BX11.out hb_); have BR12 := mk_ (blk_below BR11.out hb_); replace hcx0 := cd_ hb_ hcx0; replace hcx1 := cd_ hb_ hcx1; replace hcx2 := cd_ hb_ hcx2; clear hb_ hcT0 hcT1 hcT2) | ((with_reducible refine gate_ (op := .lookup 66 (.tmp 32) (.tmp 34) false) rfl ?_); (try (refine gate_guard (by rfl) ?_; dsimp only)); refine wpList_lookI _ rfl (.tmp 32) (.tmp 34) 66 false rfl 3 4 Try.underlying66 Try.underlying3 (Try.zeroValue4 _) gh (mapV vBool (setB (fun m => m.f0) ms)) rfl HS12.out.homes x.f0 rfl ?_; rw [if_neg (by decide), show (Value.bool false) = vBool false from rfl, mapV_get, HF2.out]; dsimp only [vBool]) | ((with_reducible refine gate_ (op := .lookup 66 (.tmp 38) (.tmp 40) false) rfl ?_); (try (refine gate_guard (by rfl) ?_; dsimp only)); refine wpList_lookI _ rfl (.tmp 38) (.tmp 40) 66 false rfl 3 4 Try.underlying66 Try.underlying3 (Try.zeroValue4 _) gq (mapV vBool (setB (fun m => m.f2) ms)) rfl HS12.out.goals x.f2 rfl ?_; rw [if_neg (by decide), show (Value.bool false) = vBool false from rfl, mapV_get, HF3.out]; dsimp only [vBool]))
    (try simp only [Exit.noGoto_ret])
    go_ret
    rw [HZ.out]
    exact ⟨rfl, HS12.out.below⟩
   | false =>
   have HF3 := mk_ h3
   have HMB2 := mk_ (show moveB H K l1 n m = !offB r m by rw [HMB.out, h1, h2, h3]; rfl)
   clear h1 h2 h3
   go_upto_region 10 with (first | (go_at_call 37; (with_reducible refine (fits_calls _ b g1 g2 g3 H K T x HS11.out.town).mono ?_); rw [HF1.out]; rintro e w12 ⟨rfl, hb_⟩; have HS12 := mk_ (HS11.out.later hb_); have BX12 := mk_ (blk_below BX11.out hb_); have BR12 := mk_ (blk_below BR11.out hb_); replace hcx0 := cd_ hb_ hcx0; replace hcx1 := cd_ hb_ hcx1; replace hcx2 := cd_ hb_ hcx2; clear hb_ hcT0 hcT1 hcT2) | ((with_reducible refine gate_ (op := .lookup 66 (.tmp 32) (.tmp 34) false) rfl ?_); (try (refine gate_guard (by rfl) ?_; dsimp only)); refine wpList_lookI _ rfl (.tmp 32) (.tmp 34) 66 false rfl 3 4 Try.underlying66 Try.underlying3 (Try.zeroValue4 _) gh (mapV vBool (setB (fun m => m.f0) ms)) rfl HS12.out.homes x.f0 rfl ?_; rw [if_neg (by decide), show (Value.bool false) = vBool false from rfl, mapV_get, HF2.out]; dsimp only [vBool]) | ((with_reducible refine gate_ (op := .lookup 66 (.tmp 38) (.tmp 40) false) rfl ?_); (try (refine gate_guard (by rfl) ?_; dsimp only)); refine wpList_lookI _ rfl (.tmp 38) (.tmp 40) 66 false rfl 3 4 Try.underlying66 Try.underlying3 (Try.zeroValue4 _) gq (mapV vBool (setB (fun m => m.f2) ms)) rfl HS12.out.goals x.f2 rfl ?_; rw [if_neg (by decide), show (Value.bool false) = vBool false from rfl, mapV_get, HF3.out]; dsimp only [vBool]))
   refine start_ (n := 8) (S := fun w' => w'.cell? ⟨gx, 0, none⟩ = some (.int .i64 x.f0) ∧ w'.cell? ⟨gx, 2, none⟩ = some (.int .i64 x.f2)) (ds := []) #[n_, n_, n_, n_, n_, n_, n_, n_] (by kernel_rfl) rfl rfl ⟨hcx0, hcx2⟩ (fun hHeld => ?_)
   refine pv_ 0 43 (w_ 8 1) rfl ?_
   refine pv_ 1 44 (w_ 8 3) rfl ?_
   refine pv_ 3 46 (w_ 8 11) rfl ?_
   refine pv_ 4 47 (w_ 8 27) rfl ?_
   refine tb_ 2 45 (w_ 8 31) rfl hHeld (by rintro w' ⟨s0, s1⟩; go_simp; with_reducible rfl) ?_
   refine tb_ 5 48 (w_ 8 63) rfl hHeld (by rintro w' ⟨s0, s1⟩; go_simp; with_reducible rfl) ?_
   refine one_ (i := 6) (N := none) (w_ 8 127) rfl rfl (by kernel_rfl) (by decide) (fun K hK => ?_)
   obtain ⟨w13, hrun_, hm_, hg_⟩ := run_storeI (P := Try.prog) (t := 66) (kt := 3) (et := 4) HS12.out.homes.drew Try.underlying66 Try.underlying3 x.f0 (.bool true)
   have HM13 := mk_ hm_
   have HG13 := mk_ hg_
   refine skip_ (w1 := w13) (by rfl) rfl ?_ ?_
   ·go_simp
    try (first | (rw [hrun_]; done) | (rw [hrun_]; rfl) | rfl)
   clear hrun_ hm_ hg_
   have BX13 := mk_ (blk_grown (show w12.drew.heap[gx]? = _ from BX12.out) HG13.out (HS12.out.homes.ne_blk BX12.out))
   have BR13 := mk_ (blk_grown (show w12.drew.heap[gr]? = _ from BR12.out) HG13.out (HS12.out.homes.ne_blk BR12.out))
   have HQ13 := mk_ (HS12.out.goals.drew.kept HG13.out (fun e_ => HS12.out.ne.2.2.2.2.2.2 (by cases e_; rfl)))
   refine hK.out _ _ ⟨(blk_cell BX13.out 0).trans rfl, (blk_cell BX13.out 2).trans rfl⟩ (fun hHeld => ?_)
   clear hK K
   refine one_ (i := 7) (N := none) (w_ 8 255) rfl rfl (by kernel_rfl) (by decide) (fun K hK => ?_)
   obtain ⟨w14, hrun_, hm_, hg_⟩ := run_storeI (P := Try.prog) (t := 66) (kt := 3) (et := 4) HQ13.out Try.underlying66 Try.underlying3 x.f2 (.bool true)
   have HM14 := mk_ hm_
   have HG14 := mk_ hg_
   refine skip_ (w1 := w14) (by rfl) rfl ?_ ?_
   ·go_simp
    try (first | (rw [hrun_]; done) | (rw [hrun_]; rfl) | rfl)
   clear hrun_ hm_ hg_
   have BX14 := mk_ (blk_grown BX13.out HG14.out (HQ13.out.ne_blk BX13.out))
   have BR14 := mk_ (blk_grown BR13.out HG14.out (HQ13.out.ne_blk BR13.out))
   refine hK.out _ _ ⟨(blk_cell BX14.out 0).trans rfl, (blk_cell BX14.out 2).trans rfl⟩ (fun hHeld => ?_)
   clear hK K
   refine done_ (by kernel_rfl) ?_
   go_upto_region 11 with (fail)
   have HS14 := mk_ (HS12.out.later (below_drew (Below.refl _ _)) |>.step x HM13.out HG13.out HM14.out HG14.out)
   have HMS2 := mk_ (show ms ++ [x] = ahead l1 n (m + 1) by rw [ahead_succ l1 n m (by rw [HP.out]; exact HLJ.out), HP.out, HX.out, HMS.out])
   clear hcx0 hcx1 hcx2 hHeld
   have hcx1 := bc1_ BX14.out
   have hcx2 := bc2_ BX14.out
   have hcr0 := bc0_ BR14.out
   have hcr1 := bc1_ BR14.out
   have hl0 : ((r.f1.length : Int) = 0) = False := eq_false (by have := HLJ.out; omega)
   have hl2 : (r.f1 = []) = False := eq_false (fun e => by have := HLJ.out; rw [e] at this; simp at this)
   have hl3 : (r.f1.length = 0) = False := eq_false (by have := HLJ.out; omega)
   have hl1 : ((r.f1.length : Int) == 0) = false := beq_eq_false_iff_ne.2 (by have := HLJ.out; omega)
   by_cases hi0 : 0 < q
   rotate_left
   ·have u0 : decide (0 < q) = false := decide_eq_false hi0
    have HM0 := mk_ (show decide (0 < m) = false from decide_eq_false (by have := HJ2.out; omega))
    clear hi0
    rcases Bool.eq_false_or_eq_true r.f0 with hch | hch
    ·have HCH := mk_ hch
     rw [hch] at hcr0
     clear hch
     have HOF := mk_ (show offB r m = false by unfold offB; rw [HX.out]; rw [HM0.out, HCH.out]; rfl)
     have HMT := mk_ (show moveB H K l1 n m = true by rw [HMB2.out, HOF.out]; rfl)
     refine start_ (n := 44) (S := fun w' => w'.cell? ⟨gx, 1, none⟩ = some (.int .i64 x.f1) ∧ w'.cell? ⟨gx, 2, none⟩ = some (.int .i64 x.f2) ∧ w'.cell? ⟨gr, 0, none⟩ = some (.bool true) ∧ w'.cell? ⟨gr, 1, none⟩ = some (.slice (some adx) r.f1.length cr)) (ds := []) #[n_, n_, n_, n_, n_, n_, n_, n_, n_, n_, n_, n_, n_, n_, n_, n_, n_, n_, n_, n_, n_, n_, n_, n_, n_, n_, n_, n_, n_, n_, n_, n_, n_, n_, n_, n_, n_, n_, n_, n_, n_, n_, n_, n_] (by kernel_rfl) rfl rfl ⟨hcx1, hcx2, hcr0, hcr1⟩ (fun hHeld => ?_)
     refine pv_ 0 49 (w_ 44 1) rfl ?_
     refine pv_ 1 50 (w_ 44 3) rfl ?_
     refine pv_ 2 51 (w_ 44 7) rfl ?_
     refine po_ 3 52 (w_ 44 15) rfl ?_
     refine po_ 4 53 (w_ 44 31) rfl ?_
     refine pv_ 5 54 (w_ 44 63) rfl ?_
     refine pv_ 6 55 (w_ 44 127) rfl ?_
     refine po_ 7 56 (w_ 44 255) rfl ?_
     refine po_ 8 57 (w_ 44 511) rfl ?_
     refine po_ 9 58 (w_ 44 1023) rfl ?_
     refine po_ 10 59 (w_ 44 2047) rfl ?_
     refine po_ 11 60 (w_ 44 4095) rfl ?_
     refine po_ 12 61 (w_ 44 8191) rfl ?_
     refine po_ 13 62 (w_ 44 16383) rfl ?_
     refine po_ 14 63 (w_ 44 32767) rfl ?_
     refine po_ 15 64 (w_ 44 65535) rfl ?_
     refine po_ 16 65 (w_ 44 131071) rfl ?_
     refine pv_ 17 66 (w_ 44 262143) rfl ?_
     refine pv_ 18 67 (w_ 44 524287) rfl ?_
     refine pv_ 19 68 (w_ 44 1048575) rfl ?_
     refine tb_ 20 69 (w_ 44 2097151) rfl hHeld (by rintro w' ⟨s0, s1, s2, s3⟩; go_simp; with_reducible rfl) ?_
     refine pv_ 21 70 (w_ 44 4194303) rfl ?_
     refine pv_ 22 71 (w_ 44 8388607) rfl ?_
     refine po_ 23 72 (w_ 44 16777215) rfl ?_
     refine po_ 24 73 (w_ 44 33554431) rfl ?_
     refine po_ 25 74 (w_ 44 67108863) rfl ?_
     refine po_ 26 75 (w_ 44 134217727) rfl ?_
     refine po_ 27 76 (w_ 44 268435455) rfl ?_
     refine po_ 28 77 (w_ 44 536870911) rfl ?_
     refine po_ 29 78 (w_ 44 1073741823) rfl ?_
     refine po_ 30 79 (w_ 44 2147483647) rfl ?_
     refine po_ 31 80 (w_ 44 4294967295) rfl ?_
     refine po_ 32 81 (w_ 44 8589934591) rfl ?_
     refine po_ 33 82 (w_ 44 17179869183) rfl ?_
     refine po_ 34 83 (w_ 44 34359738367) rfl ?_
     refine po_ 35 84 (w_ 44 68719476735) rfl ?_
     refine po_ 36 85 (w_ 44 137438953471) rfl ?_
     refine po_ 37 86 (w_ 44 274877906943) rfl ?_
     refine po_ 38 87 (w_ 44 549755813887) rfl ?_
     refine po_ 39 88 (w_ 44 1099511627775) rfl ?_
     refine po_ 40 89 (w_ 44 2199023255551) rfl ?_
     refine po_ 41 90 (w_ 44 4398046511103) rfl ?_
     refine pv_ 42 91 (w_ 44 8796093022207) rfl ?_
     refine pv_ 43 92 (w_ 44 17592186044415) rfl ?_
     refine done_ (by kernel_rfl) ?_
     go_wp2_with (fail)
     go_roundg (gk - 1)
     case measure => have := HM.out; have := HLJ.out; omega
     case rel =>
      refine ⟨m + 1, ?_, ⟨by have := HM.out; have := HLJ.out; omega⟩, ⟨fun j hj => ?_⟩, BR14, ⟨?_⟩⟩
      ·have := HJ2.out
       first | (rw [show ((m + 1 : Nat) : Int) = q + 1 from by omega]; done) | (simp; omega)
      ·by_cases e : j = m
       rotate_left
       ·exact HQ.out j (by omega)
       rw [e]; exact HMT.out
      ·rw [← HMS2.out]
       exact HS14.out.later (below_drew (Below.refl _ _))
    ·have HCH := mk_ hch
     rw [hch] at hcr0
     clear hch
     cases hfr : (x.f1 == 0) with
     | true =>
      have HOF := mk_ (show offB r m = true by unfold offB; rw [HX.out]; rw [HCH.out, hfr, Bool.and_false]; rfl)
      have HZ := mk_ (ringsB_false (T := T) HLT.out (ringB_false (T := T) (by rw [HP.out]; exact HLJ.out) (show moveB H K l1 n m = false by rw [HMB2.out, HOF.out]; rfl)))
      refine start_ (n := 44) (S := fun w' => w'.cell? ⟨gx, 1, none⟩ = some (.int .i64 x.f1) ∧ w'.cell? ⟨gx, 2, none⟩ = some (.int .i64 x.f2) ∧ w'.cell? ⟨gr, 0, none⟩ = some (.bool false) ∧ w'.cell? ⟨gr, 1, none⟩ = some (.slice (some adx) r.f1.length cr)) (ds := []) #[n_, n_, n_, n_, n_, n_, n_, n_, n_, n_, n_, n_, n_, n_, n_, n_, n_, n_, n_, n_, n_, n_, n_, n_, n_, n_, n_, n_, n_, n_, n_, n_, n_, n_, n_, n_, n_, n_, n_, n_, n_, n_, n_, n_] (by kernel_rfl) rfl rfl ⟨hcx1, hcx2, hcr0, hcr1⟩ (fun hHeld => ?_)
      refine pv_ 0 49 (w_ 44 1) rfl ?_
      refine pv_ 1 50 (w_ 44 3) rfl ?_
      refine pv_ 2 51 (w_ 44 7) rfl ?_
      refine po_ 3 52 (w_ 44 15) rfl ?_
      refine po_ 4 53 (w_ 44 31) rfl ?_
      refine pv_ 5 54 (w_ 44 63) rfl ?_
      refine pv_ 6 55 (w_ 44 127) rfl ?_
      refine po_ 7 56 (w_ 44 255) rfl ?_
      refine po_ 8 57 (w_ 44 511) rfl ?_
      refine po_ 9 58 (w_ 44 1023) rfl ?_
      refine po_ 10 59 (w_ 44 2047) rfl ?_
      refine po_ 11 60 (w_ 44 4095) rfl ?_
      refine po_ 12 61 (w_ 44 8191) rfl ?_
      refine po_ 13 62 (w_ 44 16383) rfl ?_
      refine po_ 14 63 (w_ 44 32767) rfl ?_
      refine po_ 15 64 (w_ 44 65535) rfl ?_
      refine po_ 16 65 (w_ 44 131071) rfl ?_
      refine pv_ 17 66 (w_ 44 262143) rfl ?_
      refine pv_ 18 67 (w_ 44 524287) rfl ?_
      refine pv_ 19 68 (w_ 44 1048575) rfl ?_
      refine tb_ 20 69 (w_ 44 2097151) rfl hHeld (by rintro w' ⟨s0, s1, s2, s3⟩; go_simp; with_reducible rfl) ?_
      refine pv_ 21 70 (w_ 44 4194303) rfl ?_
      refine pv_ 22 71 (w_ 44 8388607) rfl ?_
      refine pv_ 23 72 (w_ 44 16777215) rfl ?_
      refine tb_ 24 73 (w_ 44 33554431) rfl hHeld (by rintro w' ⟨s0, s1, s2, s3⟩; go_simp; with_reducible rfl) ?_
      refine pv_ 25 74 (w_ 44 67108863) rfl ?_
      refine pv_ 26 75 (w_ 44 134217727) rfl ?_
      refine po_ 27 76 (w_ 44 268435455) rfl ?_
      refine po_ 28 77 (w_ 44 536870911) rfl ?_
      refine po_ 29 78 (w_ 44 1073741823) rfl ?_
      refine po_ 30 79 (w_ 44 2147483647) rfl ?_
      refine po_ 31 80 (w_ 44 4294967295) rfl ?_
      refine po_ 32 81 (w_ 44 8589934591) rfl ?_
      refine po_ 33 82 (w_ 44 17179869183) rfl ?_
      refine po_ 34 83 (w_ 44 34359738367) rfl ?_
      refine po_ 35 84 (w_ 44 68719476735) rfl ?_
      refine po_ 36 85 (w_ 44 137438953471) rfl ?_
      refine po_ 37 86 (w_ 44 274877906943) rfl ?_
      refine po_ 38 87 (w_ 44 549755813887) rfl ?_
      refine po_ 39 88 (w_ 44 1099511627775) rfl ?_
      refine po_ 40 89 (w_ 44 2199023255551) rfl ?_
      refine pv_ 41 90 (w_ 44 4398046511103) rfl ?_
      refine pv_ 42 91 (w_ 44 8796093022207) rfl ?_
      refine pv_ 43 92 (w_ 44 17592186044415) rfl ?_
      refine done_ (by kernel_rfl) ?_
      go_wp2_with (fail)
      (try simp only [Exit.noGoto_ret])
      go_ret
      rw [HZ.out]
      exact ⟨rfl, HS14.out.below.drew⟩
     | false =>
      obtain ⟨z, hz⟩ : ∃ z, z = Int.tmod (q + 1) (r.f1.length : Int) := ⟨_, rfl⟩
      have hq0 : wrap64 (q + 1) = q + 1 := by unfold wrap64; have := HJ2.out; have := HRL.out; omega
      have hzz : Int.tmod (q + 1) (r.f1.length : Int) = z := hz.symm
      have HZR := mk_ (show 0 ≤ z ∧ z < r.f1.length from by rw [hz]; exact ⟨Int.tmod_nonneg _ (by have := HJ2.out; omega), Int.tmod_lt_of_pos _ (by have := HLJ.out; omega)⟩)
      have hz5 : (0 ≤ z) = True := eq_true HZR.out.1
      have hz6 : (z < r.f1.length) = True := eq_true HZR.out.2
      obtain ⟨adx', ex', hv0, hv1, hv2⟩ := at_T51 (Kd.C_below HRC.out.2 HS14.out.below) z HZR.out.1 HZR.out.2
      cases ex'
      obtain ⟨y, hy⟩ : ∃ y, y = (rd_T51 r.f1 z).f1 := ⟨_, rfl⟩
      rw [← hy] at hv1
      have HY := mk_ (show y = (rd_T51 r.f1 (Int.tmod ((m : Int) + 1) (r.f1.length : Int))).f1 by rw [hy, hz, HJ2.out.2.2])
      clear hy hv0 hv2 hz
      cases hne : (x.f2 != y) with
      | true =>
       have HOF := mk_ (show offB r m = true by unfold offB; rw [HX.out]; rw [HCH.out, hfr, ← HY.out, hne, Bool.and_false]; rfl)
       have HZ := mk_ (ringsB_false (T := T) HLT.out (ringB_false (T := T) (by rw [HP.out]; exact HLJ.out) (show moveB H K l1 n m = false by rw [HMB2.out, HOF.out]; rfl)))
       refine start_ (n := 44) (S := fun w' => w'.cell? ⟨gx, 1, none⟩ = some (.int .i64 x.f1) ∧ w'.cell? ⟨gx, 2, none⟩ = some (.int .i64 x.f2) ∧ w'.cell? ⟨gr, 0, none⟩ = some (.bool false) ∧ w'.cell? ⟨gr, 1, none⟩ = some (.slice (some adx) r.f1.length cr) ∧ w'.cell? ⟨(adx.add (z.toNat * 3)).block, (adx.add (z.toNat * 3)).off + 1, none⟩ = some (.int .i64 y)) (ds := []) #[n_, n_, n_, n_, n_, n_, n_, n_, n_, n_, n_, n_, n_, n_, n_, n_, n_, n_, n_, n_, n_, n_, n_, n_, n_, n_, n_, n_, n_, n_, n_, n_, n_, n_, n_, n_, n_, n_, n_, n_, n_, n_, n_, n_] (by kernel_rfl) rfl rfl ⟨hcx1, hcx2, hcr0, hcr1, hv1⟩ (fun hHeld => ?_)
       refine pv_ 0 49 (w_ 44 1) rfl ?_
       refine pv_ 1 50 (w_ 44 3) rfl ?_
       refine pv_ 2 51 (w_ 44 7) rfl ?_
       refine po_ 3 52 (w_ 44 15) rfl ?_
       refine po_ 4 53 (w_ 44 31) rfl ?_
       refine pv_ 5 54 (w_ 44 63) rfl ?_
       refine pv_ 6 55 (w_ 44 127) rfl ?_
       refine po_ 7 56 (w_ 44 255) rfl ?_
       refine po_ 8 57 (w_ 44 511) rfl ?_
       refine po_ 9 58 (w_ 44 1023) rfl ?_
       refine po_ 10 59 (w_ 44 2047) rfl ?_
       refine po_ 11 60 (w_ 44 4095) rfl ?_
       refine po_ 12 61 (w_ 44 8191) rfl ?_
       refine po_ 13 62 (w_ 44 16383) rfl ?_
       refine po_ 14 63 (w_ 44 32767) rfl ?_
       refine po_ 15 64 (w_ 44 65535) rfl ?_
       refine po_ 16 65 (w_ 44 131071) rfl ?_
       refine pv_ 17 66 (w_ 44 262143) rfl ?_
       refine pv_ 18 67 (w_ 44 524287) rfl ?_
       refine pv_ 19 68 (w_ 44 1048575) rfl ?_
       refine tb_ 20 69 (w_ 44 2097151) rfl hHeld (by rintro w' ⟨s0, s1, s2, s3, s4⟩; go_simp; with_reducible rfl) ?_
       refine pv_ 21 70 (w_ 44 4194303) rfl ?_
       refine pv_ 22 71 (w_ 44 8388607) rfl ?_
       refine pv_ 23 72 (w_ 44 16777215) rfl ?_
       refine tb_ 24 73 (w_ 44 33554431) rfl hHeld (by rintro w' ⟨s0, s1, s2, s3, s4⟩; go_simp; with_reducible rfl) ?_
       refine pv_ 25 74 (w_ 44 67108863) rfl ?_
       refine pv_ 26 75 (w_ 44 134217727) rfl ?_
       refine pv_ 27 76 (w_ 44 268435455) rfl ?_
       refine pv_ 29 78 (w_ 44 805306367) rfl ?_
       refine pv_ 31 80 (w_ 44 2952790015) rfl ?_
       refine pv_ 32 81 (w_ 44 7247757311) rfl ?_
       refine pv_ 33 82 (w_ 44 15837691903) rfl ?_
       refine tb_ 28 77 (w_ 44 16106127359) rfl hHeld (by rintro w' ⟨s0, s1, s2, s3, s4⟩; go_simp; with_reducible rfl) ?_
       refine tb_ 30 79 (w_ 44 17179869183) rfl hHeld (by rintro w' ⟨s0, s1, s2, s3, s4⟩; go_simp; with_reducible rfl) ?_
       refine tb_ 34 83 (w_ 44 34359738367) rfl hHeld (by rintro w' ⟨s0, s1, s2, s3, s4⟩; go_simp; with_reducible rfl) ?_
       refine pv_ 35 84 (w_ 44 68719476735) rfl ?_
       refine pv_ 36 85 (w_ 44 137438953471) rfl ?_
       refine pv_ 37 86 (w_ 44 274877906943) rfl ?_
       refine pv_ 38 87 (w_ 44 549755813887) rfl ?_
       refine tb_ 39 88 (w_ 44 1099511627775) rfl hHeld (by rintro w' ⟨s0, s1, s2, s3, s4⟩; go_simp; with_reducible rfl) ?_
       refine pv_ 40 89 (w_ 44 2199023255551) rfl ?_
       refine pv_ 41 90 (w_ 44 4398046511103) rfl ?_
       refine pv_ 42 91 (w_ 44 8796093022207) rfl ?_
       refine pv_ 43 92 (w_ 44 17592186044415) rfl ?_
       refine done_ (by kernel_rfl) ?_
       go_wp2_with (fail)
       (try simp only [Exit.noGoto_ret])
       go_ret
       rw [HZ.out]
       exact ⟨rfl, HS14.out.below.drew⟩
      | false =>
       have HOF := mk_ (show offB r m = false by unfold offB; rw [HX.out]; rw [HCH.out, hfr, ← HY.out, hne, Bool.and_false]; rfl)
       have HMT := mk_ (show moveB H K l1 n m = true by rw [HMB2.out, HOF.out]; rfl)
       refine start_ (n := 44) (S := fun w' => w'.cell? ⟨gx, 1, none⟩ = some (.int .i64 x.f1) ∧ w'.cell? ⟨gx, 2, none⟩ = some (.int .i64 x.f2) ∧ w'.cell? ⟨gr, 0, none⟩ = some (.bool false) ∧ w'.cell? ⟨gr, 1, none⟩ = some (.slice (some adx) r.f1.length cr) ∧ w'.cell? ⟨(adx.add (z.toNat * 3)).block, (adx.add (z.toNat * 3)).off + 1, none⟩ = some (.int .i64 y)) (ds := []) #[n_, n_, n_, n_, n_, n_, n_, n_, n_, n_, n_, n_, n_, n_, n_, n_, n_, n_, n_, n_, n_, n_, n_, n_, n_, n_, n_, n_, n_, n_, n_, n_, n_, n_, n_, n_, n_, n_, n_, n_, n_, n_, n_, n_] (by kernel_rfl) rfl rfl ⟨hcx1, hcx2, hcr0, hcr1, hv1⟩ (fun hHeld => ?_)
       refine pv_ 0 49 (w_ 44 1) rfl ?_
       refine pv_ 1 50 (w_ 44 3) rfl ?_
       refine pv_ 2 51 (w_ 44 7) rfl ?_
       refine po_ 3 52 (w_ 44 15) rfl ?_
       refine po_ 4 53 (w_ 44 31) rfl ?_
       refine pv_ 5 54 (w_ 44 63) rfl ?_
       refine pv_ 6 55 (w_ 44 127) rfl ?_
       refine po_ 7 56 (w_ 44 255) rfl ?_
       refine po_ 8 57 (w_ 44 511) rfl ?_
       refine po_ 9 58 (w_ 44 1023) rfl ?_
       refine po_ 10 59 (w_ 44 2047) rfl ?_
       refine po_ 11 60 (w_ 44 4095) rfl ?_
       refine po_ 12 61 (w_ 44 8191) rfl ?_
       refine po_ 13 62 (w_ 44 16383) rfl ?_
       refine po_ 14 63 (w_ 44 32767) rfl ?_
       refine po_ 15 64 (w_ 44 65535) rfl ?_
       refine po_ 16 65 (w_ 44 131071) rfl ?_
       refine pv_ 17 66 (w_ 44 262143) rfl ?_
       refine pv_ 18 67 (w_ 44 524287) rfl ?_
       refine pv_ 19 68 (w_ 44 1048575) rfl ?_
       refine tb_ 20 69 (w_ 44 2097151) rfl hHeld (by rintro w' ⟨s0, s1, s2, s3, s4⟩; go_simp; with_reducible rfl) ?_
       refine pv_ 21 70 (w_ 44 4194303) rfl ?_
       refine pv_ 22 71 (w_ 44 8388607) rfl ?_
       refine pv_ 23 72 (w_ 44 16777215) rfl ?_
       refine tb_ 24 73 (w_ 44 33554431) rfl hHeld (by rintro w' ⟨s0, s1, s2, s3, s4⟩; go_simp; with_reducible rfl) ?_
       refine pv_ 25 74 (w_ 44 67108863) rfl ?_
       refine pv_ 26 75 (w_ 44 134217727) rfl ?_
       refine pv_ 27 76 (w_ 44 268435455) rfl ?_
       refine pv_ 29 78 (w_ 44 805306367) rfl ?_
       refine pv_ 31 80 (w_ 44 2952790015) rfl ?_
       refine pv_ 32 81 (w_ 44 7247757311) rfl ?_
       refine pv_ 33 82 (w_ 44 15837691903) rfl ?_
       refine tb_ 28 77 (w_ 44 16106127359) rfl hHeld (by rintro w' ⟨s0, s1, s2, s3, s4⟩; go_simp; with_reducible rfl) ?_
       refine tb_ 30 79 (w_ 44 17179869183) rfl hHeld (by rintro w' ⟨s0, s1, s2, s3, s4⟩; go_simp; with_reducible rfl) ?_
       refine tb_ 34 83 (w_ 44 34359738367) rfl hHeld (by rintro w' ⟨s0, s1, s2, s3, s4⟩; go_simp; with_reducible rfl) ?_
       refine pv_ 35 84 (w_ 44 68719476735) rfl ?_
       refine pv_ 36 85 (w_ 44 137438953471) rfl ?_
       refine pv_ 37 86 (w_ 44 274877906943) rfl ?_
       refine pv_ 38 87 (w_ 44 549755813887) rfl ?_
       refine tb_ 39 88 (w_ 44 1099511627775) rfl hHeld (by rintro w' ⟨s0, s1, s2, s3, s4⟩; go_simp; with_reducible rfl) ?_
       refine pv_ 40 89 (w_ 44 2199023255551) rfl ?_
       refine pv_ 41 90 (w_ 44 4398046511103) rfl ?_
       refine pv_ 42 91 (w_ 44 8796093022207) rfl ?_
       refine pv_ 43 92 (w_ 44 17592186044415) rfl ?_
       refine done_ (by kernel_rfl) ?_
       go_wp2_with (fail)
       go_roundg (gk - 1)
       case measure => have := HM.out; have := HLJ.out; omega
       case rel =>
        refine ⟨m + 1, ?_, ⟨by have := HM.out; have := HLJ.out; omega⟩, ⟨fun j hj => ?_⟩, BR14, ⟨?_⟩⟩
        ·have := HJ2.out
         first | (rw [show ((m + 1 : Nat) : Int) = q + 1 from by omega]; done) | (simp; omega)
        ·by_cases e : j = m
         rotate_left
         ·exact HQ.out j (by omega)
         rw [e]; exact HMT.out
        ·rw [← HMS2.out]
         exact HS14.out.later (below_drew (Below.refl _ _))
   have u0 : decide (0 < q) = true := decide_eq_true hi0
   have HI0 := mk_ hi0
   have HM0 := mk_ (show decide (0 < m) = true from decide_eq_true (by have := HJ2.out; omega))
   clear hi0
   rcases Bool.eq_false_or_eq_true r.f0 with hch | hch
   ·have HCH := mk_ hch
    rw [hch] at hcr0
    clear hch
    obtain ⟨z, hz⟩ : ∃ z, z = q - 1 := ⟨_, rfl⟩
    have hq0 : wrap64 (q - 1) = z := by rw [hz]; unfold wrap64; have := HJ2.out; have := HRL.out; omega
    have HZR := mk_ (show 0 ≤ z ∧ z < r.f1.length from ⟨by have := HI0.out; omega, by have := HJ2.out; omega⟩)
    have hq3 : (0 ≤ z) = True := eq_true HZR.out.1
    have hq4 : (z < r.f1.length) = True := eq_true HZR.out.2
    obtain ⟨adx', ex', hv0, hv1, hv2⟩ := at_T51 (Kd.C_below HRC.out.2 HS14.out.below) z HZR.out.1 HZR.out.2
    cases ex'
    obtain ⟨y, hy⟩ : ∃ y, y = (rd_T51 r.f1 z).f1 := ⟨_, rfl⟩
    rw [← hy] at hv1
    have HY := mk_ (show y = (rd_T51 r.f1 ((m : Int) - 1)).f1 by rw [hy, hz, HJ2.out.2.2])
    clear hy hv0 hv2 hz
    cases hne : (x.f2 != y) with
    | true =>
     have HOF := mk_ (show offB r m = true by unfold offB; rw [HX.out]; rw [HM0.out, HCH.out, ← HY.out, hne]; rfl)
     have HZ := mk_ (ringsB_false (T := T) HLT.out (ringB_false (T := T) (by rw [HP.out]; exact HLJ.out) (show moveB H K l1 n m = false by rw [HMB2.out, HOF.out]; rfl)))
     refine start_ (n := 44) (S := fun w' => w'.cell? ⟨gx, 1, none⟩ = some (.int .i64 x.f1) ∧ w'.cell? ⟨gx, 2, none⟩ = some (.int .i64 x.f2) ∧ w'.cell? ⟨gr, 0, none⟩ = some (.bool true) ∧ w'.cell? ⟨gr, 1, none⟩ = some (.slice (some adx) r.f1.length cr) ∧ w'.cell? ⟨(adx.add (z.toNat * 3)).block, (adx.add (z.toNat * 3)).off + 1, none⟩ = some (.int .i64 y)) (ds := []) #[n_, n_, n_, n_, n_, n_, n_, n_, n_, n_, n_, n_, n_, n_, n_, n_, n_, n_, n_, n_, n_, n_, n_, n_, n_, n_, n_, n_, n_, n_, n_, n_, n_, n_, n_, n_, n_, n_, n_, n_, n_, n_, n_, n_] (by kernel_rfl) rfl rfl ⟨hcx1, hcx2, hcr0, hcr1, hv1⟩ (fun hHeld => ?_)
     refine pv_ 0 49 (w_ 44 1) rfl ?_
     refine pv_ 1 50 (w_ 44 3) rfl ?_
     refine pv_ 2 51 (w_ 44 7) rfl ?_
     refine pv_ 3 52 (w_ 44 15) rfl ?_
     refine tb_ 4 53 (w_ 44 31) rfl hHeld (by rintro w' ⟨s0, s1, s2, s3, s4⟩; go_simp; with_reducible rfl) ?_
     refine pv_ 5 54 (w_ 44 63) rfl ?_
     refine pv_ 6 55 (w_ 44 127) rfl ?_
     refine pv_ 7 56 (w_ 44 255) rfl ?_
     refine pv_ 9 58 (w_ 44 767) rfl ?_
     refine pv_ 11 60 (w_ 44 2815) rfl ?_
     refine pv_ 12 61 (w_ 44 6911) rfl ?_
     refine tb_ 8 57 (w_ 44 7167) rfl hHeld (by rintro w' ⟨s0, s1, s2, s3, s4⟩; go_simp; with_reducible rfl) ?_
     refine tb_ 10 59 (w_ 44 8191) rfl hHeld (by rintro w' ⟨s0, s1, s2, s3, s4⟩; go_simp; with_reducible rfl) ?_
     refine pv_ 13 62 (w_ 44 16383) rfl ?_
     refine pv_ 14 63 (w_ 44 32767) rfl ?_
     refine tb_ 15 64 (w_ 44 65535) rfl hHeld (by rintro w' ⟨s0, s1, s2, s3, s4⟩; go_simp; with_reducible rfl) ?_
     refine pv_ 16 65 (w_ 44 131071) rfl ?_
     refine pv_ 17 66 (w_ 44 262143) rfl ?_
     refine pv_ 18 67 (w_ 44 524287) rfl ?_
     refine po_ 19 68 (w_ 44 1048575) rfl ?_
     refine po_ 20 69 (w_ 44 2097151) rfl ?_
     refine po_ 21 70 (w_ 44 4194303) rfl ?_
     refine po_ 22 71 (w_ 44 8388607) rfl ?_
     refine po_ 23 72 (w_ 44 16777215) rfl ?_
     refine po_ 24 73 (w_ 44 33554431) rfl ?_
     refine po_ 25 74 (w_ 44 67108863) rfl ?_
     refine po_ 26 75 (w_ 44 134217727) rfl ?_
     refine po_ 27 76 (w_ 44 268435455) rfl ?_
     refine po_ 28 77 (w_ 44 536870911) rfl ?_
     refine po_ 29 78 (w_ 44 1073741823) rfl ?_
     refine po_ 30 79 (w_ 44 2147483647) rfl ?_
     refine po_ 31 80 (w_ 44 4294967295) rfl ?_
     refine po_ 32 81 (w_ 44 8589934591) rfl ?_
     refine po_ 33 82 (w_ 44 17179869183) rfl ?_
     refine po_ 34 83 (w_ 44 34359738367) rfl ?_
     refine po_ 35 84 (w_ 44 68719476735) rfl ?_
     refine po_ 36 85 (w_ 44 137438953471) rfl ?_
     refine po_ 37 86 (w_ 44 274877906943) rfl ?_
     refine po_ 38 87 (w_ 44 549755813887) rfl ?_
     refine po_ 39 88 (w_ 44 1099511627775) rfl ?_
     refine po_ 40 89 (w_ 44 2199023255551) rfl ?_
     refine po_ 41 90 (w_ 44 4398046511103) rfl ?_
     refine po_ 42 91 (w_ 44 8796093022207) rfl ?_
     refine pv_ 43 92 (w_ 44 17592186044415) rfl ?_
     refine done_ (by kernel_rfl) ?_
     go_wp2_with (fail)
     (try simp only [Exit.noGoto_ret])
     go_ret
     rw [HZ.out]
     exact ⟨rfl, HS14.out.below.drew⟩
    | false =>
     have HOF := mk_ (show offB r m = false by unfold offB; rw [HX.out]; rw [HM0.out, HCH.out, ← HY.out, hne]; rfl)
     have HMT := mk_ (show moveB H K l1 n m = true by rw [HMB2.out, HOF.out]; rfl)
     refine start_ (n := 44) (S := fun w' => w'.cell? ⟨gx, 1, none⟩ = some (.int .i64 x.f1) ∧ w'.cell? ⟨gx, 2, none⟩ = some (.int .i64 x.f2) ∧ w'.cell? ⟨gr, 0, none⟩ = some (.bool true) ∧ w'.cell? ⟨gr, 1, none⟩ = some (.slice (some adx) r.f1.length cr) ∧ w'.cell? ⟨(adx.add (z.toNat * 3)).block, (adx.add (z.toNat * 3)).off + 1, none⟩ = some (.int .i64 y)) (ds := []) #[n_, n_, n_, n_, n_, n_, n_, n_, n_, n_, n_, n_, n_, n_, n_, n_, n_, n_, n_, n_, n_, n_, n_, n_, n_, n_, n_, n_, n_, n_, n_, n_, n_, n_, n_, n_, n_, n_, n_, n_, n_, n_, n_, n_] (by kernel_rfl) rfl rfl ⟨hcx1, hcx2, hcr0, hcr1, hv1⟩ (fun hHeld => ?_)
     refine pv_ 0 49 (w_ 44 1) rfl ?_
     refine pv_ 1 50 (w_ 44 3) rfl ?_
     refine pv_ 2 51 (w_ 44 7) rfl ?_
     refine pv_ 3 52 (w_ 44 15) rfl ?_
     refine tb_ 4 53 (w_ 44 31) rfl hHeld (by rintro w' ⟨s0, s1, s2, s3, s4⟩; go_simp; with_reducible rfl) ?_
     refine pv_ 5 54 (w_ 44 63) rfl ?_
     refine pv_ 6 55 (w_ 44 127) rfl ?_
     refine pv_ 7 56 (w_ 44 255) rfl ?_
     refine pv_ 9 58 (w_ 44 767) rfl ?_
     refine pv_ 11 60 (w_ 44 2815) rfl ?_
     refine pv_ 12 61 (w_ 44 6911) rfl ?_
     refine tb_ 8 57 (w_ 44 7167) rfl hHeld (by rintro w' ⟨s0, s1, s2, s3, s4⟩; go_simp; with_reducible rfl) ?_
     refine tb_ 10 59 (w_ 44 8191) rfl hHeld (by rintro w' ⟨s0, s1, s2, s3, s4⟩; go_simp; with_reducible rfl) ?_
     refine pv_ 13 62 (w_ 44 16383) rfl ?_
     refine pv_ 14 63 (w_ 44 32767) rfl ?_
     refine tb_ 15 64 (w_ 44 65535) rfl hHeld (by rintro w' ⟨s0, s1, s2, s3, s4⟩; go_simp; with_reducible rfl) ?_
     refine pv_ 16 65 (w_ 44 131071) rfl ?_
     refine pv_ 17 66 (w_ 44 262143) rfl ?_
     refine pv_ 18 67 (w_ 44 524287) rfl ?_
     refine pv_ 19 68 (w_ 44 1048575) rfl ?_
     refine tb_ 20 69 (w_ 44 2097151) rfl hHeld (by rintro w' ⟨s0, s1, s2, s3, s4⟩; go_simp; with_reducible rfl) ?_
     refine pv_ 21 70 (w_ 44 4194303) rfl ?_
     refine pv_ 22 71 (w_ 44 8388607) rfl ?_
     refine po_ 23 72 (w_ 44 16777215) rfl ?_
     refine po_ 24 73 (w_ 44 33554431) rfl ?_
     refine po_ 25 74 (w_ 44 67108863) rfl ?_
     refine po_ 26 75 (w_ 44 134217727) rfl ?_
     refine po_ 27 76 (w_ 44 268435455) rfl ?_
     refine po_ 28 77 (w_ 44 536870911) rfl ?_
     refine po_ 29 78 (w_ 44 1073741823) rfl ?_
     refine po_ 30 79 (w_ 44 2147483647) rfl ?_
     refine po_ 31 80 (w_ 44 4294967295) rfl ?_
     refine po_ 32 81 (w_ 44 8589934591) rfl ?_
     refine po_ 33 82 (w_ 44 17179869183) rfl ?_
     refine po_ 34 83 (w_ 44 34359738367) rfl ?_
     refine po_ 35 84 (w_ 44 68719476735) rfl ?_
     refine po_ 36 85 (w_ 44 137438953471) rfl ?_
     refine po_ 37 86 (w_ 44 274877906943) rfl ?_
     refine po_ 38 87 (w_ 44 549755813887) rfl ?_
     refine po_ 39 88 (w_ 44 1099511627775) rfl ?_
     refine po_ 40 89 (w_ 44 2199023255551) rfl ?_
     refine po_ 41 90 (w_ 44 4398046511103) rfl ?_
     refine pv_ 42 91 (w_ 44 8796093022207) rfl ?_
     refine pv_ 43 92 (w_ 44 17592186044415) rfl ?_
     refine done_ (by kernel_rfl) ?_
     go_wp2_with (fail)
     go_roundg (gk - 1)
     case measure => have := HM.out; have := HLJ.out; omega
     case rel =>
      refine ⟨m + 1, ?_, ⟨by have := HM.out; have := HLJ.out; omega⟩, ⟨fun j hj => ?_⟩, BR14, ⟨?_⟩⟩
      ·have := HJ2.out
       first | (rw [show ((m + 1 : Nat) : Int) = q + 1 from by omega]; done) | (simp; omega)
      ·by_cases e : j = m
       rotate_left
       ·exact HQ.out j (by omega)
       rw [e]; exact HMT.out
      ·rw [← HMS2.out]
       exact HS14.out.later (below_drew (Below.refl _ _))
   ·have HCH := mk_ hch
    rw [hch] at hcr0
    clear hch
    cases hfr : (x.f1 == 0) with
    | true =>
     have HOF := mk_ (show offB r m = true by unfold offB; rw [HX.out]; rw [HCH.out, hfr, Bool.and_false]; rfl)
     have HZ := mk_ (ringsB_false (T := T) HLT.out (ringB_false (T := T) (by rw [HP.out]; exact HLJ.out) (show moveB H K l1 n m = false by rw [HMB2.out, HOF.out]; rfl)))
     refine start_ (n := 44) (S := fun w' => w'.cell? ⟨gx, 1, none⟩ = some (.int .i64 x.f1) ∧ w'.cell? ⟨gx, 2, none⟩ = some (.int .i64 x.f2) ∧ w'.cell? ⟨gr, 0, none⟩ = some (.bool false) ∧ w'.cell? ⟨gr, 1, none⟩ = some (.slice (some adx) r.f1.length cr)) (ds := []) #[n_, n_, n_, n_, n_, n_, n_, n_, n_, n_, n_, n_, n_, n_, n_, n_, n_, n_, n_, n_, n_, n_, n_, n_, n_, n_, n_, n_, n_, n_, n_, n_, n_, n_, n_, n_, n_, n_, n_, n_, n_, n_, n_, n_] (by kernel_rfl) rfl rfl ⟨hcx1, hcx2, hcr0, hcr1⟩ (fun hHeld => ?_)
     refine pv_ 0 49 (w_ 44 1) rfl ?_
     refine pv_ 1 50 (w_ 44 3) rfl ?_
     refine pv_ 2 51 (w_ 44 7) rfl ?_
     refine pv_ 3 52 (w_ 44 15) rfl ?_
     refine tb_ 4 53 (w_ 44 31) rfl hHeld (by rintro w' ⟨s0, s1, s2, s3⟩; go_simp; with_reducible rfl) ?_
     refine pv_ 5 54 (w_ 44 63) rfl ?_
     refine pv_ 6 55 (w_ 44 127) rfl ?_
     refine po_ 7 56 (w_ 44 255) rfl ?_
     refine po_ 8 57 (w_ 44 511) rfl ?_
     refine po_ 9 58 (w_ 44 1023) rfl ?_
     refine po_ 10 59 (w_ 44 2047) rfl ?_
     refine po_ 11 60 (w_ 44 4095) rfl ?_
     refine po_ 12 61 (w_ 44 8191) rfl ?_
     refine po_ 13 62 (w_ 44 16383) rfl ?_
     refine po_ 14 63 (w_ 44 32767) rfl ?_
     refine po_ 15 64 (w_ 44 65535) rfl ?_
     refine po_ 16 65 (w_ 44 131071) rfl ?_
     refine pv_ 17 66 (w_ 44 262143) rfl ?_
     refine pv_ 18 67 (w_ 44 524287) rfl ?_
     refine pv_ 19 68 (w_ 44 1048575) rfl ?_
     refine tb_ 20 69 (w_ 44 2097151) rfl hHeld (by rintro w' ⟨s0, s1, s2, s3⟩; go_simp; with_reducible rfl) ?_
     refine pv_ 21 70 (w_ 44 4194303) rfl ?_
     refine pv_ 22 71 (w_ 44 8388607) rfl ?_
     refine pv_ 23 72 (w_ 44 16777215) rfl ?_
     refine tb_ 24 73 (w_ 44 33554431) rfl hHeld (by rintro w' ⟨s0, s1, s2, s3⟩; go_simp; with_reducible rfl) ?_
     refine pv_ 25 74 (w_ 44 67108863) rfl ?_
     refine pv_ 26 75 (w_ 44 134217727) rfl ?_
     refine po_ 27 76 (w_ 44 268435455) rfl ?_
     refine po_ 28 77 (w_ 44 536870911) rfl ?_
     refine po_ 29 78 (w_ 44 1073741823) rfl ?_
     refine po_ 30 79 (w_ 44 2147483647) rfl ?_
     refine po_ 31 80 (w_ 44 4294967295) rfl ?_
     refine po_ 32 81 (w_ 44 8589934591) rfl ?_
     refine po_ 33 82 (w_ 44 17179869183) rfl ?_
     refine po_ 34 83 (w_ 44 34359738367) rfl ?_
     refine po_ 35 84 (w_ 44 68719476735) rfl ?_
     refine po_ 36 85 (w_ 44 137438953471) rfl ?_
     refine po_ 37 86 (w_ 44 274877906943) rfl ?_
     refine po_ 38 87 (w_ 44 549755813887) rfl ?_
     refine po_ 39 88 (w_ 44 1099511627775) rfl ?_
     refine po_ 40 89 (w_ 44 2199023255551) rfl ?_
     refine pv_ 41 90 (w_ 44 4398046511103) rfl ?_
     refine pv_ 42 91 (w_ 44 8796093022207) rfl ?_
     refine pv_ 43 92 (w_ 44 17592186044415) rfl ?_
     refine done_ (by kernel_rfl) ?_
     go_wp2_with (fail)
     (try simp only [Exit.noGoto_ret])
     go_ret
     rw [HZ.out]
     exact ⟨rfl, HS14.out.below.drew⟩
    | false =>
     obtain ⟨z, hz⟩ : ∃ z, z = Int.tmod (q + 1) (r.f1.length : Int) := ⟨_, rfl⟩
     have hq0 : wrap64 (q + 1) = q + 1 := by unfold wrap64; have := HJ2.out; have := HRL.out; omega
     have hzz : Int.tmod (q + 1) (r.f1.length : Int) = z := hz.symm
     have HZR := mk_ (show 0 ≤ z ∧ z < r.f1.length from by rw [hz]; exact ⟨Int.tmod_nonneg _ (by have := HJ2.out; omega), Int.tmod_lt_of_pos _ (by have := HLJ.out; omega)⟩)
     have hz5 : (0 ≤ z) = True := eq_true HZR.out.1
     have hz6 : (z < r.f1.length) = True := eq_true HZR.out.2
     obtain ⟨adx', ex', hv0, hv1, hv2⟩ := at_T51 (Kd.C_below HRC.out.2 HS14.out.below) z HZR.out.1 HZR.out.2
     cases ex'
     obtain ⟨y, hy⟩ : ∃ y, y = (rd_T51 r.f1 z).f1 := ⟨_, rfl⟩
     rw [← hy] at hv1
     have HY := mk_ (show y = (rd_T51 r.f1 (Int.tmod ((m : Int) + 1) (r.f1.length : Int))).f1 by rw [hy, hz, HJ2.out.2.2])
     clear hy hv0 hv2 hz
     cases hne : (x.f2 != y) with
     | true =>
      have HOF := mk_ (show offB r m = true by unfold offB; rw [HX.out]; rw [HCH.out, hfr, ← HY.out, hne, Bool.and_false]; rfl)
      have HZ := mk_ (ringsB_false (T := T) HLT.out (ringB_false (T := T) (by rw [HP.out]; exact HLJ.out) (show moveB H K l1 n m = false by rw [HMB2.out, HOF.out]; rfl)))
      refine start_ (n := 44) (S := fun w' => w'.cell? ⟨gx, 1, none⟩ = some (.int .i64 x.f1) ∧ w'.cell? ⟨gx, 2, none⟩ = some (.int .i64 x.f2) ∧ w'.cell? ⟨gr, 0, none⟩ = some (.bool false) ∧ w'.cell? ⟨gr, 1, none⟩ = some (.slice (some adx) r.f1.length cr) ∧ w'.cell? ⟨(adx.add (z.toNat * 3)).block, (adx.add (z.toNat * 3)).off + 1, none⟩ = some (.int .i64 y)) (ds := []) #[n_, n_, n_, n_, n_, n_, n_, n_, n_, n_, n_, n_, n_, n_, n_, n_, n_, n_, n_, n_, n_, n_, n_, n_, n_, n_, n_, n_, n_, n_, n_, n_, n_, n_, n_, n_, n_, n_, n_, n_, n_, n_, n_, n_] (by kernel_rfl) rfl rfl ⟨hcx1, hcx2, hcr0, hcr1, hv1⟩ (fun hHeld => ?_)
      refine pv_ 0 49 (w_ 44 1) rfl ?_
      refine pv_ 1 50 (w_ 44 3) rfl ?_
      refine pv_ 2 51 (w_ 44 7) rfl ?_
      refine pv_ 3 52 (w_ 44 15) rfl ?_
      refine tb_ 4 53 (w_ 44 31) rfl hHeld (by rintro w' ⟨s0, s1, s2, s3, s4⟩; go_simp; with_reducible rfl) ?_
      refine pv_ 5 54 (w_ 44 63) rfl ?_
      refine pv_ 6 55 (w_ 44 127) rfl ?_
      refine po_ 7 56 (w_ 44 255) rfl ?_
      refine po_ 8 57 (w_ 44 511) rfl ?_
      refine po_ 9 58 (w_ 44 1023) rfl ?_
      refine po_ 10 59 (w_ 44 2047) rfl ?_
      refine po_ 11 60 (w_ 44 4095) rfl ?_
      refine po_ 12 61 (w_ 44 8191) rfl ?_
      refine po_ 13 62 (w_ 44 16383) rfl ?_
      refine po_ 14 63 (w_ 44 32767) rfl ?_
      refine po_ 15 64 (w_ 44 65535) rfl ?_
      refine po_ 16 65 (w_ 44 131071) rfl ?_
      refine pv_ 17 66 (w_ 44 262143) rfl ?_
      refine pv_ 18 67 (w_ 44 524287) rfl ?_
      refine pv_ 19 68 (w_ 44 1048575) rfl ?_
      refine tb_ 20 69 (w_ 44 2097151) rfl hHeld (by rintro w' ⟨s0, s1, s2, s3, s4⟩; go_simp; with_reducible rfl) ?_
      refine pv_ 21 70 (w_ 44 4194303) rfl ?_
      refine pv_ 22 71 (w_ 44 8388607) rfl ?_
      refine pv_ 23 72 (w_ 44 16777215) rfl ?_
      refine tb_ 24 73 (w_ 44 33554431) rfl hHeld (by rintro w' ⟨s0, s1, s2, s3, s4⟩; go_simp; with_reducible rfl) ?_
      refine pv_ 25 74 (w_ 44 67108863) rfl ?_
      refine pv_ 26 75 (w_ 44 134217727) rfl ?_
      refine pv_ 27 76 (w_ 44 268435455) rfl ?_
      refine pv_ 29 78 (w_ 44 805306367) rfl ?_
      refine pv_ 31 80 (w_ 44 2952790015) rfl ?_
      refine pv_ 32 81 (w_ 44 7247757311) rfl ?_
      refine pv_ 33 82 (w_ 44 15837691903) rfl ?_
      refine tb_ 28 77 (w_ 44 16106127359) rfl hHeld (by rintro w' ⟨s0, s1, s2, s3, s4⟩; go_simp; with_reducible rfl) ?_
      refine tb_ 30 79 (w_ 44 17179869183) rfl hHeld (by rintro w' ⟨s0, s1, s2, s3, s4⟩; go_simp; with_reducible rfl) ?_
      refine tb_ 34 83 (w_ 44 34359738367) rfl hHeld (by rintro w' ⟨s0, s1, s2, s3, s4⟩; go_simp; with_reducible rfl) ?_
      refine pv_ 35 84 (w_ 44 68719476735) rfl ?_
      refine pv_ 36 85 (w_ 44 137438953471) rfl ?_
      refine pv_ 37 86 (w_ 44 274877906943) rfl ?_
      refine pv_ 38 87 (w_ 44 549755813887) rfl ?_
      refine tb_ 39 88 (w_ 44 1099511627775) rfl hHeld (by rintro w' ⟨s0, s1, s2, s3, s4⟩; go_simp; with_reducible rfl) ?_
      refine pv_ 40 89 (w_ 44 2199023255551) rfl ?_
      refine pv_ 41 90 (w_ 44 4398046511103) rfl ?_
      refine pv_ 42 91 (w_ 44 8796093022207) rfl ?_
      refine pv_ 43 92 (w_ 44 17592186044415) rfl ?_
      refine done_ (by kernel_rfl) ?_
      go_wp2_with (fail)
      (try simp only [Exit.noGoto_ret])
      go_ret
      rw [HZ.out]
      exact ⟨rfl, HS14.out.below.drew⟩
     | false =>
      have HOF := mk_ (show offB r m = false by unfold offB; rw [HX.out]; rw [HCH.out, hfr, ← HY.out, hne, Bool.and_false]; rfl)
      have HMT := mk_ (show moveB H K l1 n m = true by rw [HMB2.out, HOF.out]; rfl)
      refine start_ (n := 44) (S := fun w' => w'.cell? ⟨gx, 1, none⟩ = some (.int .i64 x.f1) ∧ w'.cell? ⟨gx, 2, none⟩ = some (.int .i64 x.f2) ∧ w'.cell? ⟨gr, 0, none⟩ = some (.bool false) ∧ w'.cell? ⟨gr, 1, none⟩ = some (.slice (some adx) r.f1.length cr) ∧ w'.cell? ⟨(adx.add (z.toNat * 3)).block, (adx.add (z.toNat * 3)).off + 1, none⟩ = some (.int .i64 y)) (ds := []) #[n_, n_, n_, n_, n_, n_, n_, n_, n_, n_, n_, n_, n_, n_, n_, n_, n_, n_, n_, n_, n_, n_, n_, n_, n_, n_, n_, n_, n_, n_, n_, n_, n_, n_, n_, n_, n_, n_, n_, n_, n_, n_, n_, n_] (by kernel_rfl) rfl rfl ⟨hcx1, hcx2, hcr0, hcr1, hv1⟩ (fun hHeld => ?_)
      refine pv_ 0 49 (w_ 44 1) rfl ?_
      refine pv_ 1 50 (w_ 44 3) rfl ?_
      refine pv_ 2 51 (w_ 44 7) rfl ?_
      refine pv_ 3 52 (w_ 44 15) rfl ?_
      refine tb_ 4 53 (w_ 44 31) rfl hHeld (by rintro w' ⟨s0, s1, s2, s3, s4⟩; go_simp; with_reducible rfl) ?_
      refine pv_ 5 54 (w_ 44 63) rfl ?_
      refine pv_ 6 55 (w_ 44 127) rfl ?_
      refine po_ 7 56 (w_ 44 255) rfl ?_
      refine po_ 8 57 (w_ 44 511) rfl ?_
      refine po_ 9 58 (w_ 44 1023) rfl ?_
      refine po_ 10 59 (w_ 44 2047) rfl ?_
      refine po_ 11 60 (w_ 44 4095) rfl ?_
      refine po_ 12 61 (w_ 44 8191) rfl ?_
      refine po_ 13 62 (w_ 44 16383) rfl ?_
      refine po_ 14 63 (w_ 44 32767) rfl ?_
      refine po_ 15 64 (w_ 44 65535) rfl ?_
      refine po_ 16 65 (w_ 44 131071) rfl ?_
      refine pv_ 17 66 (w_ 44 262143) rfl ?_
      refine pv_ 18 67 (w_ 44 524287) rfl ?_
      refine pv_ 19 68 (w_ 44 1048575) rfl ?_
      refine tb_ 20 69 (w_ 44 2097151) rfl hHeld (by rintro w' ⟨s0, s1, s2, s3, s4⟩; go_simp; with_reducible rfl) ?_
      refine pv_ 21 70 (w_ 44 4194303) rfl ?_
      refine pv_ 22 71 (w_ 44 8388607) rfl ?_
      refine pv_ 23 72 (w_ 44 16777215) rfl ?_
      refine tb_ 24 73 (w_ 44 33554431) rfl hHeld (by rintro w' ⟨s0, s1, s2, s3, s4⟩; go_simp; with_reducible rfl) ?_
      refine pv_ 25 74 (w_ 44 67108863) rfl ?_
      refine pv_ 26 75 (w_ 44 134217727) rfl ?_
      refine pv_ 27 76 (w_ 44 268435455) rfl ?_
      refine pv_ 29 78 (w_ 44 805306367) rfl ?_
      refine pv_ 31 80 (w_ 44 2952790015) rfl ?_
      refine pv_ 32 81 (w_ 44 7247757311) rfl ?_
      refine pv_ 33 82 (w_ 44 15837691903) rfl ?_
      refine tb_ 28 77 (w_ 44 16106127359) rfl hHeld (by rintro w' ⟨s0, s1, s2, s3, s4⟩; go_simp; with_reducible rfl) ?_
      refine tb_ 30 79 (w_ 44 17179869183) rfl hHeld (by rintro w' ⟨s0, s1, s2, s3, s4⟩; go_simp; with_reducible rfl) ?_
      refine tb_ 34 83 (w_ 44 34359738367) rfl hHeld (by rintro w' ⟨s0, s1, s2, s3, s4⟩; go_simp; with_reducible rfl) ?_
      refine pv_ 35 84 (w_ 44 68719476735) rfl ?_
      refine pv_ 36 85 (w_ 44 137438953471) rfl ?_
      refine pv_ 37 86 (w_ 44 274877906943) rfl ?_
      refine pv_ 38 87 (w_ 44 549755813887) rfl ?_
      refine tb_ 39 88 (w_ 44 1099511627775) rfl hHeld (by rintro w' ⟨s0, s1, s2, s3, s4⟩; go_simp; with_reducible rfl) ?_
      refine pv_ 40 89 (w_ 44 2199023255551) rfl ?_
      refine pv_ 41 90 (w_ 44 4398046511103) rfl ?_
      refine pv_ 42 91 (w_ 44 8796093022207) rfl ?_
      refine pv_ 43 92 (w_ 44 17592186044415) rfl ?_
      refine done_ (by kernel_rfl) ?_
      go_wp2_with (fail)
      go_roundg (gk - 1)
      case measure => have := HM.out; have := HLJ.out; omega
      case rel =>
       refine ⟨m + 1, ?_, ⟨by have := HM.out; have := HLJ.out; omega⟩, ⟨fun j hj => ?_⟩, BR14, ⟨?_⟩⟩
       ·have := HJ2.out
        first | (rw [show ((m + 1 : Nat) : Int) = q + 1 from by omega]; done) | (simp; omega)
       ·by_cases e : j = m
        rotate_left
        ·exact HQ.out j (by omega)
        rw [e]; exact HMT.out
       ·rw [← HMS2.out]
        exact HS14.out.later (below_drew (Below.refl _ _))
end Go.Proofs.Ytocbiggglnpeoaa.M
end
