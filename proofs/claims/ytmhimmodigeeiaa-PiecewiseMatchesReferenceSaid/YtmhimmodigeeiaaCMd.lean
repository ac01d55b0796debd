/- Part 4 of the base that the seat's proofs share: words, walks and plain laws. -/
import Derived.Test.YtmhimmodigeeiaaCMc
set_option linter.unusedVariables false
set_option linter.unusedSimpArgs false
section
namespace Go.Proofs.Ytmhimmodigeeiaa.P
open Go.RowKit Go.Proofs.YtmhimmodigeeiaaW.PrintWords Go.Proofs.YtmhimmodigeeiaaW.PrintLast Go.Proofs.YtmhimmodigeeiaaW.PrintMore
attribute [local go_sem] max2_int min2_int max_two min_two max_three min_three max_four min_four
set_option linter.unusedVariables false
set_option linter.unusedSimpArgs false
set_option maxHeartbeats 8000000
set_option maxRecDepth 100000
section
open Go.Proofs.YtmhimmodigeeiaaH
def atL (l : LN) (x : Int) : Int := wrap64 (l.n + wrap64 (l.s * wrap64 (x - l.fr)))
abbrev sumL (s : ST) : LN := ⟨wrap64 (wrap64 (atL s.f s.x * s.g.d) + wrap64 (atL s.g s.x * s.f.d)), wrap64 (wrap64 (s.f.s * s.g.d) + wrap64 (s.g.s * s.f.d)), wrap64 (s.f.d * s.g.d), s.x⟩
theorem atL_calls (l : LN) (x : Int) (w : World) : Calls Try.prog 36 #[.agg #[.int .i64 l.n, .int .i64 l.s, .int .i64 l.d, .int .i64 l.fr], .int .i64 x] w fun e w' => e = .returned (.int .i64 (atL l x)) ∧ Below w.heap.size w w' :=
 piecewise_line_at.calls l.n l.s l.d l.fr x _ w rfl
def addF (k : Nat) : BD → List ST → Option BD
 | b, [] => some b
 | b, s :: t => (putO k b (sumL s) s.x).bind fun b' => addF k b' t
def b00 : BD := ⟨⟨0, 0, 0, 0⟩, [], false⟩
theorem addF_append (k : Nat) : ∀ (xs : List ST) (b : BD) (s : ST), addF k b (xs ++ [s]) = (addF k b xs).bind fun b' => putO k b' (sumL s) s.x
 | [], b, s => by
  simp only [List.nil_append, addF, Option.bind_some]
  cases putO k b (sumL s) s.x <;> rfl
 | x :: t, b, s => by
  simp only [List.cons_append, addF]
  cases putO k b (sumL x) x.x with
  | none => rfl
  | some b' => exact addF_append k t b' s
theorem putO_len {k : Nat} {b b' : BD} {l : LN} {x : Int} (h : putO k b l x = some b') : b'.out.length ≤ b.out.length + 1 := by
 unfold putO at h
 obtain ⟨p, _, h⟩ := Option.bind_eq_some_iff.1 h
 split at h
 ·obtain ⟨ok, _, h⟩ := Option.bind_eq_some_iff.1 h
  obtain rfl := Option.some.inj h
  simp
 ·obtain ⟨q, _, h⟩ := Option.bind_eq_some_iff.1 h
  split at h
  ·obtain rfl := Option.some.inj h
   simp
  ·obtain ⟨ok, _, h⟩ := Option.bind_eq_some_iff.1 h
   obtain rfl := Option.some.inj h
   simp
theorem addF_len {k : Nat} : ∀ (xs : List ST) {b b' : BD}, addF k b xs = some b' → b'.out.length ≤ b.out.length + xs.length
 | [], b, b', h => by obtain rfl := Option.some.inj h; simp
 | s :: t, b, b', h => by
  unfold addF at h
  obtain ⟨b1, h1, h2⟩ := Option.bind_eq_some_iff.1 h
  have := putO_len h1
  have := addF_len t h2
  simp only [List.length_cons]
  omega
def calmQS (Q : Exit → Act → World → Prop) : Exit → Act → World → Prop
 | .panic _, _, _ => False
 | .outgrown, _, _ => False
 | e, a, w => Q e a w
theorem wp_calmS {P : Program} {c : Code} {Q : Exit → Act → World → Prop} {a : Act} {w : World} (h : c.wp P (calmQS Q) a w) : c.wp P Q a w := wp_mono h (by
 intro e a w h
 cases e with
 | panic _ => exact h.elim
 | outgrown => exact h.elim
 | _ => exact h)
theorem at_frameS {F : Fence} {n : Nat} {P : Program} {c : Code} {Q : Exit → Act → World → Prop} {T : Array Value} {d : List Deferred} {w : World} (h : ∀ T0, T0 = T → c.wpIn F n P Q { tmps := T0, defers := d } w) : c.wpIn F n P Q { tmps := T, defers := d } w := h T rfl
theorem postM_doneW {F : Fence} {n : Nat} {P : Program} {fn : Func} {R : Ending → World → Prop} {T : Array Value} {v : Value} {D : Nat} {w : World} (hD : w.heap[D]? = some (.deferred (some []))) (h : (results fn T).run P (w.putObj D (.deferred none)) = .ok v (w.putObj D (.deferred none))) (hR : R (.returned v) (w.putObj D (.deferred none))) :
  bodyPostM F n P fn R .ret { tmps := T, defers := [{ target := .collected D, args := #[] }] } w := ⟨by simp, .inl ⟨_, _, rfl, run_takeDeferred hD, v, h, hR⟩⟩
theorem bdAt_below {w w' : World} {n0 g : Nat} {b : BD} {v : Value} (h : BdAt w n0 g b v) (hb : Below w.heap.size w w') : BdAt w' n0 g b v := ⟨blk_below h.1 hb, Kd.R_below h.2 hb⟩
theorem bdAt_objs {w w1 : World} {n0 g : Nat} {b : BD} {v : Value} {row : Option Nat} (h : BdAt w n0 g b v) (hg : w.grownBy w1 row) (hr : ∀ r, row = some r → ∃ o : Obj, w.heap[r]? = some o ∧ o.isCells = false) : BdAt w1 n0 g b v := ⟨blk_objs h.1 hg hr, R_objs h.2 hg hr⟩
def cST (s : ST) : Array Value := #[.int .i64 s.x, .int .i64 s.u, .int .i64 s.f.n, .int .i64 s.f.s, .int .i64 s.f.d, .int .i64 s.f.fr, .int .i64 s.g.n, .int .i64 s.g.s, .int .i64 s.g.d, .int .i64 s.g.fr]
attribute [local go_sem] Oper.semAt_some
set_option maxHeartbeats 16000000 in
theorem add_calls (k : Nat) (D : ST → Prop) (hD : ∀ (b : BD) (xs : List ST) (x : ST), (∀ y, y ∈ xs → D y) → D x → addF k b00 xs = some b → ∃ b', putO k b (sumL x) x.x = some b') (A0 A1 : Option Addr) (c0 c1 : Nat) (f g : List S51) (M : Nat) (hM : StOk f g M) (h64 : M ≤ 1000) (hDs : ∀ s, s ∈ stL f g M → D s) (w : World) (hr0 : Kd.C k51 w A0 f.length f) (hr1 : Kd.C k51 w A1 g.length g) (hc0 : f.length ≤ c0) (hc1 : g.length ≤ c1) (kf kg : Nat) (hv0 : piecewise_Valid.f kf f = some true) (hv1 : piecewise_Valid.f kg g = some true) (b : BD) (hb : addF k b00 (stL f g M) = some b) :
  Calls Try.prog 16 #[.slice A0 f.length c0, .slice A1 g.length c1] w fun e w' => ∃ v0_ : Value, e = .returned (.tuple #[v0_, .int .i64 (resO b).2]) ∧ Kd.R k51 51 w' w.heap.size (fun _ => True) v0_ (resO b).1 ∧ Below w.heap.size w w' := by
 obtain ⟨E, hE⟩ := sub_list (p := D) (stL f g M) hDs
 refine (callsIn_wide (n := 5)).1 ?_
 refine callsIn_of_wp_marks Try.func16 rfl trivial ?_ rfl
 simp only [Try.ntmps16, List.size_toArray, List.length_cons, List.length_nil, Nat.reduceAdd, Nat.reduceSub, Array.replicate_succ, Array.replicate_zero, List.push_toArray, List.append_toArray, List.nil_append, List.cons_append]
 refine wpIn_wide.2 (wp_calmS ?_)
 have hu51 := Try.underlying51
 have hu54 := Try.underlying54
 have hu59 := Try.underlying59
 have hu64 := Try.underlying64
 have HR0 := mk_ hr0
 have HR1 := mk_ hr1
 have HC0 := mk_ hc0
 have HC1 := mk_ hc1
 have HM := mk_ hM
 have H64 := mk_ h64
 have HE := mk_ hE
 have HV0 := mk_ hv0
 have HV1 := mk_ hv1
 have HBF := mk_ hb
 have HD := mk_ hD
 clear hr0 hr1 hc0 hc1 hM h64 hE hv0 hv1 hb hD hDs
 have HB := mk_ (Below.refl w.heap.size w)
 go_wp2_with (first | (go_at_call 14; (with_reducible refine (piecewise_Valid.calls kf A0 c0 f true _ (Kd.C_below HR0.out HB.out) HC0.out HV0.out).mono ?_); rintro e w1 ⟨rfl, hb_⟩; clear HV0; have n0_ := mk_ (below_step HB.out hb_); clear HB hb_; have HB := n0_; clear n0_) | (go_at_call 14; (with_reducible refine (piecewise_Valid.calls kg A1 c1 g true _ (Kd.C_below HR1.out HB.out) HC1.out HV1.out).mono ?_); rintro e w2 ⟨rfl, hb_⟩; have n0_ := mk_ (below_step HB.out hb_); clear HB hb_; have HB := n0_; clear n0_) | ((with_reducible refine gate_dst (N := 6) rfl ?_); refine box_event ?hg (N := 6) ?hd (cs := #[.int .i64 0, .int .i64 0, .int .i64 0, .int .i64 0, .slice none 0 0, .bool false]) (t := 59) ?hr ?_; (case hd => rfl); (case hg => rfl); (case hr => first | (go_simp; done) | (go_simp; rfl)); intro gb hg_G w3 hbox_ hb_; have n0_ := mk_ (below_step HB.out hb_); have BG := mk_ hbox_; have GG := mk_ (show w.heap.size ≤ gb by rw [hg_G]; exact below_size HB.out); have EG := mk_ hg_G; have hcG0 : w3.cell? ⟨gb, 0, none⟩ = some (.int .i64 0) := (blk_cell hbox_ 0).trans rfl; have hfG0 := blk_frozen hbox_ 0; have hcG1 : w3.cell? ⟨gb, 1, none⟩ = some (.int .i64 0) := (blk_cell hbox_ 1).trans rfl; have hfG1 := blk_frozen hbox_ 1; have hcG2 : w3.cell? ⟨gb, 2, none⟩ = some (.int .i64 0) := (blk_cell hbox_ 2).trans rfl; have hfG2 := blk_frozen hbox_ 2; have hcG3 : w3.cell? ⟨gb, 3, none⟩ = some (.int .i64 0) := (blk_cell hbox_ 3).trans rfl; have hfG3 := blk_frozen hbox_ 3; have hcG4 : w3.cell? ⟨gb, 4, none⟩ = some (.slice none 0 0) := (blk_cell hbox_ 4).trans rfl; have hfG4 := blk_frozen hbox_ 4; have hcG5 : w3.cell? ⟨gb, 5, none⟩ = some (.bool false) := (blk_cell hbox_ 5).trans rfl; have hfG5 := blk_frozen hbox_ 5; clear HB hg_G hbox_ hb_; have HB := n0_; clear n0_) | (go_at_call 39; (with_reducible refine (stretches_calls A0 A1 f.length g.length c0 c1 _).mono ?_); rintro e w4 ⟨g1, g2, rfl, hp_, hq_, hg1_, hg2_, hb_⟩; have BP := mk_ hp_; have BQ := mk_ hq_; have G1 := mk_ (Nat.le_trans (below_size HB.out) hg1_); have G2 := mk_ (Nat.le_trans (below_size HB.out) hg2_); have NB := mk_ (show gb ≠ g1 ∧ gb ≠ g2 by have := blk_lt BG.out; omega); clear hp_ hq_ hg1_ hg2_; have n0_ := mk_ (below_step HB.out hb_); have BG := mk_ (blk_below BG.out hb_); clear HB hb_; have HB := n0_; clear n0_))
 have hlt1 := blk_lt BP.out
 have hlt2 := blk_lt BQ.out
 have hle := below_size HB.out
 refine (wpIn_wide (n := 4)).1 ?_
 refine at_frameS (fun T0 hT0 => ?_)
 refine wpIn_rangeFunc_ownH rfl (by omega) (gf := 59) (lb := #[.pointer (some ⟨g1, 0, none⟩), .pointer (some ⟨g2, 0, none⟩)]) (by subst hT0; rfl) trivial (enters_fn Try.func59 (by kernel_rfl) rfl)
  (str_stops Subtype.val E 3 (by omega) g1 g2 w.heap.size A0 A1 c0 c1 f g M HM.out HE.out w4 BP.out BQ.out (fun W' h => Kd.C_below HR0.out (HB.out.trans h)) (fun W' h => Kd.C_below HR1.out (HB.out.trans h)) hle) keep2_t (keep2_b hle hlt1 hlt2) (Below.refl _ _) (fun _ => rfl)
  (fun pre W => (∃ b1 v1, addF k b00 (pre.map Subtype.val) = some b1 ∧ BdAt W w.heap.size gb b1 v1) ∧ W.heap[g1]? = some (.cells #[.slice A0 f.length c0] 22 (0, 0)) ∧ W.heap[g2]? = some (.cells #[.slice A1 g.length c1] 22 (0, 0)) ∧ Below w.heap.size w W)
  (fun _ _ _ => False)
  (fun st A B row hs hg hr => by
   have hr' : ∀ r, row = some r → ∃ o : Obj, A.heap[r]? = some o ∧ o.isCells = false := fun r e => (hr r e).2
   obtain ⟨⟨b1, v1, i1, i2⟩, i4, i5, i8⟩ := hs
   exact ⟨⟨b1, v1, i1, bdAt_objs i2 hg hr'⟩, blk_objs i4 hg hr', blk_objs i5 hg hr', grown_below i8 hg (fun r e => by have := (hr r e).1; omega)⟩)
  (fun _ _ _ _ _ hs _ _ => hs)
  ⟨⟨b00, _, rfl, BG.out, Kd.R_nil _ _ _ _ _⟩, BP.out, BQ.out, HB.out⟩
  (fun x a' W => ∃ gx, a' = { tmps := (T0.setIfInBounds 20 (.agg (cST x.val))).setIfInBounds 7 (.pointer (some ⟨gx, 0, none⟩)), defers := [] } ∧ W.heap[gx]? = some (.cells (cST x.val) 64 (0, 0)))
  (fun x a' s A B row hs hg hr => by
   obtain ⟨gx, e, hb⟩ := hs
   exact ⟨gx, e, blk_objs hb hg (fun r e => (hr r e).2)⟩) ?assign ?body ?done ?stop
 case assign =>
  rintro lr pre ⟨p, hp⟩ W K ⟨⟨b1, v1, i1, i2⟩, i4, i5, i8⟩ hK
  subst hT0
  simp only [sI_, s0_, sS_] at hK
  simp only [encST]
  gi_wp2
  exact hK _ _ ((KeepsOthers.alloc W _).from _) (keep2_below (below_size i8) (blk_lt i4) (blk_lt i5) (below_alloc (Below.refl _ _) _)) ⟨⟨b1, v1, i1, bdAt_below i2 (below_alloc (Below.refl _ _) _)⟩, blk_alloc i4 _, blk_alloc i5 _, below_alloc i8 _⟩ ⟨W.heap.size, rfl, blk_new W _⟩
 case stop =>
  rintro D c pre W _ _ h _
  exact h.elim
 case done =>
  rintro D ys W hD rfl ⟨⟨b1, v1, hb1, hB1⟩, q4, q5, hBW⟩ hDD
  subst hT0
  rw [HE.out, HBF.out] at hb1
  obtain rfl := Option.some.inj hb1
  have HBD := mk_ hB1
  have HBV := mk_ hBW
  have HDV := mk_ hDD
  have HDL := mk_ (show w.heap.size ≤ D from Nat.le_trans hle hD)
  clear hB1 q4 q5 hBW hDD hD hb1
  go_wp2_with (first | (go_at_call 41; (with_reducible refine (result_calls b _ w.heap.size gb v1 HBD.out).mono ?_); rintro e w9 ⟨v9, rfl, hR_, hb_⟩; have HR9 := mk_ hR_; have HBV9 := mk_ hb_; clear hR_ hb_))
  have rD := blk_below HDV.out HBV9.out
  show bodyPostM _ _ _ _ _ .ret _ _
  refine postM_doneW (D := D) rD (results_tmp2 rfl _ _ _) ⟨v9, rfl, ?_, ?_⟩
  ·exact R_objs HR9.out (grownBy_putObj' w9 D _) (fun r e => by cases e; exact ⟨_, rD, rfl⟩)
  ·exact (below_step HBV.out HBV9.out).trans (belowK_b (w := w) (Nat.le_refl _) _ D _ _ HDL.out rD rfl rfl)
 case body =>
  rintro lr pre ⟨p, hp⟩ a' W _ _ ⟨⟨b1, v1, hb1, hB1⟩, q1, q2, hBW⟩ ⟨gx, rfl, hb⟩ hlen
  subst hT0
  simp only [sI_, s0_, sS_]
  obtain ⟨b2, hb2⟩ := HD.out b1 (pre.map Subtype.val) p (fun y hy => by obtain ⟨z, _, rfl⟩ := List.mem_map.1 hy; exact z.property) hp hb1
  have HLN := mk_ (show b1.out.length ≤ 1000000 by have h1 := addF_len _ hb1; rw [List.length_map] at h1; have h3 : b00.out.length = 0 := rfl; have := H64.out; omega)
  have BX := mk_ hb
  have Q1 := mk_ q1
  have Q2 := mk_ q2
  have HBD := mk_ hB1
  have HF := mk_ hb1
  have HP2 := mk_ hb2
  have HBW := mk_ hBW
  have hx0 : W.cell? ⟨gx, 0, none⟩ = some (.int .i64 p.x) := (blk_cell hb 0).trans rfl
  clear hb q1 q2 hB1 hb1 hb2 hBW hlen
  gi_wp2_with (fail)
  refine start_R (m := 43) (S := fun w' => w'.cell? ⟨gx, 0, none⟩ = some (.int .i64 p.x) ∧ w'.cell? ⟨gx, 1, none⟩ = some (.int .i64 p.u) ∧ w'.cell? ⟨gx, 2, none⟩ = some (.int .i64 p.f.n) ∧ w'.cell? ⟨gx, 3, none⟩ = some (.int .i64 p.f.s) ∧ w'.cell? ⟨gx, 4, none⟩ = some (.int .i64 p.f.d) ∧ w'.cell? ⟨gx, 5, none⟩ = some (.int .i64 p.f.fr) ∧ w'.cell? ⟨gx, 6, none⟩ = some (.int .i64 p.g.n) ∧ w'.cell? ⟨gx, 7, none⟩ = some (.int .i64 p.g.s) ∧ w'.cell? ⟨gx, 8, none⟩ = some (.int .i64 p.g.d) ∧ w'.cell? ⟨gx, 9, none⟩ = some (.int .i64 p.g.fr)) (ds := []) (by kernel_rfl) (by rintro ⟨_, _, h⟩; exact h) #[n_, n_, n_, n_, n_, n_, n_, n_, n_, n_, n_, n_, n_, n_, n_, n_, n_, n_, n_, n_, n_, n_, n_, n_, n_, n_, n_, n_, n_, n_, n_, n_, n_, n_, n_, n_, n_, n_, n_, n_, n_, n_, n_] (by kernel_rfl) rfl rfl ⟨(blk_cell (show W.drew.heap[gx]? = _ from BX.out) 0).trans rfl, (blk_cell (show W.drew.heap[gx]? = _ from BX.out) 1).trans rfl, (blk_cell (show W.drew.heap[gx]? = _ from BX.out) 2).trans rfl, (blk_cell (show W.drew.heap[gx]? = _ from BX.out) 3).trans rfl, (blk_cell (show W.drew.heap[gx]? = _ from BX.out) 4).trans rfl, (blk_cell (show W.drew.heap[gx]? = _ from BX.out) 5).trans rfl, (blk_cell (show W.drew.heap[gx]? = _ from BX.out) 6).trans rfl, (blk_cell (show W.drew.heap[gx]? = _ from BX.out) 7).trans rfl, (blk_cell (show W.drew.heap[gx]? = _ from BX.out) 8).trans rfl, (blk_cell (show W.drew.heap[gx]? = _ from BX.out) 9).trans rfl⟩ (fun hHeld => ?_)
  refine pv_ 0 23 (w_ 43 1) rfl ?_
  refine pv_ 2 25 (w_ 43 5) rfl ?_
  refine pv_ 4 27 (w_ 43 21) rfl ?_
  refine pv_ 5 28 (w_ 43 53) rfl ?_
  refine pv_ 8 31 (w_ 43 309) rfl ?_
  refine pv_ 10 33 (w_ 43 1333) rfl ?_
  refine pv_ 12 35 (w_ 43 5429) rfl ?_
  refine pv_ 13 36 (w_ 43 13621) rfl ?_
  refine pv_ 17 40 (w_ 43 144693) rfl ?_
  refine pv_ 18 41 (w_ 43 406837) rfl ?_
  refine pv_ 20 43 (w_ 43 1455413) rfl ?_
  refine pv_ 21 44 (w_ 43 3552565) rfl ?_
  refine pv_ 24 47 (w_ 43 20329781) rfl ?_
  refine pv_ 25 48 (w_ 43 53884213) rfl ?_
  refine pv_ 27 50 (w_ 43 188101941) rfl ?_
  refine pv_ 28 51 (w_ 43 456537397) rfl ?_
  refine pv_ 32 55 (w_ 43 4751504693) rfl ?_
  refine pv_ 33 56 (w_ 43 13341439285) rfl ?_
  refine pv_ 35 58 (w_ 43 47701177653) rfl ?_
  refine pv_ 36 59 (w_ 43 116420654389) rfl ?_
  refine pv_ 39 62 (w_ 43 666176468277) rfl ?_
  refine pv_ 41 64 (w_ 43 2865199723829) rfl ?_
  refine tb_ 1 24 (w_ 43 2865199723831) rfl hHeld (by rintro w' ⟨s0, s1, s2, s3, s4, s5, s6, s7, s8, s9⟩; go_simp; with_reducible rfl) ?_
  refine tb_ 6 29 (w_ 43 2865199723895) rfl hHeld (by rintro w' ⟨s0, s1, s2, s3, s4, s5, s6, s7, s8, s9⟩; go_simp; with_reducible rfl) ?_
  refine tb_ 9 32 (w_ 43 2865199724407) rfl hHeld (by rintro w' ⟨s0, s1, s2, s3, s4, s5, s6, s7, s8, s9⟩; go_simp; with_reducible rfl) ?_
  refine tb_ 14 37 (w_ 43 2865199740791) rfl hHeld (by rintro w' ⟨s0, s1, s2, s3, s4, s5, s6, s7, s8, s9⟩; go_simp; with_reducible rfl) ?_
  refine tb_ 19 42 (w_ 43 2865200265079) rfl hHeld (by rintro w' ⟨s0, s1, s2, s3, s4, s5, s6, s7, s8, s9⟩; go_simp; with_reducible rfl) ?_
  refine tb_ 22 45 (w_ 43 2865204459383) rfl hHeld (by rintro w' ⟨s0, s1, s2, s3, s4, s5, s6, s7, s8, s9⟩; go_simp; with_reducible rfl) ?_
  refine pv_ 23 46 (w_ 43 2865212847991) rfl ?_
  refine tb_ 26 49 (w_ 43 2865279956855) rfl hHeld (by rintro w' ⟨s0, s1, s2, s3, s4, s5, s6, s7, s8, s9⟩; go_simp; with_reducible rfl) ?_
  refine tb_ 29 52 (w_ 43 2865816827767) rfl hHeld (by rintro w' ⟨s0, s1, s2, s3, s4, s5, s6, s7, s8, s9⟩; go_simp; with_reducible rfl) ?_
  refine pv_ 30 53 (w_ 43 2866890569591) rfl ?_
  refine pv_ 31 54 (w_ 43 2869038053239) rfl ?_
  refine tb_ 34 57 (w_ 43 2886217922423) rfl hHeld (by rintro w' ⟨s0, s1, s2, s3, s4, s5, s6, s7, s8, s9⟩; go_simp; with_reducible rfl) ?_
  refine tb_ 37 60 (w_ 43 3023656875895) rfl hHeld (by rintro w' ⟨s0, s1, s2, s3, s4, s5, s6, s7, s8, s9⟩; go_simp; with_reducible rfl) ?_
  refine pv_ 38 61 (w_ 43 3298534782839) rfl ?_
  refine one_ (i := 3) (N := some 26) (w_ 43 3298534782847) rfl rfl (by kernel_rfl) (by decide) (fun K hK => ?_)
  refine goes_ Try.func36 (by kernel_rfl) rfl #[.agg #[.int .i64 p.f.n, .int .i64 p.f.s, .int .i64 p.f.d, .int .i64 p.f.fr], .int .i64 p.x] (by rfl) rfl rfl (by simp only [List.map_toArray, List.map_cons, List.map_nil]; rfl) ?_
  with_reducible refine (atL_calls p.f p.x _).mono ?_
  rintro e wa ⟨rfl, hb_⟩
  refine ⟨_, rfl, ?_⟩
  have BXa := mk_ (blk_below (show W.drew.heap[gx]? = _ from BX.out) hb_)
  have HWa := mk_ (below_step (below_drew (Below.refl W.heap.size W)) hb_)
  clear hb_
  refine hK.out _ _ ⟨(blk_cell (BXa.out) 0).trans rfl, (blk_cell (BXa.out) 1).trans rfl, (blk_cell (BXa.out) 2).trans rfl, (blk_cell (BXa.out) 3).trans rfl, (blk_cell (BXa.out) 4).trans rfl, (blk_cell (BXa.out) 5).trans rfl, (blk_cell (BXa.out) 6).trans rfl, (blk_cell (BXa.out) 7).trans rfl, (blk_cell (BXa.out) 8).trans rfl, (blk_cell (BXa.out) 9).trans rfl⟩ (fun hHeld => ?_)
  clear hK K
  refine norm_ (a' := ?_) ?_ ?_
  rotate_left
  ·show Act.put _ (some 26) _ = _
   simp only [Act.put, sI_, s0_, sS_, i64_w, i32_w]
   rfl
  refine pv_ 7 30 (w_ 43 3298534782975) rfl ?_
  refine one_ (i := 11) (N := some 34) (w_ 43 3298534785023) rfl rfl (by kernel_rfl) (by decide) (fun K hK => ?_)
  refine goes_ Try.func36 (by kernel_rfl) rfl #[.agg #[.int .i64 p.g.n, .int .i64 p.g.s, .int .i64 p.g.d, .int .i64 p.g.fr], .int .i64 p.x] (by rfl) rfl rfl (by simp only [List.map_toArray, List.map_cons, List.map_nil]; rfl) ?_
  with_reducible refine (atL_calls p.g p.x _).mono ?_
  rintro e wb ⟨rfl, hb_⟩
  refine ⟨_, rfl, ?_⟩
  have BXb := mk_ (blk_below BXa.out hb_)
  have HWb := mk_ (below_step HWa.out hb_)
  clear hb_
  refine hK.out _ _ ⟨(blk_cell (BXb.out) 0).trans rfl, (blk_cell (BXb.out) 1).trans rfl, (blk_cell (BXb.out) 2).trans rfl, (blk_cell (BXb.out) 3).trans rfl, (blk_cell (BXb.out) 4).trans rfl, (blk_cell (BXb.out) 5).trans rfl, (blk_cell (BXb.out) 6).trans rfl, (blk_cell (BXb.out) 7).trans rfl, (blk_cell (BXb.out) 8).trans rfl, (blk_cell (BXb.out) 9).trans rfl⟩ (fun hHeld => ?_)
  clear hK K
  refine norm_ (a' := ?_) ?_ ?_
  rotate_left
  ·show Act.put _ (some 34) _ = _
   simp only [Act.put, sI_, s0_, sS_, i64_w, i32_w]
   rfl
  refine pv_ 15 38 (w_ 43 3298534817791) rfl ?_
  refine pv_ 16 39 (w_ 43 3298534883327) rfl ?_
  refine pv_ 40 63 (w_ 43 4398046511103) rfl ?_
  refine one_ (i := 42) (N := some 65) (w_ 43 8796093022207) rfl rfl (by kernel_rfl) (by decide) (fun K hK => ?_)
  refine goes_ Try.func40 (by kernel_rfl) rfl #[.pointer (some ⟨gb, 0, none⟩), .agg #[.int .i64 (wrap64 (wrap64 (atL p.f p.x * p.g.d) + wrap64 (atL p.g p.x * p.f.d))), .int .i64 (wrap64 (wrap64 (p.f.s * p.g.d) + wrap64 (p.g.s * p.f.d))), .int .i64 (wrap64 (p.f.d * p.g.d)), .int .i64 p.x], .int .i64 p.x] (by rfl) rfl rfl (by simp only [List.map_toArray, List.map_cons, List.map_nil]; rfl) ?_
  with_reducible refine (put_calls k b1 b2 (sumL p) p.x _ w.heap.size gb v1 GG.out (bdAt_below HBD.out HWb.out) HLN.out HP2.out).mono ?_
  rintro e w8 ⟨⟨u, rfl⟩, ⟨v2, hB2⟩, hbn, hko, hfr⟩
  refine ⟨_, rfl, ?_⟩
  have BX8 := mk_ ((hfr gx (blk_lt BXb.out) (blk_ne BXb.out (bdAt_below HBD.out HWb.out).1 (by decide)) (Kd.R_ne (bdAt_below HBD.out HWb.out).2 BXb.out (by decide))).trans BXb.out)
  have HB2 := mk_ hB2
  have HBN := mk_ hbn
  have HKO := mk_ hko
  have HFR := mk_ hfr
  clear hB2 hbn hko hfr
  refine hK.out _ _ ⟨(blk_cell (BX8.out) 0).trans rfl, (blk_cell (BX8.out) 1).trans rfl, (blk_cell (BX8.out) 2).trans rfl, (blk_cell (BX8.out) 3).trans rfl, (blk_cell (BX8.out) 4).trans rfl, (blk_cell (BX8.out) 5).trans rfl, (blk_cell (BX8.out) 6).trans rfl, (blk_cell (BX8.out) 7).trans rfl, (blk_cell (BX8.out) 8).trans rfl, (blk_cell (BX8.out) 9).trans rfl⟩ (fun hHeld => ?_)
  clear hK K
  refine norm_ (a' := ?_) ?_ ?_
  rotate_left
  ·show Act.put _ (some 65) _ = _
   simp only [Act.put, sI_, s0_, sS_, i64_w, i32_w]
   rfl
  refine done_ (by kernel_rfl) ?_
  go_wp2_with (fail)
  have hWb := HWb.out
  have hbd := bdAt_below HBD.out hWb
  have n1 : some g1 ≠ v1.ownBlock := Kd.R_ne HBD.out.2 Q1.out (by decide)
  have n2 : some g2 ≠ v1.ownBlock := Kd.R_ne HBD.out.2 Q2.out (by decide)
  have f1 := (HFR.out g1 (Nat.lt_of_lt_of_le (blk_lt Q1.out) hWb.size) NB.out.1.symm n1).trans (hWb.block g1 (blk_lt Q1.out))
  have f2 := (HFR.out g2 (Nat.lt_of_lt_of_le (blk_lt Q2.out) hWb.size) NB.out.2.symm n2).trans (hWb.block g2 (blk_lt Q2.out))
  have kb : Below w.heap.size W w8 := (hWb.mono (below_size HBW.out)).trans HBN.out
  refine ⟨((KeepsOthers.of_grownBy (grown_of_below hWb none) (by simp)).trans HKO.out).from _, ⟨kb, f1, f2⟩, ⟨b2, v2, ?_, HB2.out⟩, f1.trans Q1.out, f2.trans Q2.out, HBW.out.trans kb⟩
  rw [List.map_append, List.map_singleton, addF_append, HF.out]
  exact HP2.out
theorem postM_ret {F : Fence} {n : Nat} {P : Program} {fn : Func} {R : Ending → World → Prop} {T : Array Value} {v : Value} {w : World} (h : (results fn T).run P w = .ok v w) (hR : R (.returned v) w) : bodyPostM F n P fn R .ret { tmps := T, defers := [] } w := ⟨v, h, hR⟩
theorem add_bad0 (A0 A1 : Option Addr) (c0 c1 : Nat) (f g : List S51) (w : World) (hr0 : Kd.C k51 w A0 f.length f) (hc0 : f.length ≤ c0) (kf : Nat) (hv0 : piecewise_Valid.f kf f = some false) :
  Calls Try.prog 16 #[.slice A0 f.length c0, .slice A1 g.length c1] w fun e w' => e = .returned (.tuple #[.slice none 0 0, .int .i64 1]) ∧ Below w.heap.size w w' := by
 refine (callsIn_wide (n := 5)).1 ?_
 refine callsIn_of_wp_marks Try.func16 rfl trivial ?_ rfl
 simp only [Try.ntmps16, List.size_toArray, List.length_cons, List.length_nil, Nat.reduceAdd, Nat.reduceSub, Array.replicate_succ, Array.replicate_zero, List.push_toArray, List.append_toArray, List.nil_append, List.cons_append]
 refine wpIn_wide.2 (wp_calmS ?_)
 have HR0 := mk_ hr0
 have HC0 := mk_ hc0
 have HV0 := mk_ hv0
 clear hr0 hc0 hv0
 have HB := mk_ (Below.refl w.heap.size w)
 go_wp2_with (first | (go_at_call 14; (with_reducible refine (piecewise_Valid.calls kf A0 c0 f false _ (Kd.C_below HR0.out HB.out) HC0.out HV0.out).mono ?_); rintro e w1 ⟨rfl, hb_⟩; clear HV0; have n0_ := mk_ (below_step HB.out hb_); clear HB hb_; have HB := n0_; clear n0_))
 show bodyPostM _ _ _ _ _ .ret _ _
 exact postM_ret (results_tmp2 rfl _ _ _) ⟨rfl, HB.out⟩
theorem add_bad1 (A0 A1 : Option Addr) (c0 c1 : Nat) (f g : List S51) (w : World) (hr0 : Kd.C k51 w A0 f.length f) (hr1 : Kd.C k51 w A1 g.length g) (hc0 : f.length ≤ c0) (hc1 : g.length ≤ c1) (kf kg : Nat) (hv0 : piecewise_Valid.f kf f = some true) (hv1 : piecewise_Valid.f kg g = some false) :
  Calls Try.prog 16 #[.slice A0 f.length c0, .slice A1 g.length c1] w fun e w' => e = .returned (.tuple #[.slice none 0 0, .int .i64 1]) ∧ Below w.heap.size w w' := by
 refine (callsIn_wide (n := 5)).1 ?_
 refine callsIn_of_wp_marks Try.func16 rfl trivial ?_ rfl
 simp only [Try.ntmps16, List.size_toArray, List.length_cons, List.length_nil, Nat.reduceAdd, Nat.reduceSub, Array.replicate_succ, Array.replicate_zero, List.push_toArray, List.append_toArray, List.nil_append, List.cons_append]
 refine wpIn_wide.2 (wp_calmS ?_)
 have HR0 := mk_ hr0
 have HC0 := mk_ hc0
 have HV0 := mk_ hv0
 have HR1 := mk_ hr1
 have HC1 := mk_ hc1
 have HV1 := mk_ hv1
 clear hr0 hc0 hv0 hr1 hc1 hv1
 have HB := mk_ (Below.refl w.heap.size w)
 go_wp2_with (first | (go_at_call 14; (with_reducible refine (piecewise_Valid.calls kf A0 c0 f true _ (Kd.C_below HR0.out HB.out) HC0.out HV0.out).mono ?_); rintro e w1 ⟨rfl, hb_⟩; clear HV0; have n0_ := mk_ (below_step HB.out hb_); clear HB hb_; have HB := n0_; clear n0_) | (go_at_call 14; (with_reducible refine (piecewise_Valid.calls kg A1 c1 g false _ (Kd.C_below HR1.out HB.out) HC1.out HV1.out).mono ?_); rintro e w2 ⟨rfl, hb_⟩; have n0_ := mk_ (below_step HB.out hb_); clear HB hb_; have HB := n0_; clear n0_))
 show bodyPostM _ _ _ _ _ .ret _ _
 exact postM_ret (results_tmp2 rfl _ _ _) ⟨rfl, HB.out⟩
theorem lowest_total (x0 x1 : Int) : ∀ (k : Nat) (x5 x6 : Int), (x5 ≠ 0 ∨ 0 < x6) → x6.toNat < k → ∃ r, piecewise_lowest.l0 k x0 x1 x5 x6 = some r
 | 0, _, _, _, h => absurd h (Nat.not_lt_zero _)
 | k + 1, x5, x6, h, hk => by
  unfold piecewise_lowest.l0
  by_cases h6 : x6 > 0
  ·rw [if_pos h6, if_neg (by omega)]
   refine lowest_total x0 x1 k x6 (Int.tmod x5 x6) (.inl (by omega)) ?_
   have : Int.tmod x5 x6 < x6 := by
    have := Int.tmod_lt_of_pos x5 h6
    omega
   omega
  ·rw [if_neg h6]
   rcases h with h | h
   ·rw [if_neg h]; exact ⟨_, rfl⟩
   ·exact absurd h h6
theorem pieceO_total {k : Nat} {l : LN} (x : Int) (hd : 1 ≤ l.d) (hk : l.d.toNat < k) : ∃ p, pieceO k l x = some p := by
 unfold pieceO piecewise_line_piece.f piecewise_lowest.f piecewise_line_at.f
 obtain ⟨r1, e1⟩ := lowest_total (wrap64 (l.n + wrap64 (l.s * wrap64 (x - l.fr)))) l.d k (mx (wrap64 (l.n + wrap64 (l.s * wrap64 (x - l.fr)))) (wrap64 (-wrap64 (l.n + wrap64 (l.s * wrap64 (x - l.fr)))))) l.d (.inr (by omega)) hk
 obtain ⟨r2, e2⟩ := lowest_total l.s l.d k (mx l.s (wrap64 (-l.s))) l.d (.inr (by omega)) hk
 simp only [Option.bind_some, e1, e2]
 exact ⟨_, rfl⟩
theorem common_total : ∀ (k : Nat) (a b : Int), b.natAbs < k → ∃ r, rational_common.l0 k a b = some r
 | 0, _, _, h => absurd h (Nat.not_lt_zero _)
 | k + 1, a, b, h => by
  unfold rational_common.l0
  by_cases hb : b = 0
  ·rw [if_pos hb]; exact ⟨_, rfl⟩
  ·rw [if_neg hb]
   refine common_total k b (Int.tmod a b) ?_
   have : (Int.tmod a b).natAbs < b.natAbs := by
    rw [Int.natAbs_tmod]
    exact Nat.mod_lt _ (by omega)
   omega
theorem size_total (a : Int) : ∃ r, rational_size.f a = some r := by
 unfold rational_size.f
 split <;> exact ⟨_, rfl⟩
theorem rvalid_total (a b : Int) : ∃ r, rational_Valid.f a b = some r := by
 unfold rational_Valid.f
 obtain ⟨s, hs⟩ := size_total a
 obtain ⟨t, ht⟩ := size_total b
 obtain ⟨c, hc⟩ := common_total (t.natAbs + 1) s t (by omega)
 have hc' : rational_common.f s t = some c := hc
 simp only [hs, ht, hc', Option.bind_some]
 repeat' split
 all_goals exact ⟨_, rfl⟩
theorem numB_total (p : S51) : ∃ b, numB p = some b := by
 unfold numB piecewise_numbers.f
 obtain ⟨s, hs⟩ := rvalid_total p.f1.f0 p.f1.f1
 obtain ⟨t, ht⟩ := rvalid_total p.f2.f0 p.f2.f1
 simp only [hs, ht, Option.bind_some]
 repeat' split
 all_goals exact ⟨_, rfl⟩
theorem putO_total {k : Nat} {b : BD} {l : LN} (x : Int) (hd : 1 ≤ l.d) (hk : l.d.toNat < k) (hb : b.out.length ≠ 0 → 1 ≤ b.last.d ∧ b.last.d.toNat < k) : ∃ b', putO k b l x = some b' := by
 unfold putO
 obtain ⟨p, hp⟩ := pieceO_total x hd hk
 obtain ⟨ok, hok⟩ := numB_total p
 simp only [hp, hok, Option.bind_some]
 by_cases hz : b.out.length = 0
 ·rw [if_pos hz]; exact ⟨_, rfl⟩
 ·rw [if_neg hz]
  obtain ⟨q, hq⟩ := pieceO_total x (hb hz).1 (hb hz).2
  simp only [hq, Option.bind_some]
  split <;> exact ⟨_, rfl⟩
theorem putO_last {k : Nat} {b b' : BD} {l : LN} {x : Int} (h : putO k b l x = some b') : b'.last = l := by
 unfold putO at h
 obtain ⟨p, _, h⟩ := Option.bind_eq_some_iff.1 h
 split at h
 ·obtain ⟨ok, _, h⟩ := Option.bind_eq_some_iff.1 h
  obtain rfl := Option.some.inj h
  rfl
 ·obtain ⟨q, _, h⟩ := Option.bind_eq_some_iff.1 h
  split at h
  ·obtain rfl := Option.some.inj h
   rfl
  ·obtain ⟨ok, _, h⟩ := Option.bind_eq_some_iff.1 h
   obtain rfl := Option.some.inj h
   rfl
theorem addF_last {k : Nat} : ∀ (xs : List ST) {b b' : BD}, addF k b xs = some b' → (xs = [] ∧ b' = b) ∨ ∃ y, y ∈ xs ∧ b'.last = sumL y
 | [], b, b', h => .inl ⟨rfl, (Option.some.inj h).symm⟩
 | s :: t, b, b', h => by
  unfold addF at h
  obtain ⟨b1, h1, h2⟩ := Option.bind_eq_some_iff.1 h
  rcases addF_last t h2 with ⟨rfl, rfl⟩ | ⟨y, hy, e⟩
  ·exact .inr ⟨s, List.mem_cons_self .., putO_last h1⟩
  ·exact .inr ⟨y, List.mem_cons_of_mem _ hy, e⟩
def okST (s : ST) : Bool := decide (1 ≤ s.f.d ∧ s.f.d ≤ 10000 ∧ 1 ≤ s.g.d ∧ s.g.d ≤ 10000)
theorem sumL_d {s : ST} (h : okST s = true) : 1 ≤ (sumL s).d ∧ (sumL s).d ≤ 100000000 := by
 obtain ⟨h1, h2, h3, h4⟩ := of_decide_eq_true h
 have h5 : 1 ≤ s.f.d * s.g.d := by
  have := Int.mul_le_mul h1 h3 (by omega) (by omega)
  omega
 have h6 : s.f.d * s.g.d ≤ 100000000 := by
  have := Int.mul_le_mul h2 h4 (by omega) (by omega)
  omega
 have h7 : wrap64 (s.f.d * s.g.d) = s.f.d * s.g.d := by unfold wrap64; omega
 show 1 ≤ wrap64 (s.f.d * s.g.d) ∧ wrap64 (s.f.d * s.g.d) ≤ 100000000
 rw [h7]
 exact ⟨h5, h6⟩
theorem addD {k : Nat} (hk : 100000000 < k) (b : BD) (xs : List ST) (x : ST) (hxs : ∀ y, y ∈ xs → okST y = true) (hx : okST x = true) (h : addF k b00 xs = some b) : ∃ b', putO k b (sumL x) x.x = some b' := by
 have h1 := sumL_d hx
 refine putO_total x.x h1.1 (by omega) (fun hz => ?_)
 rcases addF_last xs h with ⟨_, rfl⟩ | ⟨y, hy, e⟩
 ·exact absurd rfl hz
 ·rw [e]
  have h2 := sumL_d (hxs y hy)
  exact ⟨h2.1, by omega⟩
def stOkB (f g : List S51) (M : Nat) : Bool := decide (f.length ≤ 1000000 ∧ g.length ≤ 1000000) && (decide (∀ j, j < M + 1 → (stp f g j).1 < f.length ∧ (stp f g j).2.1 < g.length ∧ 0 ≤ (stp f g j).2.2) && (decide (∀ j, j < M → (stp f g j).2.2 ≤ 100000 ∧ (stp f g j).2.2 < (stp f g (j + 1)).2.2) && decide (100000 < (stp f g M).2.2)))
theorem stOkB_at {f g : List S51} {M : Nat} (h : stOkB f g M = true) : StOk f g M := by
 unfold stOkB at h
 simp only [Bool.and_eq_true, decide_eq_true_eq] at h
 obtain ⟨⟨h1, h2⟩, h3, h4, h5⟩ := h
 exact ⟨h1, h2, fun j hj => h3 j (by omega), h4, h5⟩
def stM (f g : List S51) : Option Nat := (List.range 1001).find? (fun M => stOkB f g M)
theorem stM_at {f g : List S51} {M : Nat} (h : stM f g = some M) : StOk f g M ∧ M ≤ 1000 := by
 unfold stM at h
 have h1 := List.find?_some h
 have h2 := List.mem_of_find?_eq_some h
 rw [List.mem_range] at h2
 exact ⟨stOkB_at h1, by omega⟩
def kV : Nat := 5000
def kP : Nat := 100000001
theorem kP_lt : 100000000 < kP := by unfold kP; omega
attribute [irreducible] kV kP
def piecewise_Add.f (l0 l1 : List S51) : Option (List S51 × Int) :=
 (piecewise_Valid.f kV l0).bind fun v0 => if v0 = true then ((piecewise_Valid.f kV l1).bind fun v1 => if v1 = true then ((stM l0 l1).bind fun M => if (stL l0 l1 M).all okST = true then (addF kP b00 (stL l0 l1 M)).bind fun b => some (resO b) else none) else some ([], 1)) else some ([], 1)
theorem piecewise_Add.calls (A0 : Option Addr) (c0 : Nat) (l0 : List (S51)) (A1 : Option Addr) (c1 : Nat) (l1 : List (S51)) (r1 : List (S51)) (r2 : Int) (w : World) (hr0 : Kd.C k51 w A0 l0.length l0) (hc0 : l0.length ≤ c0) (hr1 : Kd.C k51 w A1 l1.length l1) (hc1 : l1.length ≤ c1) (h : piecewise_Add.f l0 l1 = some (r1, r2)) :
  Calls Try.prog 16 #[.slice A0 l0.length c0, .slice A1 l1.length c1] w fun e w' => ∃ v0_ : Value, e = .returned (.tuple #[v0_, .int .i64 r2]) ∧ Kd.R k51 51 w' w.heap.size (fun _ => True) v0_ r1 ∧ Below w.heap.size w w' := by
 unfold piecewise_Add.f at h
 obtain ⟨v0, hv0, h⟩ := Option.bind_eq_some_iff.1 h
 cases v0 with
 | false =>
  rw [if_neg (by decide)] at h
  simp only [Option.some.injEq, Prod.mk.injEq] at h
  obtain ⟨rfl, rfl⟩ := h
  exact (add_bad0 A0 A1 c0 c1 l0 l1 w hr0 hc0 kV hv0).mono (fun e w' h => ⟨_, h.1, Kd.R_nil _ _ _ _ _, h.2⟩)
 | true =>
  rw [if_pos rfl] at h
  obtain ⟨v1, hv1, h⟩ := Option.bind_eq_some_iff.1 h
  cases v1 with
  | false =>
   rw [if_neg (by decide)] at h
   simp only [Option.some.injEq, Prod.mk.injEq] at h
   obtain ⟨rfl, rfl⟩ := h
   exact (add_bad1 A0 A1 c0 c1 l0 l1 w hr0 hr1 hc0 hc1 kV kV hv0 hv1).mono (fun e w' h => ⟨_, h.1, Kd.R_nil _ _ _ _ _, h.2⟩)
  | true =>
   rw [if_pos rfl] at h
   obtain ⟨M, hM, h⟩ := Option.bind_eq_some_iff.1 h
   by_cases hall : (stL l0 l1 M).all okST = true
   case neg => rw [if_neg hall] at h; cases h
   rw [if_pos hall] at h
   obtain ⟨b, hb, h⟩ := Option.bind_eq_some_iff.1 h
   obtain ⟨hS, hM1⟩ := stM_at hM
   have h' := Option.some.inj h
   have e1 : (resO b).1 = r1 := congrArg Prod.fst h'
   have e2 : (resO b).2 = r2 := congrArg Prod.snd h'
   subst e1
   subst e2
   exact add_calls kP (fun s => okST s = true) (addD kP_lt) A0 A1 c0 c1 l0 l1 M hS hM1 (List.all_eq_true.1 hall) w hr0 hr1 hc0 hc1 kV kV hv0 hv1 b hb
end
section
theorem eqA51 (d : Nat) (w : World) (x0 y0 : Int) (x1 y1 : Int) (x2 y2 : Int) (x3 y3 : Int) (x4 y4 : Int) :
  (Op.equalIn (d + 3) 51 (.agg #[.int .i64 x0, .int .i64 x1, .int .i64 x2, .int .i64 x3, .int .i64 x4]) (.agg #[.int .i64 y0, .int .i64 y1, .int .i64 y2, .int .i64 y3, .int .i64 y4])).run Try.prog w = .ok (x0 == y0 && ((x1 == y1 && (x2 == y2)) && ((x3 == y3 && (x4 == y4))))) w := by
 refine eqA_of Try.underlying51 (by kernel_rfl) ?_
 refine eqf_cons (by rfl) (by go_simp; rfl) (by go_simp; rfl) (by go_simp) ?_
 refine eqf_cons (by rfl) (by go_simp) (by go_simp) (eqA24 (d + 0) w _ _ _ _) ?_
 exact eqf_last (by rfl) (by go_simp) (by go_simp) (eqA24 (d + 0) w _ _ _ _)
end
section
attribute [local go_sem high] eqA51
def cohousingref05_Same.l0 : Nat → List (S51) → List (S51) → Int → Option (Bool)
 | 0, _, _, _ => none
 | k + 1, x0, x1, x5 => if x5 < (x0.length : Int) then (if 0 ≤ x5 then (if x5 < (x1.length : Int) then (if (!(((rd_T51 x0 x5).f0) == ((rd_T51 x1 x5).f0)) || ((!(((rd_T51 x0 x5).f1.f0) == ((rd_T51 x1 x5).f1.f0)) || (!(((rd_T51 x0 x5).f1.f1) == ((rd_T51 x1 x5).f1.f1)))) || ((!(((rd_T51 x0 x5).f2.f0) == ((rd_T51 x1 x5).f2.f0)) || (!(((rd_T51 x0 x5).f2.f1) == ((rd_T51 x1 x5).f2.f1))))))) = true then (some false) else (cohousingref05_Same.l0 k x0 x1 (wrap64 (x5 + 1)))) else (none)) else (none)) else (some true)
def cohousingref05_Same.f (k : Nat) (l0 : List (S51)) (l1 : List (S51)) : Option (Bool) := if (l0.length : Int) = (l1.length : Int) then (cohousingref05_Same.l0 k l0 l1 0) else (some false)
theorem cohousingref05_Same.mono_l : ∀ k, (∀ y0 y1 y2, LeO (cohousingref05_Same.l0 k y0 y1 y2) (cohousingref05_Same.l0 (k + 1) y0 y1 y2))
 | 0 => fun _ _ _ r h => by simp [cohousingref05_Same.l0] at h
 | k + 1 => by
  have ih0 := cohousingref05_Same.mono_l k
  ·intro y0 y1 y2
   unfold cohousingref05_Same.l0
   repeat' first
   | (with_reducible exact ih0 _ _ _)
   | (with_reducible exact LeO.refl _)
   | (with_reducible exact LeO.none _)
   | (with_reducible refine LeO.ite ?_ ?_)
   | (with_reducible refine LeO.bind ?_ (fun _ => ?_))
   | exact ih0 _ _ _
   | exact LeO.none _
   | refine LeO.ite ?_ ?_
   | refine LeO.bind ?_ (fun _ => ?_)
theorem cohousingref05_Same.mono : ∀ a0 a1 k, LeO (cohousingref05_Same.f k a0 a1) (cohousingref05_Same.f (k + 1) a0 a1) := by
 intro a0 a1 k
 have ih0 := cohousingref05_Same.mono_l k
 unfold cohousingref05_Same.f
 repeat' first
   | (with_reducible exact ih0 _ _ _)
   | (with_reducible exact LeO.refl _)
   | (with_reducible exact LeO.none _)
   | (with_reducible refine LeO.ite ?_ ?_)
   | (with_reducible refine LeO.bind ?_ (fun _ => ?_))
   | exact ih0 _ _ _
   | exact LeO.none _
   | refine LeO.ite ?_ ?_
   | refine LeO.bind ?_ (fun _ => ?_)
theorem cohousingref05_Same.calls (k : Nat) (A0 : Option Addr) (c0 : Nat) (l0 : List (S51)) (A1 : Option Addr) (c1 : Nat) (l1 : List (S51)) (r : Bool) (w : World) (hr0 : Kd.C k51 w A0 l0.length l0) (hc0 : l0.length ≤ c0) (hr1 : Kd.C k51 w A1 l1.length l1) (hc1 : l1.length ≤ c1) (h : cohousingref05_Same.f k l0 l1 = some r) :
  Calls Try.prog 18 #[.slice A0 l0.length c0, .slice A1 l1.length c1] w fun e w' => e = .returned (.bool r) ∧ Drawn0 w w' := by
 have hu51 := Try.underlying51
 have HR0 := mk_ hr0
 have HC0 := mk_ hc0
 clear hr0 hc0
 have HR1 := mk_ hr1
 have HC1 := mk_ hc1
 clear hr1 hc1
 have H : (if (l0.length : Int) = (l1.length : Int) then (cohousingref05_Same.l0 k l0 l1 0) else (some false)) = some r := h
 clear h
 by_cases c3 : (l0.length : Int) = (l1.length : Int)
 rotate_left
 ·rw [if_neg c3] at H
  have c3b0 : ((l0.length : Int) == (l1.length : Int)) = false := beq_eq_false_iff_ne.mpr c3
  have c3b1 : ((l0.length : Int) != (l1.length : Int)) = true := bne_iff_ne.mpr c3
  have c3b2 : (l0.length == l1.length) = false := by first | simpa using c3 | (simp at c3 ⊢; omega)
  obtain rfl := Option.some.inj H
  go_enter Try.func18, Try.ntmps18
  go_wp2
  repeat (go_quiet (fail); try go_wp2)
  go_ret
  exact ⟨by first | rfl | (simp; done) | (simp [*]; done), by repeat (first | exact Drawn0.refl _ | apply Drawn0.step)⟩
 rw [if_pos c3] at H
 have c3b0 : ((l0.length : Int) == (l1.length : Int)) = true := beq_iff_eq.mpr c3
 have c3b1 : ((l0.length : Int) != (l1.length : Int)) = false := bne_eq_false_iff_eq.mpr c3
 have c3b2 : (l0.length == l1.length) = true := by first | simpa using c3 | (simp at c3 ⊢; omega)
 clear c3
 have H' := mk_ H
 clear H
 go_enter Try.func18, Try.ntmps18
 go_wp2
 repeat (go_quiet (fail); try go_wp2)
 go_loopg [5] k (fun kq v5 w' => ∃ (x5_1 : Int), v5 = .int .i64 x5_1 ∧ Aside0 (cohousingref05_Same.l0 kq l0 l1 x5_1 = some r) ∧ Aside0 (kq ≤ k) ∧ Drawn0 w w')
 case atStart => exact ⟨(0), sd_, H', ⟨Nat.le_refl _⟩, by repeat (first | exact Drawn0.refl _ | apply Drawn0.step)⟩
 case round =>
  clear H'
  obtain ⟨x5_1, rfl, HA, HK1, ⟨m1, rfl⟩⟩ := hrel
  cases gk with
  | zero => exact absurd HA.out (by simp [cohousingref05_Same.l0])
  | succ k1 =>
   have H := HA.out
   clear HA
   simp only [cohousingref05_Same.l0] at H
   by_cases c4 : x5_1 < (l0.length : Int)
   rotate_left
   ·rw [if_neg c4] at H
    have c4b0 : decide (x5_1 < (l0.length : Int)) = false := decide_eq_false c4
    clear c4
    obtain rfl := Option.some.inj H
    go_wp2
    repeat (go_quiet (fail); try go_wp2)
    go_ret
    exact ⟨by first | rfl | (simp; done) | (simp [*]; done), by repeat (first | exact Drawn0.refl _ | apply Drawn0.step)⟩
   rw [if_pos c4] at H
   have c4b0 : decide (x5_1 < (l0.length : Int)) = true := decide_eq_true c4
   clear c4
   by_cases c5 : 0 ≤ x5_1
   rotate_left
   ·rw [if_neg c5] at H
    exact absurd H (by simp)
   rw [if_pos c5] at H
   have c5b0 : decide (0 ≤ x5_1) = true := decide_eq_true c5
   clear c5
   by_cases c6 : x5_1 < (l1.length : Int)
   rotate_left
   ·rw [if_neg c6] at H
    exact absurd H (by simp)
   rw [if_pos c6] at H
   have c6b0 : decide (x5_1 < (l1.length : Int)) = true := decide_eq_true c6
   clear c6
   by_cases c7 : (!(((rd_T51 l0 x5_1).f0) == ((rd_T51 l1 x5_1).f0)) || ((!(((rd_T51 l0 x5_1).f1.f0) == ((rd_T51 l1 x5_1).f1.f0)) || (!(((rd_T51 l0 x5_1).f1.f1) == ((rd_T51 l1 x5_1).f1.f1)))) || ((!(((rd_T51 l0 x5_1).f2.f0) == ((rd_T51 l1 x5_1).f2.f0)) || (!(((rd_T51 l0 x5_1).f2.f1) == ((rd_T51 l1 x5_1).f2.f1))))))) = true
   ·rw [if_pos c7] at H
    have c7b0 : (!(((rd_T51 l0 x5_1).f0) == ((rd_T51 l1 x5_1).f0)) || ((!(((rd_T51 l0 x5_1).f1.f0) == ((rd_T51 l1 x5_1).f1.f0)) || (!(((rd_T51 l0 x5_1).f1.f1) == ((rd_T51 l1 x5_1).f1.f1)))) || ((!(((rd_T51 l0 x5_1).f2.f0) == ((rd_T51 l1 x5_1).f2.f0)) || (!(((rd_T51 l0 x5_1).f2.f1) == ((rd_T51 l1 x5_1).f2.f1))))))) = true := c7
    clear c7
    obtain rfl := Option.some.inj H
    have p138 : 0 ≤ (x5_1 : Int) := od_
    have q138 : x5_1 < (l0.length : Int) := od_
    obtain ⟨ad138, e138, hx138_0, hx138_1, hx138_2, hx138_3, hx138_4⟩ := at_T51 HR0.out x5_1 p138 q138
    cases e138
    replace p138 := eq_true p138
    replace q138 := eq_true q138
    have p139 : 0 ≤ (x5_1 : Int) := od_
    have q139 : x5_1 < (l1.length : Int) := od_
    obtain ⟨ad139, e139, hx139_0, hx139_1, hx139_2, hx139_3, hx139_4⟩ := at_T51 HR1.out x5_1 p139 q139
    cases e139
    replace p139 := eq_true p139
    replace q139 := eq_true q139
    go_wp2
    repeat (go_quiet (fail); try go_wp2)
    go_ret
    exact ⟨by first | rfl | (simp; done) | (simp [*]; done), by repeat (first | exact Drawn0.refl _ | apply Drawn0.step)⟩
   rw [if_neg c7] at H
   have c7b0 : (!(((rd_T51 l0 x5_1).f0) == ((rd_T51 l1 x5_1).f0)) || ((!(((rd_T51 l0 x5_1).f1.f0) == ((rd_T51 l1 x5_1).f1.f0)) || (!(((rd_T51 l0 x5_1).f1.f1) == ((rd_T51 l1 x5_1).f1.f1)))) || ((!(((rd_T51 l0 x5_1).f2.f0) == ((rd_T51 l1 x5_1).f2.f0)) || (!(((rd_T51 l0 x5_1).f2.f1) == ((rd_T51 l1 x5_1).f2.f1))))))) = false := by simpa using c7
   clear c7
   have H' := mk_ H
   clear H
   have p138 : 0 ≤ (x5_1 : Int) := od_
   have q138 : x5_1 < (l0.length : Int) := od_
   obtain ⟨ad138, e138, hx138_0, hx138_1, hx138_2, hx138_3, hx138_4⟩ := at_T51 HR0.out x5_1 p138 q138
   cases e138
   replace p138 := eq_true p138
   replace q138 := eq_true q138
   have p139 : 0 ≤ (x5_1 : Int) := od_
   have q139 : x5_1 < (l1.length : Int) := od_
   obtain ⟨ad139, e139, hx139_0, hx139_1, hx139_2, hx139_3, hx139_4⟩ := at_T51 HR1.out x5_1 p139 q139
   cases e139
   replace p139 := eq_true p139
   replace q139 := eq_true q139
   go_wp2
   repeat (go_quiet (fail); try go_wp2)
   go_roundg k1
   case measure => have := HK1.out; omega
   case rel => exact ⟨(wrap64 (x5_1 + 1)), sd_, H', ⟨by have := HK1.out; omega⟩, by repeat (first | exact Drawn0.refl _ | apply Drawn0.step)⟩
end
section
attribute [local go_sem high] eqA51
mutual
def piecewise_Scale.j0 : Nat → List (S51) → Bool → Int → Int → Option ((List (S51)) × Int)
 | 0, _, _, _, _ => none
 | k + 1, x0, x17, x141000, x141001 => if x17 = true then (some (([] : List (S51)), 1)) else (piecewise_Scale.l0 k x0 ([] : List (S51)) x0 (x0.length : Int) 0 x141000 x141001)
def piecewise_Scale.l0 : Nat → List (S51) → List (S51) → List (S51) → Int → Int → Int → Int → Option ((List (S51)) × Int)
 | 0, _, _, _, _, _, _, _ => none
 | k + 1, x0, x6, x18, x19, x20, x141000, x141001 => if x20 < x19 then (if 0 ≤ x20 then (if x20 < (x18.length : Int) then (if x20 > 0 then (if x141000 = 0 then (piecewise_Scale.j2 k x0 x6 x18 x19 x20 true x141000 x141001 ((rd_T51 x18 x20).f0) ((rd_T51 x18 x20).f1.f0) ((rd_T51 x18 x20).f1.f1) ((rd_T51 x18 x20).f2.f0) ((rd_T51 x18 x20).f2.f1)) else (if 0 ≤ (wrap64 (x20 - 1)) then (if (wrap64 (x20 - 1)) < (x0.length : Int) then ((piecewise_lineOf.f ((rd_T51 x0 (wrap64 (x20 - 1))).f0) ((rd_T51 x0 (wrap64 (x20 - 1))).f1.f0) ((rd_T51 x0 (wrap64 (x20 - 1))).f1.f1) ((rd_T51 x0 (wrap64 (x20 - 1))).f2.f0) ((rd_T51 x0 (wrap64 (x20 - 1))).f2.f1)).bind fun bt146 => ((piecewise_line_piece.f k bt146.1 bt146.2.1 bt146.2.2.1 bt146.2.2.2 ((rd_T51 x18 x20).f0)).bind fun bt150 => (piecewise_Scale.j2 k x0 x6 x18 x19 x20 (((rd_T51 x18 x20).f0) == bt150.1 && ((((rd_T51 x18 x20).f1.f0) == bt150.2.1 && (((rd_T51 x18 x20).f1.f1) == bt150.2.2.1)) && ((((rd_T51 x18 x20).f2.f0) == bt150.2.2.2.1 && (((rd_T51 x18 x20).f2.f1) == bt150.2.2.2.2))))) x141000 x141001 ((rd_T51 x18 x20).f0) ((rd_T51 x18 x20).f1.f0) ((rd_T51 x18 x20).f1.f1) ((rd_T51 x18 x20).f2.f0) ((rd_T51 x18 x20).f2.f1)))) else (none)) else (none))) else (piecewise_Scale.j2 k x0 x6 x18 x19 x20 false x141000 x141001 ((rd_T51 x18 x20).f0) ((rd_T51 x18 x20).f1.f0) ((rd_T51 x18 x20).f1.f1) ((rd_T51 x18 x20).f2.f0) ((rd_T51 x18 x20).f2.f1))) else (none)) else (none)) else (some (x6, 0))
def piecewise_Scale.j2 : Nat → List (S51) → List (S51) → List (S51) → Int → Int → Bool → Int → Int → Int → Int → Int → Int → Int → Option ((List (S51)) × Int)
 | 0, _, _, _, _, _, _, _, _, _, _, _, _, _ => none
 | k + 1, x0, x6, x18, x19, x20, x44, x141000, x141001, x145000, x145001, x145002, x145003, x145004 => if x44 = true then (piecewise_Scale.l0 k x0 x6 x18 x19 (wrap64 (x20 + 1)) x141000 x141001) else ((piecewise_lowest.f k (wrap64 (x145001 * x141000)) (wrap64 (x145002 * x141001))).bind fun bt155 => ((piecewise_lowest.f k (wrap64 (x145003 * x141000)) (wrap64 (x145004 * x141001))).bind fun bt157 => ((piecewise_numbers.f x145000 bt155.1 bt155.2 bt157.1 bt157.2).bind fun t160 => (if t160 = true then (if x6.length < 3518437208883 then (piecewise_Scale.l0 k x0 (x6 ++ [(⟨x145000, (⟨bt155.1, bt155.2⟩ : S24), (⟨bt157.1, bt157.2⟩ : S24)⟩ : S51)]) x18 x19 (wrap64 (x20 + 1)) x141000 x141001) else (none)) else (some (([] : List (S51)), 3))))))
end
def piecewise_Scale.f (k : Nat) (l0 : List (S51)) (a1_0 : Int) (a1_1 : Int) : Option ((List (S51)) × Int) := (piecewise_Valid.f k l0).bind fun t141 => (if t141 = true then ((rational_Valid.f a1_0 a1_1).bind fun t142 => (piecewise_Scale.j0 k l0 (!t142) a1_0 a1_1)) else (piecewise_Scale.j0 k l0 true a1_0 a1_1))
theorem piecewise_Scale.mono_l : ∀ k, (∀ y0 y1 y2 y3, LeO (piecewise_Scale.j0 k y0 y1 y2 y3) (piecewise_Scale.j0 (k + 1) y0 y1 y2 y3)) ∧ (∀ y0 y1 y2 y3 y4 y5 y6, LeO (piecewise_Scale.l0 k y0 y1 y2 y3 y4 y5 y6) (piecewise_Scale.l0 (k + 1) y0 y1 y2 y3 y4 y5 y6)) ∧ (∀ y0 y1 y2 y3 y4 y5 y6 y7 y8 y9 y10 y11 y12, LeO (piecewise_Scale.j2 k y0 y1 y2 y3 y4 y5 y6 y7 y8 y9 y10 y11 y12) (piecewise_Scale.j2 (k + 1) y0 y1 y2 y3 y4 y5 y6 y7 y8 y9 y10 y11 y12))
 | 0 => ⟨fun _ _ _ _ r h => by simp [piecewise_Scale.j0] at h, fun _ _ _ _ _ _ _ r h => by simp [piecewise_Scale.l0] at h, fun _ _ _ _ _ _ _ _ _ _ _ _ _ r h => by simp [piecewise_Scale.j2] at h⟩
 | k + 1 => by
  obtain ⟨ih0, ih1, ih2⟩ := piecewise_Scale.mono_l k
  refine ⟨?_, ?_, ?_⟩
  ·intro y0 y1 y2 y3
   unfold piecewise_Scale.j0
   repeat' first
   | (with_reducible exact ih0 _ _ _ _)
   | (with_reducible exact ih1 _ _ _ _ _ _ _)
   | (with_reducible exact ih2 _ _ _ _ _ _ _ _ _ _ _ _ _)
   | (with_reducible exact piecewise_Valid.mono _ _)
   | (with_reducible exact piecewise_line_piece.mono _ _ _ _ _ _)
   | (with_reducible exact piecewise_lowest.mono _ _ _)
   | (with_reducible exact LeO.refl _)
   | (with_reducible exact LeO.none _)
   | (with_reducible refine LeO.ite ?_ ?_)
   | (with_reducible refine LeO.bind ?_ (fun _ => ?_))
   | exact ih0 _ _ _ _
   | exact ih1 _ _ _ _ _ _ _
   | exact ih2 _ _ _ _ _ _ _ _ _ _ _ _ _
   | exact piecewise_Valid.mono _ _
   | exact piecewise_line_piece.mono _ _ _ _ _ _
   | exact piecewise_lowest.mono _ _ _
   | exact LeO.none _
   | refine LeO.ite ?_ ?_
   | refine LeO.bind ?_ (fun _ => ?_)
  ·intro y0 y1 y2 y3 y4 y5 y6
   unfold piecewise_Scale.l0
   repeat' first
   | (with_reducible exact ih0 _ _ _ _)
   | (with_reducible exact ih1 _ _ _ _ _ _ _)
   | (with_reducible exact ih2 _ _ _ _ _ _ _ _ _ _ _ _ _)
   | (with_reducible exact piecewise_Valid.mono _ _)
   | (with_reducible exact piecewise_line_piece.mono _ _ _ _ _ _)
   | (with_reducible exact piecewise_lowest.mono _ _ _)
   | (with_reducible exact LeO.refl _)
   | (with_reducible exact LeO.none _)
   | (with_reducible refine LeO.ite ?_ ?_)
   | (with_reducible refine LeO.bind ?_ (fun _ => ?_))
   | exact ih0 _ _ _ _
   | exact ih1 _ _ _ _ _ _ _
   | exact ih2 _ _ _ _ _ _ _ _ _ _ _ _ _
   | exact piecewise_Valid.mono _ _
   | exact piecewise_line_piece.mono _ _ _ _ _ _
   | exact piecewise_lowest.mono _ _ _
   | exact LeO.none _
   | refine LeO.ite ?_ ?_
   | refine LeO.bind ?_ (fun _ => ?_)
  ·intro y0 y1 y2 y3 y4 y5 y6 y7 y8 y9 y10 y11 y12
   unfold piecewise_Scale.j2
   repeat' first
   | (with_reducible exact ih0 _ _ _ _)
   | (with_reducible exact ih1 _ _ _ _ _ _ _)
   | (with_reducible exact ih2 _ _ _ _ _ _ _ _ _ _ _ _ _)
   | (with_reducible exact piecewise_Valid.mono _ _)
   | (with_reducible exact piecewise_line_piece.mono _ _ _ _ _ _)
   | (with_reducible exact piecewise_lowest.mono _ _ _)
   | (with_reducible exact LeO.refl _)
   | (with_reducible exact LeO.none _)
   | (with_reducible refine LeO.ite ?_ ?_)
   | (with_reducible refine LeO.bind ?_ (fun _ => ?_))
   | exact ih0 _ _ _ _
   | exact ih1 _ _ _ _ _ _ _
   | exact ih2 _ _ _ _ _ _ _ _ _ _ _ _ _
   | exact piecewise_Valid.mono _ _
   | exact piecewise_line_piece.mono _ _ _ _ _ _
   | exact piecewise_lowest.mono _ _ _
   | exact LeO.none _
   | refine LeO.ite ?_ ?_
   | refine LeO.bind ?_ (fun _ => ?_)
theorem piecewise_Scale.mono : ∀ a0 a1 a2 k, LeO (piecewise_Scale.f k a0 a1 a2) (piecewise_Scale.f (k + 1) a0 a1 a2) := by
 intro a0 a1 a2 k
 obtain ⟨ih0, ih1, ih2⟩ := piecewise_Scale.mono_l k
 unfold piecewise_Scale.f
 repeat' first
   | (with_reducible exact ih0 _ _ _ _)
   | (with_reducible exact ih1 _ _ _ _ _ _ _)
   | (with_reducible exact ih2 _ _ _ _ _ _ _ _ _ _ _ _ _)
   | (with_reducible exact piecewise_Valid.mono _ _)
   | (with_reducible exact piecewise_line_piece.mono _ _ _ _ _ _)
   | (with_reducible exact piecewise_lowest.mono _ _ _)
   | (with_reducible exact LeO.refl _)
   | (with_reducible exact LeO.none _)
   | (with_reducible refine LeO.ite ?_ ?_)
   | (with_reducible refine LeO.bind ?_ (fun _ => ?_))
   | exact ih0 _ _ _ _
   | exact ih1 _ _ _ _ _ _ _
   | exact ih2 _ _ _ _ _ _ _ _ _ _ _ _ _
   | exact piecewise_Valid.mono _ _
   | exact piecewise_line_piece.mono _ _ _ _ _ _
   | exact piecewise_lowest.mono _ _ _
   | exact LeO.none _
   | refine LeO.ite ?_ ?_
   | refine LeO.bind ?_ (fun _ => ?_)
def piecewise_Scale.T7 : Bool × List (List Nat × List Nat) := (true, [([], []), ([0], [0]), ([1], [1]), ([2], [2]), ([3, 2], [2, 3]), ([4, 2], [2, 4]), ([5, 2, 2], [2, 5]), ([6], [6]), ([6], [6]), ([6], [6]), ([9, 6], [6, 9]), ([8, 10, 6], [6, 8, 10]), ([11, 6], [6, 11]), ([12, 6, 6], [6, 12]), ([6], [6]), ([14, 6], [6, 14]), ([13, 15, 13, 6], [6, 13, 15]), ([7, 16, 6], [6, 7, 16]), ([6, 17, 2], [2, 6, 17]), ([2, 18], [2, 18])])
def piecewise_Scale.B7 : List Nat := [0, 1, 3, 7, 15, 31, 63, 127, 127, 127, 639, 1919, 3967, 8063, 127, 16511, 65407, 131071, 262143, 524287]
theorem piecewise_Scale.tab7 : rtab .any (opsOf Try.f19 7) = piecewise_Scale.T7 := by kernel_rfl
theorem piecewise_Scale.bits7 : waitsOk piecewise_Scale.T7.2 piecewise_Scale.B7 = true := by kernel_rfl
def piecewise_Scale.T8 : Bool × List (List Nat × List Nat) := (true, [([], []), ([0], [0]), ([], []), ([2], [2]), ([3], [3]), ([], []), ([5], [5]), ([4, 6], [4, 6]), ([], []), ([8], [8]), ([9], [9]), ([], []), ([11], [11]), ([10, 12], [10, 12]), ([7, 13], [7, 13]), ([], []), ([15], [15]), ([16], [16]), ([], []), ([18], [18]), ([17, 19], [17, 19]), ([], []), ([21], [21]), ([22], [22]), ([], []), ([24], [24]), ([23, 25], [23, 25]), ([20, 26, 14], [20, 26]), ([1, 14, 27], [1, 14, 27]), ([], []), ([29, 28, 27, 0, 1, 2, 3, 4, 5, 6, 7, 8, 9, 10, 11, 12, 13, 14, 15, 16, 17, 18, 19, 20, 21, 22, 23, 24, 25, 26, 27, 28, 29], [28, 29])])
def piecewise_Scale.B8 : List Nat := [0, 1, 0, 4, 12, 0, 32, 124, 0, 256, 768, 0, 2048, 7936, 16380, 0, 32768, 98304, 0, 262144, 1015808, 0, 2097152, 6291456, 0, 16777216, 65011712, 134217724, 268435455, 0, 1073741823]
theorem piecewise_Scale.tab8 : rtab .any (opsOf Try.f19 8) = piecewise_Scale.T8 := by kernel_rfl
theorem piecewise_Scale.bits8 : waitsOk piecewise_Scale.T8.2 piecewise_Scale.B8 = true := by kernel_rfl
theorem piecewise_Scale.calls (k : Nat) (A0 : Option Addr) (c0 : Nat) (l0 : List (S51)) (a1_0 : Int) (a1_1 : Int) (r1 : List (S51)) (r2 : Int) (w : World) (hr0 : Kd.C k51 w A0 l0.length l0) (hc0 : l0.length ≤ c0) (h : piecewise_Scale.f k l0 a1_0 a1_1 = some (r1, r2)) :
  Calls Try.prog 19 #[.slice A0 l0.length c0, .agg #[.int .i64 a1_0, .int .i64 a1_1]] w fun e w' => ∃ v0_ : Value, e = .returned (.tuple #[v0_, .int .i64 r2]) ∧ Kd.R k51 51 w' w.heap.size (fun _ => True) v0_ r1 ∧ Below w.heap.size w w' := by
 have hu24 := Try.underlying24
 have hu51 := Try.underlying51
 have HR0 := mk_ hr0
 have HC0 := mk_ hc0
 clear hr0 hc0
 have HB := mk_ (Below.refl w.heap.size w)
 have H : ((piecewise_Valid.f k l0).bind fun t141 => (if t141 = true then ((rational_Valid.f a1_0 a1_1).bind fun t142 => (piecewise_Scale.j0 k l0 (!t142) a1_0 a1_1)) else (piecewise_Scale.j0 k l0 true a1_0 a1_1))) = some (r1, r2) := h
 clear h
 have HC3 := mk_ H
 clear H
 go_enter Try.func19, Try.ntmps19
 go_upto_region 1 with (first | ((with_reducible refine gate_dst (N := 3) rfl ?_); refine box_event ?hg (N := 3) ?hd (cs := #[.int .i64 a1_0, .int .i64 a1_1]) (t := 24) ?hr ?_; (case hd => rfl); (case hg => rfl); (case hr => first | (go_simp; done) | (go_simp; rfl)); intro gb140 hg w4 hbox hb; have BK140 := mk_ (hbox); have GW140 := mk_ (bz_ hg (bb_ HB)); have GE140 := mk_ (bz_ hg (bb_ HB)); replace HB := mk_ (below_step (bb_ HB) hb); clear hb hbox hg))
 (try simp only [Act.put, sI_, s0_, sS_])
 go_cut [17] (fun v17 wc => ∃ (kq : Nat) (x17_2 : Bool), v17 = .bool x17_2 ∧ Aside0 (piecewise_Scale.j0 kq l0 x17_2 a1_0 a1_1 = some (r1, r2)) ∧ Aside0 (kq ≤ k) ∧ Aside0 (wc.heap[gb140]? = some (.cells #[.int .i64 a1_0, .int .i64 a1_1] 24 (0, 0))) ∧ Aside0 (Below w.heap.size w wc))
 case first =>
  have H := HC3.out
  clear HC3
  replace H := Option.bind_eq_some_iff.mp H
  obtain ⟨t141, A50, H⟩ := H
  replace H : (if t141 = true then ((rational_Valid.f a1_0 a1_1).bind fun t142 => (piecewise_Scale.j0 k l0 (!t142) a1_0 a1_1)) else (piecewise_Scale.j0 k l0 true a1_0 a1_1)) = some (r1, r2) := H
  have A5 := mk_ A50
  clear A50
  by_cases c6 : t141 = true
  rotate_left
  ·replace c6 := Bool.eq_false_iff.mpr c6
   subst c6
   have H1 : (piecewise_Scale.j0 k l0 true a1_0 a1_1) = some (r1, r2) := by rw [if_neg (show ¬ (false = true) by decide)] at H; exact H
   clear H
   have H := H1
   clear H1
   have H' := mk_ H
   clear H
   go_wp2_with (first | ((with_reducible refine gate_callee (f := 14) rfl ?_); refine gl_ (some 11) Try.func14 #[.slice A0 l0.length c0] ?_; (with_reducible refine (piecewise_Valid.calls k _ _ l0 false _ ?side1 ?side2 A5.out).mono ?_); (case side1 => exact cc_ ((Kd.C_below HR0.out HB.out))); (case side2 => exact HC0.out); rintro e w11 ⟨rfl, hb⟩; refine ⟨_, rfl, ?_⟩; replace BK140 := mk_ (blk_below (kk_ BK140) hb); replace HB := mk_ (below_step (bs_ HB GE140.out) hb); (try clear hb)))
   go_meet
   case rel => exact ⟨_, (true), sd_, H', ⟨by first | omega | exact Nat.le_refl _⟩, ⟨kk_ BK140⟩, ⟨bs1_ HB GE140⟩⟩
  subst c6
  have H1 : ((rational_Valid.f a1_0 a1_1).bind fun t142 => (piecewise_Scale.j0 k l0 (!t142) a1_0 a1_1)) = some (r1, r2) := by rw [if_pos rfl] at H; exact H
  clear H
  have H := H1
  clear H1
  replace H := Option.bind_eq_some_iff.mp H
  obtain ⟨t142, A70, H⟩ := H
  replace H : (piecewise_Scale.j0 k l0 (!t142) a1_0 a1_1) = some (r1, r2) := H
  have A7 := mk_ A70
  clear A70
  have H' := mk_ H
  clear H
  go_wp2_with (first | ((with_reducible refine gate_callee (f := 14) rfl ?_); refine gl_ (some 11) Try.func14 #[.slice A0 l0.length c0] ?_; (with_reducible refine (piecewise_Valid.calls k _ _ l0 true _ ?side1 ?side2 A5.out).mono ?_); (case side1 => exact cc_ ((Kd.C_below HR0.out HB.out))); (case side2 => exact HC0.out); rintro e w8 ⟨rfl, hb⟩; refine ⟨_, rfl, ?_⟩; replace BK140 := mk_ (blk_below (kk_ BK140) hb); replace HB := mk_ (below_step (bs_ HB GE140.out) hb); (try clear hb); have hcz9_0 := bc0_ BK140.out; have hcz9_1 := bc1_ BK140.out; have hfz9_0 := blk_frozen BK140.out 0; have hfz9_1 := blk_frozen BK140.out 1) | (go_at_call 37; (with_reducible refine (rational_Valid.calls a1_0 a1_1 t142 _ A7.out).mono ?_); rintro e w10 ⟨rfl, hb⟩; replace BK140 := mk_ (blk_below (kk_ BK140) hb); replace HB := mk_ (below_step (bs_ HB GE140.out) hb); (try clear hb)))
  go_meet
  case rel => exact ⟨_, (!t142), sd_, H', ⟨by first | omega | exact Nat.le_refl _⟩, ⟨kk_ BK140⟩, ⟨bs1_ HB GE140⟩⟩
 case rest =>
  clear HC3
  obtain ⟨kq, x17_2, rfl, HA, HJ2, BK140, HB⟩ := hcut
  cases kq with
  | zero => exact absurd HA.out (by simp [piecewise_Scale.j0])
  | succ kj2 =>
   have H := HA.out
   clear HA
   simp only [piecewise_Scale.j0] at H
   by_cases c12 : x17_2 = true
   ·subst c12
    have H1 : (some (([] : List (S51)), 1)) = some (r1, r2) := by rw [if_pos rfl] at H; exact H
    clear H
    have H := H1
    clear H1
    simp only [Option.some.injEq, Prod.mk.injEq] at H
    obtain ⟨rfl, rfl⟩ := H
    go_wp2
    go_ret2
    exact ⟨_, ew_, by first | exact Kd.R_nil _ _ _ _ _ | exact Kd.N_nil _ _ _ _ _ | exact Kd.V_nil _ _ _ _ _ | exact Kd.Q_nil _ _ _ _ _ | exact Kd.S_nil _ _ _ _ _, bs1_ HB GE140⟩
   replace c12 := Bool.eq_false_iff.mpr c12
   subst c12
   have H1 : (piecewise_Scale.l0 kj2 l0 ([] : List (S51)) l0 (l0.length : Int) 0 a1_0 a1_1) = some (r1, r2) := by rw [if_neg (show ¬ (false = true) by decide)] at H; exact H
   clear H
   have H := H1
   clear H1
   have H' := mk_ H
   clear H
   go_wp2
   go_loopg [6, 20] kj2 (fun kq v6 v20 w' => ∃ (x6_2 : List (S51)) (x20_2 : Int), v20 = .int .i64 x20_2 ∧ Aside0 (piecewise_Scale.l0 kq l0 x6_2 l0 (l0.length : Int) x20_2 a1_0 a1_1 = some (r1, r2)) ∧ Aside0 (kq ≤ kj2) ∧ Aside0 (Kd.R k51 51 w' w.heap.size (fun _ => True) v6 x6_2) ∧ Aside0 (w'.heap[gb140]? = some (.cells #[.int .i64 a1_0, .int .i64 a1_1] 24 (0, 0))) ∧ Aside0 (Below w.heap.size w w'))
   case atStart => exact ⟨(([] : List (S51))), (0), sd_, H', ⟨Nat.le_refl _⟩, ⟨by first | exact Kd.R_nil _ _ _ _ _ | exact Kd.N_nil _ _ _ _ _ | exact Kd.V_nil _ _ _ _ _ | exact Kd.Q_nil _ _ _ _ _ | exact Kd.S_nil _ _ _ _ _⟩, ⟨kk_ BK140⟩, ⟨bs1_ HB GE140⟩⟩
   case round =>
    clear H'
    obtain ⟨x6_2, x20_2, rfl, HA, HK2, HO_6, BK140, HB⟩ := hrel
    cases gk with
    | zero => exact absurd HA.out (by simp [piecewise_Scale.l0])
    | succ k2 =>
     have H := HA.out
     clear HA
     simp only [piecewise_Scale.l0] at H
     by_cases c13 : x20_2 < (l0.length : Int)
     rotate_left
     ·rw [if_neg c13] at H
      have c13b0 : decide (x20_2 < (l0.length : Int)) = false := decide_eq_false c13
      clear c13
      simp only [Option.some.injEq, Prod.mk.injEq] at H
      obtain ⟨rfl, rfl⟩ := H
      go_wp2
      go_ret2
      exact ⟨_, ew_, rr_ HO_6, bs1_ HB GE140⟩
     rw [if_pos c13] at H
     have c13b0 : decide (x20_2 < (l0.length : Int)) = true := decide_eq_true c13
     clear c13
     by_cases c14 : 0 ≤ x20_2
     rotate_left
     ·rw [if_neg c14] at H
      exact absurd H (by simp)
     rw [if_pos c14] at H
     have c14b0 : decide (0 ≤ x20_2) = true := decide_eq_true c14
     clear c14
     by_cases c15 : x20_2 < (l0.length : Int)
     rotate_left
     ·rw [if_neg c15] at H
      exact absurd H (by simp)
     rw [if_pos c15] at H
     have c15b0 : decide (x20_2 < (l0.length : Int)) = true := decide_eq_true c15
     clear c15
     have HC16 := mk_ H
     clear H
     have p143 : 0 ≤ (x20_2 : Int) := od_
     have q143 : x20_2 < (l0.length : Int) := od_
     obtain ⟨ad143, e143, hx143_0, hx143_1, hx143_2, hx143_3, hx143_4⟩ := at_T51 HR0.out x20_2 p143 q143
     cases e143
     replace hx143_0 := cb_ HB hx143_0
     replace hx143_1 := cb_ HB hx143_1
     replace hx143_2 := cb_ HB hx143_2
     replace hx143_3 := cb_ HB hx143_3
     replace hx143_4 := cb_ HB hx143_4
     replace p143 := eq_true p143
     replace q143 := eq_true q143
     go_upto_region 7 with (first | ((with_reducible refine gate_dst (N := 8) rfl ?_); refine box_event ?hg (N := 8) ?hd (cs := #[.int .i64 0, .int .i64 0, .int .i64 0, .int .i64 0, .int .i64 0]) (t := 51) ?hr ?_; (case hd => rfl); (case hg => rfl); (case hr => first | (go_simp; done) | (go_simp; rfl)); intro gb144 hg w17 hbox hb; replace HO_6 := mk_ (Kd.R_below (Kd.R_elderB (rr_ HO_6) gb144 (Nat.le_of_eq hg.symm)) hb); have BK144 := mk_ (hbox); have GW144 := mk_ (bz_ hg (bs_ HB GE140.out)); have GE144 := mk_ (bz_ hg (bs_ HB GE140.out)); replace HB := mk_ (below_step (bs_ HB GE140.out) hb); have NB140_144 := mk_ (bl_ hg (kk_ BK140)); have NB144_140 := mk_ (bg_ hg (kk_ BK140)); replace BK140 := mk_ (blk_below (kk_ BK140) hb); clear hb hbox hg; have hnb18 := NB144_140.out; have hnc18 := NB140_144.out; have hcz19_0 := bc0_ BK144.out; have hcz19_1 := bc1_ BK144.out; have hcz19_2 := bc2_ BK144.out; have hcz19_3 : w17.cell? ⟨gb144, 3, none⟩ = some (.int .i64 0) := (blk_cell BK144.out 3).trans rfl; have hcz19_4 : w17.cell? ⟨gb144, 4, none⟩ = some (.int .i64 0) := (blk_cell BK144.out 4).trans rfl; have hfz19_0 := blk_frozen BK144.out 0; have hfz19_1 := blk_frozen BK144.out 1; have hfz19_2 := blk_frozen BK144.out 2; have hfz19_3 := blk_frozen BK144.out 3; have hfz19_4 := blk_frozen BK144.out 4))
     (try simp only [Act.put, sI_, s0_, sS_])
     go_cut [44] (fun v44 wc => ∃ (kq : Nat) (x44_15 : Bool), v44 = .bool x44_15 ∧ Aside0 (piecewise_Scale.j2 kq l0 x6_2 l0 (l0.length : Int) x20_2 x44_15 a1_0 a1_1 ((rd_T51 l0 x20_2).f0) ((rd_T51 l0 x20_2).f1.f0) ((rd_T51 l0 x20_2).f1.f1) ((rd_T51 l0 x20_2).f2.f0) ((rd_T51 l0 x20_2).f2.f1) = some (r1, r2)) ∧ Aside0 (kq ≤ k2) ∧ Aside0 (Kd.R k51 51 wc w.heap.size (fun k_ => k_ ≠ gb144) u6 x6_2) ∧ Aside0 (wc.heap[gb140]? = some (.cells #[.int .i64 a1_0, .int .i64 a1_1] 24 (0, 0))) ∧ Aside0 (wc.heap[gb144]? = some (.cells #[.int .i64 ((rd_T51 l0 x20_2).f0), .int .i64 ((rd_T51 l0 x20_2).f1.f0), .int .i64 ((rd_T51 l0 x20_2).f1.f1), .int .i64 ((rd_T51 l0 x20_2).f2.f0), .int .i64 ((rd_T51 l0 x20_2).f2.f1)] 51 (0, 0))) ∧ Aside0 (Below w.heap.size w wc))
     case first =>
      have H := HC16.out
      clear HC16
      by_cases c20 : x20_2 > 0
      rotate_left
      ·rw [if_neg c20] at H
       have c20b0 : decide (0 < x20_2) = false := decide_eq_false c20
       clear c20
       (first | rw [c20b0] | (simp only [i64_w, i32_w]; rw [c20b0]) | skip)
       have H' := mk_ H
       clear H
       try go_wp2
       have n0_ : Aside0 (Kd.R k51 51 (((((w17.setCell ⟨gb144, 0, none⟩ (.int .i64 ((rd_T51 l0 x20_2).f0))).setCell ⟨gb144, 1, none⟩ (.int .i64 ((rd_T51 l0 x20_2).f1.f0))).setCell ⟨gb144, 2, none⟩ (.int .i64 ((rd_T51 l0 x20_2).f1.f1))).setCell ⟨gb144, 3, none⟩ (.int .i64 ((rd_T51 l0 x20_2).f2.f0))).setCell ⟨gb144, 4, none⟩ (.int .i64 ((rd_T51 l0 x20_2).f2.f1))) w.heap.size (fun k_ => k_ ≠ gb144) u6 x6_2) := ⟨by (with_reducible repeat (first | apply Kd.R_alloc | apply Kd.R_drewN | apply Kd.R_drew)); exact Kd.R_mono (Kd.R_far (p := ⟨gb144, 4, none⟩) (Kd.R_far (p := ⟨gb144, 3, none⟩) (Kd.R_far (p := ⟨gb144, 2, none⟩) (Kd.R_far (p := ⟨gb144, 1, none⟩) (Kd.R_far (p := ⟨gb144, 0, none⟩) (Kd.R_mono HO_6.out (fun k_ hk => (⟨hk, hk.2⟩ : _ ∧ k_ ≠ gb144))) (fun _ hk => hk.2) (.int .i64 ((rd_T51 l0 x20_2).f0))) (fun _ hk => hk.2) (.int .i64 ((rd_T51 l0 x20_2).f1.f0))) (fun _ hk => hk.2) (.int .i64 ((rd_T51 l0 x20_2).f1.f1))) (fun _ hk => hk.2) (.int .i64 ((rd_T51 l0 x20_2).f2.f0))) (fun _ hk => hk.2) (.int .i64 ((rd_T51 l0 x20_2).f2.f1))) (fun _ hk => hk.1.2)⟩
       have n1_ : Aside0 ((((((w17.setCell ⟨gb144, 0, none⟩ (.int .i64 ((rd_T51 l0 x20_2).f0))).setCell ⟨gb144, 1, none⟩ (.int .i64 ((rd_T51 l0 x20_2).f1.f0))).setCell ⟨gb144, 2, none⟩ (.int .i64 ((rd_T51 l0 x20_2).f1.f1))).setCell ⟨gb144, 3, none⟩ (.int .i64 ((rd_T51 l0 x20_2).f2.f0))).setCell ⟨gb144, 4, none⟩ (.int .i64 ((rd_T51 l0 x20_2).f2.f1))).heap[gb140]? = some (.cells #[.int .i64 a1_0, .int .i64 a1_1] 24 (0, 0))) := ⟨by (with_reducible repeat (first | refine blk_drewN ?_ _ | refine blk_drew ?_ | refine blk_alloc ?_ _)); refine blk_far ?_ NB140_144.out _; (with_reducible repeat (first | refine blk_drewN ?_ _ | refine blk_drew ?_ | refine blk_alloc ?_ _)); refine blk_far ?_ NB140_144.out _; (with_reducible repeat (first | refine blk_drewN ?_ _ | refine blk_drew ?_ | refine blk_alloc ?_ _)); refine blk_far ?_ NB140_144.out _; (with_reducible repeat (first | refine blk_drewN ?_ _ | refine blk_drew ?_ | refine blk_alloc ?_ _)); refine blk_far ?_ NB140_144.out _; (with_reducible repeat (first | refine blk_drewN ?_ _ | refine blk_drew ?_ | refine blk_alloc ?_ _)); refine blk_far ?_ NB140_144.out _; (with_reducible repeat (first | refine blk_drewN ?_ _ | refine blk_drew ?_ | refine blk_alloc ?_ _)); exact BK140.out⟩
       have n2_ : Aside0 ((((((w17.setCell ⟨gb144, 0, none⟩ (.int .i64 ((rd_T51 l0 x20_2).f0))).setCell ⟨gb144, 1, none⟩ (.int .i64 ((rd_T51 l0 x20_2).f1.f0))).setCell ⟨gb144, 2, none⟩ (.int .i64 ((rd_T51 l0 x20_2).f1.f1))).setCell ⟨gb144, 3, none⟩ (.int .i64 ((rd_T51 l0 x20_2).f2.f0))).setCell ⟨gb144, 4, none⟩ (.int .i64 ((rd_T51 l0 x20_2).f2.f1))).heap[gb144]? = some (.cells #[.int .i64 ((rd_T51 l0 x20_2).f0), .int .i64 ((rd_T51 l0 x20_2).f1.f0), .int .i64 ((rd_T51 l0 x20_2).f1.f1), .int .i64 ((rd_T51 l0 x20_2).f2.f0), .int .i64 ((rd_T51 l0 x20_2).f2.f1)] 51 (0, 0))) := ⟨by (with_reducible repeat (first | refine blk_drewN ?_ _ | refine blk_drew ?_ | refine blk_alloc ?_ _)); refine blk_put (cs := #[.int .i64 ((rd_T51 l0 x20_2).f0), .int .i64 ((rd_T51 l0 x20_2).f1.f0), .int .i64 ((rd_T51 l0 x20_2).f1.f1), .int .i64 ((rd_T51 l0 x20_2).f2.f0), .int .i64 0]) ?_ 4 _ rfl; (with_reducible repeat (first | refine blk_drewN ?_ _ | refine blk_drew ?_ | refine blk_alloc ?_ _)); refine blk_put (cs := #[.int .i64 ((rd_T51 l0 x20_2).f0), .int .i64 ((rd_T51 l0 x20_2).f1.f0), .int .i64 ((rd_T51 l0 x20_2).f1.f1), .int .i64 0, .int .i64 0]) ?_ 3 _ rfl; (with_reducible repeat (first | refine blk_drewN ?_ _ | refine blk_drew ?_ | refine blk_alloc ?_ _)); refine blk_put (cs := #[.int .i64 ((rd_T51 l0 x20_2).f0), .int .i64 ((rd_T51 l0 x20_2).f1.f0), .int .i64 0, .int .i64 0, .int .i64 0]) ?_ 2 _ rfl; (with_reducible repeat (first | refine blk_drewN ?_ _ | refine blk_drew ?_ | refine blk_alloc ?_ _)); refine blk_put (cs := #[.int .i64 ((rd_T51 l0 x20_2).f0), .int .i64 0, .int .i64 0, .int .i64 0, .int .i64 0]) ?_ 1 _ rfl; (with_reducible repeat (first | refine blk_drewN ?_ _ | refine blk_drew ?_ | refine blk_alloc ?_ _)); refine blk_put (cs := #[.int .i64 0, .int .i64 0, .int .i64 0, .int .i64 0, .int .i64 0]) ?_ 0 _ rfl; (with_reducible repeat (first | refine blk_drewN ?_ _ | refine blk_drew ?_ | refine blk_alloc ?_ _)); exact BK144.out⟩
       have n3_ : Aside0 (Below w.heap.size w (((((w17.setCell ⟨gb144, 0, none⟩ (.int .i64 ((rd_T51 l0 x20_2).f0))).setCell ⟨gb144, 1, none⟩ (.int .i64 ((rd_T51 l0 x20_2).f1.f0))).setCell ⟨gb144, 2, none⟩ (.int .i64 ((rd_T51 l0 x20_2).f1.f1))).setCell ⟨gb144, 3, none⟩ (.int .i64 ((rd_T51 l0 x20_2).f2.f0))).setCell ⟨gb144, 4, none⟩ (.int .i64 ((rd_T51 l0 x20_2).f2.f1)))) := ⟨bs2_ HB GE140 GE144⟩
       (try clear HO_6)
       (try clear BK140)
       (try clear BK144)
       (try clear HB)
       generalize (((((w17.setCell ⟨gb144, 0, none⟩ (.int .i64 ((rd_T51 l0 x20_2).f0))).setCell ⟨gb144, 1, none⟩ (.int .i64 ((rd_T51 l0 x20_2).f1.f0))).setCell ⟨gb144, 2, none⟩ (.int .i64 ((rd_T51 l0 x20_2).f1.f1))).setCell ⟨gb144, 3, none⟩ (.int .i64 ((rd_T51 l0 x20_2).f2.f0))).setCell ⟨gb144, 4, none⟩ (.int .i64 ((rd_T51 l0 x20_2).f2.f1))) = w33 at n0_ n1_ n2_ n3_ ⊢
       have HO_6 := n0_
       have BK140 := n1_
       have BK144 := n2_
       have HB := n3_
       clear n0_ n1_ n2_ n3_
       replace HO_6 := mk_ (Kd.R_drew HO_6.out)
       replace BK140 := mk_ (blk_drew BK140.out)
       replace BK144 := mk_ (blk_drew BK144.out)
       replace HB := mk_ (below_drew1 HB.out)
       refine start_ (n := 20) (S := fun w' => True) (ds := []) #[n_, n_, n_, n_, n_, n_, n_, n_, n_, n_, n_, n_, n_, n_, n_, n_, n_, n_, n_, n_] (by kernel_rfl) rfl rfl trivial (fun hHeld => ?_); refine with_tabW piecewise_Scale.tab7 piecewise_Scale.bits7 (fun HT_ HW_ => ?_)
       generalize w33.drew = w34 at HO_6 BK140 BK144 HB hHeld ⊢
       refine pu_ 0 25 (w_ 20 1) rfl HT_ ?_
       refine pu_ 1 26 (w_ 20 3) rfl HT_ ?_
       refine pu_ 2 27 (w_ 20 7) rfl HT_ ?_
       refine pn_ 3 28 (w_ 20 15) rfl HT_ ?_
       refine pn_ 4 29 (w_ 20 31) rfl HT_ ?_
       refine pn_ 5 30 (w_ 20 63) rfl HT_ ?_
       refine pn_ 6 31 (w_ 20 127) rfl HT_ ?_
       refine pn_ 7 32 (w_ 20 255) rfl HT_ ?_
       refine pn_ 8 33 (w_ 20 511) rfl HT_ ?_
       refine pn_ 9 34 (w_ 20 1023) rfl HT_ ?_
       refine pn_ 10 35 (w_ 20 2047) rfl HT_ ?_
       refine pn_ 11 36 (w_ 20 4095) rfl HT_ ?_
       refine pn_ 12 37 (w_ 20 8191) rfl HT_ ?_
       refine pn_ 13 38 (w_ 20 16383) rfl HT_ ?_
       refine pn_ 14 39 (w_ 20 32767) rfl HT_ ?_
       refine pn_ 15 40 (w_ 20 65535) rfl HT_ ?_
       refine pn_ 16 41 (w_ 20 131071) rfl HT_ ?_
       refine pn_ 17 42 (w_ 20 262143) rfl HT_ ?_
       refine pn_ 18 43 (w_ 20 524287) rfl HT_ ?_
       refine pu_ 19 44 (w_ 20 1048575) rfl HT_ ?_
       refine done_ (done_of HT_.out (by kernel_rfl)) ?_
       try go_wp2
       go_meet
       case rel => exact ⟨_, (false), sd_, H', ⟨by have := HJ2.out; have := HK2.out; first | omega | exact Nat.le_refl _⟩, ⟨rr_ HO_6⟩, ⟨kk_ BK140⟩, ⟨kk_ BK144⟩, ⟨bs2_ HB GE140 GE144⟩⟩
      rw [if_pos c20] at H
      have c20b0 : decide (0 < x20_2) = true := decide_eq_true c20
      clear c20
      (first | rw [c20b0] | (simp only [i64_w, i32_w]; rw [c20b0]) | skip)
      by_cases c21 : a1_0 = 0
      ·rw [if_pos c21] at H
       have c21b0 : (a1_0 == 0) = true := beq_iff_eq.mpr c21
       have c21b1 : (a1_0 != 0) = false := bne_eq_false_iff_eq.mpr c21
       clear c21
       have H' := mk_ H
       clear H
       try go_wp2
       have n0_ : Aside0 (Kd.R k51 51 (((((w17.setCell ⟨gb144, 0, none⟩ (.int .i64 ((rd_T51 l0 x20_2).f0))).setCell ⟨gb144, 1, none⟩ (.int .i64 ((rd_T51 l0 x20_2).f1.f0))).setCell ⟨gb144, 2, none⟩ (.int .i64 ((rd_T51 l0 x20_2).f1.f1))).setCell ⟨gb144, 3, none⟩ (.int .i64 ((rd_T51 l0 x20_2).f2.f0))).setCell ⟨gb144, 4, none⟩ (.int .i64 ((rd_T51 l0 x20_2).f2.f1))) w.heap.size (fun k_ => k_ ≠ gb144) u6 x6_2) := ⟨by (with_reducible repeat (first | apply Kd.R_alloc | apply Kd.R_drewN | apply Kd.R_drew)); exact Kd.R_mono (Kd.R_far (p := ⟨gb144, 4, none⟩) (Kd.R_far (p := ⟨gb144, 3, none⟩) (Kd.R_far (p := ⟨gb144, 2, none⟩) (Kd.R_far (p := ⟨gb144, 1, none⟩) (Kd.R_far (p := ⟨gb144, 0, none⟩) (Kd.R_mono HO_6.out (fun k_ hk => (⟨hk, hk.2⟩ : _ ∧ k_ ≠ gb144))) (fun _ hk => hk.2) (.int .i64 ((rd_T51 l0 x20_2).f0))) (fun _ hk => hk.2) (.int .i64 ((rd_T51 l0 x20_2).f1.f0))) (fun _ hk => hk.2) (.int .i64 ((rd_T51 l0 x20_2).f1.f1))) (fun _ hk => hk.2) (.int .i64 ((rd_T51 l0 x20_2).f2.f0))) (fun _ hk => hk.2) (.int .i64 ((rd_T51 l0 x20_2).f2.f1))) (fun _ hk => hk.1.2)⟩
       have n1_ : Aside0 ((((((w17.setCell ⟨gb144, 0, none⟩ (.int .i64 ((rd_T51 l0 x20_2).f0))).setCell ⟨gb144, 1, none⟩ (.int .i64 ((rd_T51 l0 x20_2).f1.f0))).setCell ⟨gb144, 2, none⟩ (.int .i64 ((rd_T51 l0 x20_2).f1.f1))).setCell ⟨gb144, 3, none⟩ (.int .i64 ((rd_T51 l0 x20_2).f2.f0))).setCell ⟨gb144, 4, none⟩ (.int .i64 ((rd_T51 l0 x20_2).f2.f1))).heap[gb140]? = some (.cells #[.int .i64 a1_0, .int .i64 a1_1] 24 (0, 0))) := ⟨by (with_reducible repeat (first | refine blk_drewN ?_ _ | refine blk_drew ?_ | refine blk_alloc ?_ _)); refine blk_far ?_ NB140_144.out _; (with_reducible repeat (first | refine blk_drewN ?_ _ | refine blk_drew ?_ | refine blk_alloc ?_ _)); refine blk_far ?_ NB140_144.out _; (with_reducible repeat (first | refine blk_drewN ?_ _ | refine blk_drew ?_ | refine blk_alloc ?_ _)); refine blk_far ?_ NB140_144.out _; (with_reducible repeat (first | refine blk_drewN ?_ _ | refine blk_drew ?_ | refine blk_alloc ?_ _)); refine blk_far ?_ NB140_144.out _; (with_reducible repeat (first | refine blk_drewN ?_ _ | refine blk_drew ?_ | refine blk_alloc ?_ _)); refine blk_far ?_ NB140_144.out _; (with_reducible repeat (first | refine blk_drewN ?_ _ | refine blk_drew ?_ | refine blk_alloc ?_ _)); exact BK140.out⟩
       have n2_ : Aside0 ((((((w17.setCell ⟨gb144, 0, none⟩ (.int .i64 ((rd_T51 l0 x20_2).f0))).setCell ⟨gb144, 1, none⟩ (.int .i64 ((rd_T51 l0 x20_2).f1.f0))).setCell ⟨gb144, 2, none⟩ (.int .i64 ((rd_T51 l0 x20_2).f1.f1))).setCell ⟨gb144, 3, none⟩ (.int .i64 ((rd_T51 l0 x20_2).f2.f0))).setCell ⟨gb144, 4, none⟩ (.int .i64 ((rd_T51 l0 x20_2).f2.f1))).heap[gb144]? = some (.cells #[.int .i64 ((rd_T51 l0 x20_2).f0), .int .i64 ((rd_T51 l0 x20_2).f1.f0), .int .i64 ((rd_T51 l0 x20_2).f1.f1), .int .i64 ((rd_T51 l0 x20_2).f2.f0), .int .i64 ((rd_T51 l0 x20_2).f2.f1)] 51 (0, 0))) := ⟨by (with_reducible repeat (first | refine blk_drewN ?_ _ | refine blk_drew ?_ | refine blk_alloc ?_ _)); refine blk_put (cs := #[.int .i64 ((rd_T51 l0 x20_2).f0), .int .i64 ((rd_T51 l0 x20_2).f1.f0), .int .i64 ((rd_T51 l0 x20_2).f1.f1), .int .i64 ((rd_T51 l0 x20_2).f2.f0), .int .i64 0]) ?_ 4 _ rfl; (with_reducible repeat (first | refine blk_drewN ?_ _ | refine blk_drew ?_ | refine blk_alloc ?_ _)); refine blk_put (cs := #[.int .i64 ((rd_T51 l0 x20_2).f0), .int .i64 ((rd_T51 l0 x20_2).f1.f0), .int .i64 ((rd_T51 l0 x20_2).f1.f1), .int .i64 0, .int .i64 0]) ?_ 3 _ rfl; (with_reducible repeat (first | refine blk_drewN ?_ _ | refine blk_drew ?_ | refine blk_alloc ?_ _)); refine blk_put (cs := #[.int .i64 ((rd_T51 l0 x20_2).f0), .int .i64 ((rd_T51 l0 x20_2).f1.f0), .int .i64 0, .int .i64 0, .int .i64 0]) ?_ 2 _ rfl; (with_reducible repeat (first | refine blk_drewN ?_ _ | refine blk_drew ?_ | refine blk_alloc ?_ _)); refine blk_put (cs := #[.int .i64 ((rd_T51 l0 x20_2).f0), .int .i64 0, .int .i64 0, .int .i64 0, .int .i64 0]) ?_ 1 _ rfl; (with_reducible repeat (first | refine blk_drewN ?_ _ | refine blk_drew ?_ | refine blk_alloc ?_ _)); refine blk_put (cs := #[.int .i64 0, .int .i64 0, .int .i64 0, .int .i64 0, .int .i64 0]) ?_ 0 _ rfl; (with_reducible repeat (first | refine blk_drewN ?_ _ | refine blk_drew ?_ | refine blk_alloc ?_ _)); exact BK144.out⟩
       have n3_ : Aside0 (Below w.heap.size w (((((w17.setCell ⟨gb144, 0, none⟩ (.int .i64 ((rd_T51 l0 x20_2).f0))).setCell ⟨gb144, 1, none⟩ (.int .i64 ((rd_T51 l0 x20_2).f1.f0))).setCell ⟨gb144, 2, none⟩ (.int .i64 ((rd_T51 l0 x20_2).f1.f1))).setCell ⟨gb144, 3, none⟩ (.int .i64 ((rd_T51 l0 x20_2).f2.f0))).setCell ⟨gb144, 4, none⟩ (.int .i64 ((rd_T51 l0 x20_2).f2.f1)))) := ⟨bs2_ HB GE140 GE144⟩
       (try clear HO_6)
       (try clear BK140)
       (try clear BK144)
       (try clear HB)
       generalize (((((w17.setCell ⟨gb144, 0, none⟩ (.int .i64 ((rd_T51 l0 x20_2).f0))).setCell ⟨gb144, 1, none⟩ (.int .i64 ((rd_T51 l0 x20_2).f1.f0))).setCell ⟨gb144, 2, none⟩ (.int .i64 ((rd_T51 l0 x20_2).f1.f1))).setCell ⟨gb144, 3, none⟩ (.int .i64 ((rd_T51 l0 x20_2).f2.f0))).setCell ⟨gb144, 4, none⟩ (.int .i64 ((rd_T51 l0 x20_2).f2.f1))) = w22 at n0_ n1_ n2_ n3_ ⊢
       have HO_6 := n0_
       have BK140 := n1_
       have BK144 := n2_
       have HB := n3_
       clear n0_ n1_ n2_ n3_
       replace HO_6 := mk_ (Kd.R_drew HO_6.out)
       replace BK140 := mk_ (blk_drew BK140.out)
       replace BK144 := mk_ (blk_drew BK144.out)
       replace HB := mk_ (below_drew1 HB.out)
       refine start_ (n := 20) (S := fun w' => w'.cell? ⟨gb140, 0, none⟩ = some (.int .i64 a1_0) ∧ w'.cell? ⟨gb140, 1, none⟩ = some (.int .i64 a1_1)) (ds := []) #[n_, n_, n_, n_, n_, n_, n_, n_, n_, n_, n_, n_, n_, n_, n_, n_, n_, n_, n_, n_] (by kernel_rfl) rfl rfl ⟨(blk_cell BK140.out 0).trans rfl, (blk_cell BK140.out 1).trans rfl⟩ (fun hHeld => ?_); refine with_tabW piecewise_Scale.tab7 piecewise_Scale.bits7 (fun HT_ HW_ => ?_)
       generalize w22.drew = w23 at HO_6 BK140 BK144 HB hHeld ⊢
       refine pu_ 0 25 (w_ 20 1) rfl HT_ ?_
       refine pu_ 1 26 (w_ 20 3) rfl HT_ ?_
       refine pu_ 2 27 (w_ 20 7) rfl HT_ ?_
       refine pu_ 3 28 (w_ 20 15) rfl HT_ ?_
       refine ta_ 4 29 (w_ 20 31) rfl HT_ HW_ hHeld (by rintro w' ⟨s0, s1⟩; go_simp; with_reducible rfl) ?_
       refine pu_ 5 30 (w_ 20 63) rfl HT_ ?_
       refine pu_ 6 31 (w_ 20 127) rfl HT_ ?_
       refine pn_ 7 32 (w_ 20 255) rfl HT_ ?_
       refine pn_ 8 33 (w_ 20 511) rfl HT_ ?_
       refine pn_ 9 34 (w_ 20 1023) rfl HT_ ?_
       refine pn_ 10 35 (w_ 20 2047) rfl HT_ ?_
       refine pn_ 11 36 (w_ 20 4095) rfl HT_ ?_
       refine pn_ 12 37 (w_ 20 8191) rfl HT_ ?_
       refine pn_ 13 38 (w_ 20 16383) rfl HT_ ?_
       refine pn_ 14 39 (w_ 20 32767) rfl HT_ ?_
       refine pn_ 15 40 (w_ 20 65535) rfl HT_ ?_
       refine pn_ 16 41 (w_ 20 131071) rfl HT_ ?_
       refine pn_ 17 42 (w_ 20 262143) rfl HT_ ?_
       refine pu_ 18 43 (w_ 20 524287) rfl HT_ ?_
       refine pu_ 19 44 (w_ 20 1048575) rfl HT_ ?_
       refine done_ (done_of HT_.out (by kernel_rfl)) ?_
       try go_wp2
       go_meet
       case rel => exact ⟨_, (true), sd_, H', ⟨by have := HJ2.out; have := HK2.out; first | omega | exact Nat.le_refl _⟩, ⟨rr_ HO_6⟩, ⟨kk_ BK140⟩, ⟨kk_ BK144⟩, ⟨bs2_ HB GE140 GE144⟩⟩
      rw [if_neg c21] at H
      have c21b0 : (a1_0 == 0) = false := beq_eq_false_iff_ne.mpr c21
      have c21b1 : (a1_0 != 0) = true := bne_iff_ne.mpr c21
      obtain ⟨ji24, hji24⟩ : ∃ j_ : Int, (wrap64 (x20_2 - 1)) = j_ := ⟨_, rfl⟩
      replace H : (if 0 ≤ (ji24) then (if (ji24) < (l0.length : Int) then ((piecewise_lineOf.f ((rd_T51 l0 (ji24)).f0) ((rd_T51 l0 (ji24)).f1.f0) ((rd_T51 l0 (ji24)).f1.f1) ((rd_T51 l0 (ji24)).f2.f0) ((rd_T51 l0 (ji24)).f2.f1)).bind fun bt146 => ((piecewise_line_piece.f k2 bt146.1 bt146.2.1 bt146.2.2.1 bt146.2.2.2 ((rd_T51 l0 x20_2).f0)).bind fun bt150 => (piecewise_Scale.j2 k2 l0 x6_2 l0 (l0.length : Int) x20_2 (((rd_T51 l0 x20_2).f0) == bt150.1 && ((((rd_T51 l0 x20_2).f1.f0) == bt150.2.1 && (((rd_T51 l0 x20_2).f1.f1) == bt150.2.2.1)) && ((((rd_T51 l0 x20_2).f2.f0) == bt150.2.2.2.1 && (((rd_T51 l0 x20_2).f2.f1) == bt150.2.2.2.2))))) a1_0 a1_1 ((rd_T51 l0 x20_2).f0) ((rd_T51 l0 x20_2).f1.f0) ((rd_T51 l0 x20_2).f1.f1) ((rd_T51 l0 x20_2).f2.f0) ((rd_T51 l0 x20_2).f2.f1)))) else (none)) else (none)) = some (r1, r2) := by first | (rw [hji24] at H; exact H) | (simp only [hji24] at H ⊢; exact H)
      have hji24w : (IntKind.i64.wrap (x20_2 - 1)) = ji24 := (i64_w _).trans hji24
      by_cases c25 : 0 ≤ (ji24)
      rotate_left
      ·rw [if_neg c25] at H
       exact absurd H (by simp)
      rw [if_pos c25] at H
      have c25b0 : decide (0 ≤ (ji24)) = true := decide_eq_true c25
      clear c25
      by_cases c26 : (ji24) < (l0.length : Int)
      rotate_left
      ·rw [if_neg c26] at H
       exact absurd H (by simp)
      rw [if_pos c26] at H
      have c26b0 : decide ((ji24) < (l0.length : Int)) = true := decide_eq_true c26
      clear c26
      replace H := Option.bind_eq_some_iff.mp H
      obtain ⟨⟨t146, t147, t148, t149⟩, A270, H⟩ := H
      replace H : ((piecewise_line_piece.f k2 t146 t147 t148 t149 ((rd_T51 l0 x20_2).f0)).bind fun bt150 => (piecewise_Scale.j2 k2 l0 x6_2 l0 (l0.length : Int) x20_2 (((rd_T51 l0 x20_2).f0) == bt150.1 && ((((rd_T51 l0 x20_2).f1.f0) == bt150.2.1 && (((rd_T51 l0 x20_2).f1.f1) == bt150.2.2.1)) && ((((rd_T51 l0 x20_2).f2.f0) == bt150.2.2.2.1 && (((rd_T51 l0 x20_2).f2.f1) == bt150.2.2.2.2))))) a1_0 a1_1 ((rd_T51 l0 x20_2).f0) ((rd_T51 l0 x20_2).f1.f0) ((rd_T51 l0 x20_2).f1.f1) ((rd_T51 l0 x20_2).f2.f0) ((rd_T51 l0 x20_2).f2.f1))) = some (r1, r2) := H
      have A27 := mk_ A270
      clear A270
      replace H := Option.bind_eq_some_iff.mp H
      obtain ⟨⟨t150, t151, t152, t153, t154⟩, A280, H⟩ := H
      replace H : (piecewise_Scale.j2 k2 l0 x6_2 l0 (l0.length : Int) x20_2 (((rd_T51 l0 x20_2).f0) == t150 && ((((rd_T51 l0 x20_2).f1.f0) == t151 && (((rd_T51 l0 x20_2).f1.f1) == t152)) && ((((rd_T51 l0 x20_2).f2.f0) == t153 && (((rd_T51 l0 x20_2).f2.f1) == t154))))) a1_0 a1_1 ((rd_T51 l0 x20_2).f0) ((rd_T51 l0 x20_2).f1.f0) ((rd_T51 l0 x20_2).f1.f1) ((rd_T51 l0 x20_2).f2.f0) ((rd_T51 l0 x20_2).f2.f1)) = some (r1, r2) := H
      have A28 := mk_ A280
      clear A280
      have H' := mk_ H
      clear H
      try go_wp2
      have n0_ : Aside0 (Kd.R k51 51 (((((w17.setCell ⟨gb144, 0, none⟩ (.int .i64 ((rd_T51 l0 x20_2).f0))).setCell ⟨gb144, 1, none⟩ (.int .i64 ((rd_T51 l0 x20_2).f1.f0))).setCell ⟨gb144, 2, none⟩ (.int .i64 ((rd_T51 l0 x20_2).f1.f1))).setCell ⟨gb144, 3, none⟩ (.int .i64 ((rd_T51 l0 x20_2).f2.f0))).setCell ⟨gb144, 4, none⟩ (.int .i64 ((rd_T51 l0 x20_2).f2.f1))) w.heap.size (fun k_ => k_ ≠ gb144) u6 x6_2) := ⟨by (with_reducible repeat (first | apply Kd.R_alloc | apply Kd.R_drewN | apply Kd.R_drew)); exact Kd.R_mono (Kd.R_far (p := ⟨gb144, 4, none⟩) (Kd.R_far (p := ⟨gb144, 3, none⟩) (Kd.R_far (p := ⟨gb144, 2, none⟩) (Kd.R_far (p := ⟨gb144, 1, none⟩) (Kd.R_far (p := ⟨gb144, 0, none⟩) (Kd.R_mono HO_6.out (fun k_ hk => (⟨hk, hk.2⟩ : _ ∧ k_ ≠ gb144))) (fun _ hk => hk.2) (.int .i64 ((rd_T51 l0 x20_2).f0))) (fun _ hk => hk.2) (.int .i64 ((rd_T51 l0 x20_2).f1.f0))) (fun _ hk => hk.2) (.int .i64 ((rd_T51 l0 x20_2).f1.f1))) (fun _ hk => hk.2) (.int .i64 ((rd_T51 l0 x20_2).f2.f0))) (fun _ hk => hk.2) (.int .i64 ((rd_T51 l0 x20_2).f2.f1))) (fun _ hk => hk.1.2)⟩
      have n1_ : Aside0 ((((((w17.setCell ⟨gb144, 0, none⟩ (.int .i64 ((rd_T51 l0 x20_2).f0))).setCell ⟨gb144, 1, none⟩ (.int .i64 ((rd_T51 l0 x20_2).f1.f0))).setCell ⟨gb144, 2, none⟩ (.int .i64 ((rd_T51 l0 x20_2).f1.f1))).setCell ⟨gb144, 3, none⟩ (.int .i64 ((rd_T51 l0 x20_2).f2.f0))).setCell ⟨gb144, 4, none⟩ (.int .i64 ((rd_T51 l0 x20_2).f2.f1))).heap[gb140]? = some (.cells #[.int .i64 a1_0, .int .i64 a1_1] 24 (0, 0))) := ⟨by (with_reducible repeat (first | refine blk_drewN ?_ _ | refine blk_drew ?_ | refine blk_alloc ?_ _)); refine blk_far ?_ NB140_144.out _; (with_reducible repeat (first | refine blk_drewN ?_ _ | refine blk_drew ?_ | refine blk_alloc ?_ _)); refine blk_far ?_ NB140_144.out _; (with_reducible repeat (first | refine blk_drewN ?_ _ | refine blk_drew ?_ | refine blk_alloc ?_ _)); refine blk_far ?_ NB140_144.out _; (with_reducible repeat (first | refine blk_drewN ?_ _ | refine blk_drew ?_ | refine blk_alloc ?_ _)); refine blk_far ?_ NB140_144.out _; (with_reducible repeat (first | refine blk_drewN ?_ _ | refine blk_drew ?_ | refine blk_alloc ?_ _)); refine blk_far ?_ NB140_144.out _; (with_reducible repeat (first | refine blk_drewN ?_ _ | refine blk_drew ?_ | refine blk_alloc ?_ _)); exact BK140.out⟩
      have n2_ : Aside0 ((((((w17.setCell ⟨gb144, 0, none⟩ (.int .i64 ((rd_T51 l0 x20_2).f0))).setCell ⟨gb144, 1, none⟩ (.int .i64 ((rd_T51 l0 x20_2).f1.f0))).setCell ⟨gb144, 2, none⟩ (.int .i64 ((rd_T51 l0 x20_2).f1.f1))).setCell ⟨gb144, 3, none⟩ (.int .i64 ((rd_T51 l0 x20_2).f2.f0))).setCell ⟨gb144, 4, none⟩ (.int .i64 ((rd_T51 l0 x20_2).f2.f1))).heap[gb144]? = some (.cells #[.int .i64 ((rd_T51 l0 x20_2).f0), .int .i64 ((rd_T51 l0 x20_2).f1.f0), .int .i64 ((rd_T51 l0 x20_2).f1.f1), .int .i64 ((rd_T51 l0 x20_2).f2.f0), .int .i64 ((rd_T51 l0 x20_2).f2.f1)] 51 (0, 0))) := ⟨by (with_reducible repeat (first | refine blk_drewN ?_ _ | refine blk_drew ?_ | refine blk_alloc ?_ _)); refine blk_put (cs := #[.int .i64 ((rd_T51 l0 x20_2).f0), .int .i64 ((rd_T51 l0 x20_2).f1.f0), .int .i64 ((rd_T51 l0 x20_2).f1.f1), .int .i64 ((rd_T51 l0 x20_2).f2.f0), .int .i64 0]) ?_ 4 _ rfl; (with_reducible repeat (first | refine blk_drewN ?_ _ | refine blk_drew ?_ | refine blk_alloc ?_ _)); refine blk_put (cs := #[.int .i64 ((rd_T51 l0 x20_2).f0), .int .i64 ((rd_T51 l0 x20_2).f1.f0), .int .i64 ((rd_T51 l0 x20_2).f1.f1), .int .i64 0, .int .i64 0]) ?_ 3 _ rfl; (with_reducible repeat (first | refine blk_drewN ?_ _ | refine blk_drew ?_ | refine blk_alloc ?_ _)); refine blk_put (cs := #[.int .i64 ((rd_T51 l0 x20_2).f0), .int .i64 ((rd_T51 l0 x20_2).f1.f0), .int .i64 0, .int .i64 0, .int .i64 0]) ?_ 2 _ rfl; (with_reducible repeat (first | refine blk_drewN ?_ _ | refine blk_drew ?_ | refine blk_alloc ?_ _)); refine blk_put (cs := #[.int .i64 ((rd_T51 l0 x20_2).f0), .int .i64 0, .int .i64 0, .int .i64 0, .int .i64 0]) ?_ 1 _ rfl; (with_reducible repeat (first | refine blk_drewN ?_ _ | refine blk_drew ?_ | refine blk_alloc ?_ _)); refine blk_put (cs := #[.int .i64 0, .int .i64 0, .int .i64 0, .int .i64 0, .int .i64 0]) ?_ 0 _ rfl; (with_reducible repeat (first | refine blk_drewN ?_ _ | refine blk_drew ?_ | refine blk_alloc ?_ _)); exact BK144.out⟩
      have n3_ : Aside0 (Below w.heap.size w (((((w17.setCell ⟨gb144, 0, none⟩ (.int .i64 ((rd_T51 l0 x20_2).f0))).setCell ⟨gb144, 1, none⟩ (.int .i64 ((rd_T51 l0 x20_2).f1.f0))).setCell ⟨gb144, 2, none⟩ (.int .i64 ((rd_T51 l0 x20_2).f1.f1))).setCell ⟨gb144, 3, none⟩ (.int .i64 ((rd_T51 l0 x20_2).f2.f0))).setCell ⟨gb144, 4, none⟩ (.int .i64 ((rd_T51 l0 x20_2).f2.f1)))) := ⟨bs2_ HB GE140 GE144⟩
      (try clear HO_6)
      (try clear BK140)
      (try clear BK144)
      (try clear HB)
      generalize (((((w17.setCell ⟨gb144, 0, none⟩ (.int .i64 ((rd_T51 l0 x20_2).f0))).setCell ⟨gb144, 1, none⟩ (.int .i64 ((rd_T51 l0 x20_2).f1.f0))).setCell ⟨gb144, 2, none⟩ (.int .i64 ((rd_T51 l0 x20_2).f1.f1))).setCell ⟨gb144, 3, none⟩ (.int .i64 ((rd_T51 l0 x20_2).f2.f0))).setCell ⟨gb144, 4, none⟩ (.int .i64 ((rd_T51 l0 x20_2).f2.f1))) = w29 at n0_ n1_ n2_ n3_ ⊢
      have HO_6 := n0_
      have BK140 := n1_
      have BK144 := n2_
      have HB := n3_
      clear n0_ n1_ n2_ n3_
      replace HO_6 := mk_ (Kd.R_drew HO_6.out)
      replace BK140 := mk_ (blk_drew BK140.out)
      replace BK144 := mk_ (blk_drew BK144.out)
      replace HB := mk_ (below_drew1 HB.out)
      have p145 : 0 ≤ ((ji24) : Int) := od_
      have q145 : (ji24) < (l0.length : Int) := od_
      obtain ⟨ad145, e145, hx145_0, hx145_1, hx145_2, hx145_3, hx145_4⟩ := at_T51 HR0.out (ji24) p145 q145
      have hw145_4 := hx145_4
      have hw145_3 := hx145_3
      have hw145_2 := hx145_2
      have hw145_1 := hx145_1
      have hw145_0 := hx145_0
      obtain rfl : ad143 = ad145 := (by injection e145)
      replace hx145_0 := cb_ HB hx145_0
      replace hx145_1 := cb_ HB hx145_1
      replace hx145_2 := cb_ HB hx145_2
      replace hx145_3 := cb_ HB hx145_3
      replace hx145_4 := cb_ HB hx145_4
      replace p145 := eq_true p145
      replace q145 := eq_true q145
      refine start_ (n := 20) (S := fun w' => w'.cell? ⟨gb140, 0, none⟩ = some (.int .i64 a1_0) ∧ w'.cell? ⟨gb140, 1, none⟩ = some (.int .i64 a1_1) ∧ w'.cell? ⟨gb144, 0, none⟩ = some (.int .i64 ((rd_T51 l0 x20_2).f0)) ∧ w'.cell? ⟨gb144, 1, none⟩ = some (.int .i64 ((rd_T51 l0 x20_2).f1.f0)) ∧ w'.cell? ⟨gb144, 2, none⟩ = some (.int .i64 ((rd_T51 l0 x20_2).f1.f1)) ∧ w'.cell? ⟨gb144, 3, none⟩ = some (.int .i64 ((rd_T51 l0 x20_2).f2.f0)) ∧ w'.cell? ⟨gb144, 4, none⟩ = some (.int .i64 ((rd_T51 l0 x20_2).f2.f1)) ∧ w'.cell? (ad143.add (((ji24)).toNat * 5)) = some (.int .i64 ((rd_T51 l0 (ji24)).f0)) ∧ w'.cell? ⟨(ad143.add (((ji24)).toNat * 5)).block, (ad143.add (((ji24)).toNat * 5)).off + 1, none⟩ = some (.int .i64 ((rd_T51 l0 (ji24)).f1.f0)) ∧ w'.cell? ⟨(ad143.add (((ji24)).toNat * 5)).block, (ad143.add (((ji24)).toNat * 5)).off + 2, none⟩ = some (.int .i64 ((rd_T51 l0 (ji24)).f1.f1)) ∧ w'.cell? ⟨(ad143.add (((ji24)).toNat * 5)).block, (ad143.add (((ji24)).toNat * 5)).off + 3, none⟩ = some (.int .i64 ((rd_T51 l0 (ji24)).f2.f0)) ∧ w'.cell? ⟨(ad143.add (((ji24)).toNat * 5)).block, (ad143.add (((ji24)).toNat * 5)).off + 4, none⟩ = some (.int .i64 ((rd_T51 l0 (ji24)).f2.f1))) (ds := []) #[n_, n_, n_, n_, n_, n_, n_, n_, n_, n_, n_, n_, n_, n_, n_, n_, n_, n_, n_, n_] (by kernel_rfl) rfl rfl ⟨(blk_cell BK140.out 0).trans rfl, (blk_cell BK140.out 1).trans rfl, (blk_cell BK144.out 0).trans rfl, (blk_cell BK144.out 1).trans rfl, (blk_cell BK144.out 2).trans rfl, (blk_cell BK144.out 3).trans rfl, (blk_cell BK144.out 4).trans rfl, (cb_ HB hw145_0), (cb_ HB hw145_1), (cb_ HB hw145_2), (cb_ HB hw145_3), (cb_ HB hw145_4)⟩ (fun hHeld => ?_); refine with_tabW piecewise_Scale.tab7 piecewise_Scale.bits7 (fun HT_ HW_ => ?_)
      generalize w29.drew = w30 at HO_6 BK140 BK144 HB hx145_0 hx145_1 hx145_2 hx145_3 hx145_4 hHeld ⊢
      refine pu_ 0 25 (w_ 20 1) rfl HT_ ?_
      refine pu_ 1 26 (w_ 20 3) rfl HT_ ?_
      refine pu_ 2 27 (w_ 20 7) rfl HT_ ?_
      refine pu_ 3 28 (w_ 20 15) rfl HT_ ?_
      refine ta_ 4 29 (w_ 20 31) rfl HT_ HW_ hHeld (by rintro w' ⟨s0, s1, s2, s3, s4, s5, s6, s7, s8, s9, s10, s11⟩; go_simp; with_reducible rfl) ?_
      refine pu_ 5 30 (w_ 20 63) rfl HT_ ?_
      refine pu_ 6 31 (w_ 20 127) rfl HT_ ?_
      refine pu_ 8 33 (w_ 20 383) rfl HT_ ?_
      refine pu_ 9 34 (w_ 20 895) rfl HT_ ?_
      refine pu_ 10 35 (w_ 20 1919) rfl HT_ ?_
      refine pu_ 11 36 (w_ 20 3967) rfl HT_ ?_
      refine pu_ 14 39 (w_ 20 20351) rfl HT_ ?_
      refine ta_ 7 32 (w_ 20 20479) rfl HT_ HW_ hHeld (by rintro w' ⟨s0, s1, s2, s3, s4, s5, s6, s7, s8, s9, s10, s11⟩; go_simp; with_reducible rfl) ?_
      refine ta_ 12 37 (w_ 20 24575) rfl HT_ HW_ hHeld (by rintro w' ⟨s0, s1, s2, s3, s4, s5, s6, s7, s8, s9, s10, s11⟩; go_simp; with_reducible rfl) ?_
      refine ta_ 15 40 (w_ 20 57343) rfl HT_ HW_ hHeld (by rintro w' ⟨s0, s1, s2, s3, s4, s5, s6, s7, s8, s9, s10, s11⟩; go_simp; with_reducible rfl) ?_
      refine one_ (i := 13) (N := some 38) (w_ 20 65535) rfl rfl (one_of HT_.out (by kernel_rfl)) (by decide) (fun K hK => ?_)
      refine goes_ Try.func46 (by kernel_rfl) rfl #[.agg #[.int .i64 ((rd_T51 l0 (ji24)).f0), .int .i64 ((rd_T51 l0 (ji24)).f1.f0), .int .i64 ((rd_T51 l0 (ji24)).f1.f1), .int .i64 ((rd_T51 l0 (ji24)).f2.f0), .int .i64 ((rd_T51 l0 (ji24)).f2.f1)]] (by rfl) rfl rfl (by (try simp only [List.map_toArray, List.map_cons, List.map_nil]); first | done | (simp only [hji24]; rfl) | rfl | (simp only [List.length_drop, List.length_take]; rfl)) ?_
      with_reducible refine (piecewise_lineOf.calls ((rd_T51 l0 (ji24)).f0) ((rd_T51 l0 (ji24)).f1.f0) ((rd_T51 l0 (ji24)).f1.f1) ((rd_T51 l0 (ji24)).f2.f0) ((rd_T51 l0 (ji24)).f2.f1) t146 t147 t148 t149 _ A27.out).mono ?_
      rintro e w31 ⟨rfl, hb⟩
      refine ⟨_, rfl, ?_⟩
      replace HO_6 := mk_ (Kd.R_below (rr_ HO_6) hb)
      replace BK140 := mk_ (blk_below (kk_ BK140) hb)
      replace BK144 := mk_ (blk_below (kk_ BK144) hb)
      replace HB := mk_ (below_step (bs2_ HB GE140 GE144) hb)
      (try clear hb)
      refine hK.out _ _ ⟨(blk_cell BK140.out 0).trans rfl, (blk_cell BK140.out 1).trans rfl, (blk_cell BK144.out 0).trans rfl, (blk_cell BK144.out 1).trans rfl, (blk_cell BK144.out 2).trans rfl, (blk_cell BK144.out 3).trans rfl, (blk_cell BK144.out 4).trans rfl, (cb_ HB hw145_0), (cb_ HB hw145_1), (cb_ HB hw145_2), (cb_ HB hw145_3), (cb_ HB hw145_4)⟩ (fun hHeld => ?_)
      clear hK K
      refine norm_ (a' := ?_) ?_ ?_
      rotate_left
      ·show Act.put _ (some 38) _ = _
       simp only [Act.put, sI_, s0_, sS_, i64_w, i32_w]
       rfl
      refine one_ (i := 16) (N := some 41) (w_ 20 131071) rfl rfl (one_of HT_.out (by kernel_rfl)) (by decide) (fun K hK => ?_)
      refine goes_ Try.func47 (by kernel_rfl) rfl #[.agg #[.int .i64 t146, .int .i64 t147, .int .i64 t148, .int .i64 t149], .int .i64 ((rd_T51 l0 x20_2).f0)] (by rfl) rfl rfl (by (try simp only [List.map_toArray, List.map_cons, List.map_nil]); first | done | rfl | (simp only [List.length_drop, List.length_take]; rfl)) ?_
      with_reducible refine (piecewise_line_piece.calls k2 t146 t147 t148 t149 ((rd_T51 l0 x20_2).f0) t150 t151 t152 t153 t154 _ A28.out).mono ?_
      rintro e w32 ⟨rfl, hb⟩
      refine ⟨_, rfl, ?_⟩
      replace HO_6 := mk_ (Kd.R_below (rr_ HO_6) hb)
      replace BK140 := mk_ (blk_below (kk_ BK140) hb)
      replace BK144 := mk_ (blk_below (kk_ BK144) hb)
      replace HB := mk_ (below_step (bs2_ HB GE140 GE144) hb)
      (try clear hb)
      refine hK.out _ _ ⟨(blk_cell BK140.out 0).trans rfl, (blk_cell BK140.out 1).trans rfl, (blk_cell BK144.out 0).trans rfl, (blk_cell BK144.out 1).trans rfl, (blk_cell BK144.out 2).trans rfl, (blk_cell BK144.out 3).trans rfl, (blk_cell BK144.out 4).trans rfl, (cb_ HB hw145_0), (cb_ HB hw145_1), (cb_ HB hw145_2), (cb_ HB hw145_3), (cb_ HB hw145_4)⟩ (fun hHeld => ?_)
      clear hK K
      refine norm_ (a' := ?_) ?_ ?_
      rotate_left
      ·show Act.put _ (some 41) _ = _
       simp only [Act.put, sI_, s0_, sS_, i64_w, i32_w]
       rfl
      refine pu_ 17 42 (w_ 20 262143) rfl HT_ ?_
      refine pu_ 18 43 (w_ 20 524287) rfl HT_ ?_
      refine pu_ 19 44 (w_ 20 1048575) rfl HT_ ?_
      refine done_ (done_of HT_.out (by kernel_rfl)) ?_
      try go_wp2
      go_meet
      case rel => exact ⟨_, ((((rd_T51 l0 x20_2).f0) == t150 && ((((rd_T51 l0 x20_2).f1.f0) == t151 && (((rd_T51 l0 x20_2).f1.f1) == t152)) && ((((rd_T51 l0 x20_2).f2.f0) == t153 && (((rd_T51 l0 x20_2).f2.f1) == t154)))))), sd_, H', ⟨by have := HJ2.out; have := HK2.out; first | omega | exact Nat.le_refl _⟩, ⟨rr_ HO_6⟩, ⟨kk_ BK140⟩, ⟨kk_ BK144⟩, ⟨bs2_ HB GE140 GE144⟩⟩
     case rest =>
      clear HC16
      obtain ⟨kq, x44_15, rfl, HA, HJ15, HO_6, BK140, BK144, HB⟩ := hcut
      cases kq with
      | zero => exact absurd HA.out (by simp [piecewise_Scale.j2])
      | succ kj15 =>
       have H := HA.out
       clear HA
       simp only [piecewise_Scale.j2] at H
       by_cases c35 : x44_15 = true
       ·subst c35
        have H1 : (piecewise_Scale.l0 kj15 l0 x6_2 l0 (l0.length : Int) (wrap64 (x20_2 + 1)) a1_0 a1_1) = some (r1, r2) := by rw [if_pos rfl] at H; exact H
        clear H
        have H := H1
        clear H1
        have H' := mk_ H
        clear H
        go_wp2
        go_roundg kj15
        case measure => have := HJ2.out; have := HK2.out; have := HJ15.out; omega
        case rel => exact ⟨(x6_2), (wrap64 (x20_2 + 1)), sd_, H', ⟨by have := HJ2.out; have := HK2.out; have := HJ15.out; omega⟩, ⟨by (with_reducible repeat (first | apply Kd.R_alloc | apply Kd.R_drewN | apply Kd.R_drew)); exact Kd.R_mono HO_6.out (fun _ hk => trivial)⟩, ⟨kk_ BK140⟩, ⟨bs2_ HB GE140 GE144⟩⟩
       replace c35 := Bool.eq_false_iff.mpr c35
       subst c35
       have H1 : ((piecewise_lowest.f kj15 (wrap64 (((rd_T51 l0 x20_2).f1.f0) * a1_0)) (wrap64 (((rd_T51 l0 x20_2).f1.f1) * a1_1))).bind fun bt155 => ((piecewise_lowest.f kj15 (wrap64 (((rd_T51 l0 x20_2).f2.f0) * a1_0)) (wrap64 (((rd_T51 l0 x20_2).f2.f1) * a1_1))).bind fun bt157 => ((piecewise_numbers.f ((rd_T51 l0 x20_2).f0) bt155.1 bt155.2 bt157.1 bt157.2).bind fun t160 => (if t160 = true then (if x6_2.length < 3518437208883 then (piecewise_Scale.l0 kj15 l0 (x6_2 ++ [(⟨((rd_T51 l0 x20_2).f0), (⟨bt155.1, bt155.2⟩ : S24), (⟨bt157.1, bt157.2⟩ : S24)⟩ : S51)]) l0 (l0.length : Int) (wrap64 (x20_2 + 1)) a1_0 a1_1) else (none)) else (some (([] : List (S51)), 3)))))) = some (r1, r2) := by rw [if_neg (show ¬ (false = true) by decide)] at H; exact H
       clear H
       have H := H1
       clear H1
       replace H := Option.bind_eq_some_iff.mp H
       obtain ⟨⟨t155, t156⟩, A360, H⟩ := H
       replace H : ((piecewise_lowest.f kj15 (wrap64 (((rd_T51 l0 x20_2).f2.f0) * a1_0)) (wrap64 (((rd_T51 l0 x20_2).f2.f1) * a1_1))).bind fun bt157 => ((piecewise_numbers.f ((rd_T51 l0 x20_2).f0) t155 t156 bt157.1 bt157.2).bind fun t160 => (if t160 = true then (if x6_2.length < 3518437208883 then (piecewise_Scale.l0 kj15 l0 (x6_2 ++ [(⟨((rd_T51 l0 x20_2).f0), (⟨t155, t156⟩ : S24), (⟨bt157.1, bt157.2⟩ : S24)⟩ : S51)]) l0 (l0.length : Int) (wrap64 (x20_2 + 1)) a1_0 a1_1) else (none)) else (some (([] : List (S51)), 3))))) = some (r1, r2) := H
       have A36 := mk_ A360
       clear A360
       replace H := Option.bind_eq_some_iff.mp H
       obtain ⟨⟨t157, t158⟩, A370, H⟩ := H
       replace H : ((piecewise_numbers.f ((rd_T51 l0 x20_2).f0) t155 t156 t157 t158).bind fun t160 => (if t160 = true then (if x6_2.length < 3518437208883 then (piecewise_Scale.l0 kj15 l0 (x6_2 ++ [(⟨((rd_T51 l0 x20_2).f0), (⟨t155, t156⟩ : S24), (⟨t157, t158⟩ : S24)⟩ : S51)]) l0 (l0.length : Int) (wrap64 (x20_2 + 1)) a1_0 a1_1) else (none)) else (some (([] : List (S51)), 3)))) = some (r1, r2) := H
       have A37 := mk_ A370
       clear A370
       replace H := Option.bind_eq_some_iff.mp H
       obtain ⟨t160, A380, H⟩ := H
       replace H : (if t160 = true then (if x6_2.length < 3518437208883 then (piecewise_Scale.l0 kj15 l0 (x6_2 ++ [(⟨((rd_T51 l0 x20_2).f0), (⟨t155, t156⟩ : S24), (⟨t157, t158⟩ : S24)⟩ : S51)]) l0 (l0.length : Int) (wrap64 (x20_2 + 1)) a1_0 a1_1) else (none)) else (some (([] : List (S51)), 3))) = some (r1, r2) := H
       have A38 := mk_ A380
       clear A380
       have Hmc39_ := mk_ H
       clear H
       try go_wp2
       replace HO_6 := mk_ (Kd.R_drew HO_6.out)
       replace BK140 := mk_ (blk_drew BK140.out)
       replace BK144 := mk_ (blk_drew BK144.out)
       replace HB := mk_ (below_drew1 HB.out)
       refine start_ (n := 31) (S := fun w' => w'.cell? ⟨gb144, 0, none⟩ = some (.int .i64 ((rd_T51 l0 x20_2).f0)) ∧ w'.cell? ⟨gb144, 1, none⟩ = some (.int .i64 ((rd_T51 l0 x20_2).f1.f0)) ∧ w'.cell? ⟨gb144, 2, none⟩ = some (.int .i64 ((rd_T51 l0 x20_2).f1.f1)) ∧ w'.cell? ⟨gb144, 3, none⟩ = some (.int .i64 ((rd_T51 l0 x20_2).f2.f0)) ∧ w'.cell? ⟨gb144, 4, none⟩ = some (.int .i64 ((rd_T51 l0 x20_2).f2.f1)) ∧ w'.cell? ⟨gb140, 0, none⟩ = some (.int .i64 a1_0) ∧ w'.cell? ⟨gb140, 1, none⟩ = some (.int .i64 a1_1)) (ds := []) #[n_, n_, n_, n_, n_, n_, n_, n_, n_, n_, n_, n_, n_, n_, n_, n_, n_, n_, n_, n_, n_, n_, n_, n_, n_, n_, n_, n_, n_, n_, n_] (by kernel_rfl) rfl rfl ⟨(blk_cell BK144.out 0).trans rfl, (blk_cell BK144.out 1).trans rfl, (blk_cell BK144.out 2).trans rfl, (blk_cell BK144.out 3).trans rfl, (blk_cell BK144.out 4).trans rfl, (blk_cell BK140.out 0).trans rfl, (blk_cell BK140.out 1).trans rfl⟩ (fun hHeld => ?_); refine with_tabW piecewise_Scale.tab8 piecewise_Scale.bits8 (fun HT_ HW_ => ?_)
       generalize wc.drew = w41 at HO_6 BK140 BK144 HB hHeld ⊢
       refine pu_ 0 45 (w_ 31 1) rfl HT_ ?_
       refine pu_ 2 47 (w_ 31 5) rfl HT_ ?_
       refine pu_ 3 48 (w_ 31 13) rfl HT_ ?_
       refine pu_ 5 50 (w_ 31 45) rfl HT_ ?_
       refine pu_ 8 53 (w_ 31 301) rfl HT_ ?_
       refine pu_ 9 54 (w_ 31 813) rfl HT_ ?_
       refine pu_ 11 56 (w_ 31 2861) rfl HT_ ?_
       refine pu_ 15 60 (w_ 31 35629) rfl HT_ ?_
       refine pu_ 16 61 (w_ 31 101165) rfl HT_ ?_
       refine pu_ 18 63 (w_ 31 363309) rfl HT_ ?_
       refine pu_ 21 66 (w_ 31 2460461) rfl HT_ ?_
       refine pu_ 22 67 (w_ 31 6654765) rfl HT_ ?_
       refine pu_ 24 69 (w_ 31 23431981) rfl HT_ ?_
       refine ta_ 1 46 (w_ 31 23431983) rfl HT_ HW_ hHeld (by rintro w' ⟨s0, s1, s2, s3, s4, s5, s6⟩; go_simp; with_reducible rfl) ?_
       refine ta_ 4 49 (w_ 31 23431999) rfl HT_ HW_ hHeld (by rintro w' ⟨s0, s1, s2, s3, s4, s5, s6⟩; go_simp; with_reducible rfl) ?_
       refine ta_ 6 51 (w_ 31 23432063) rfl HT_ HW_ hHeld (by rintro w' ⟨s0, s1, s2, s3, s4, s5, s6⟩; go_simp; with_reducible rfl) ?_
       refine pu_ 7 52 (w_ 31 23432191) rfl HT_ ?_
       refine ta_ 10 55 (w_ 31 23433215) rfl HT_ HW_ hHeld (by rintro w' ⟨s0, s1, s2, s3, s4, s5, s6⟩; go_simp; with_reducible rfl) ?_
       refine ta_ 12 57 (w_ 31 23437311) rfl HT_ HW_ hHeld (by rintro w' ⟨s0, s1, s2, s3, s4, s5, s6⟩; go_simp; with_reducible rfl) ?_
       refine pu_ 13 58 (w_ 31 23445503) rfl HT_ ?_
       refine ta_ 17 62 (w_ 31 23576575) rfl HT_ HW_ hHeld (by rintro w' ⟨s0, s1, s2, s3, s4, s5, s6⟩; go_simp; with_reducible rfl) ?_
       refine ta_ 19 64 (w_ 31 24100863) rfl HT_ HW_ hHeld (by rintro w' ⟨s0, s1, s2, s3, s4, s5, s6⟩; go_simp; with_reducible rfl) ?_
       refine pu_ 20 65 (w_ 31 25149439) rfl HT_ ?_
       refine ta_ 23 68 (w_ 31 33538047) rfl HT_ HW_ hHeld (by rintro w' ⟨s0, s1, s2, s3, s4, s5, s6⟩; go_simp; with_reducible rfl) ?_
       refine ta_ 25 70 (w_ 31 67092479) rfl HT_ HW_ hHeld (by rintro w' ⟨s0, s1, s2, s3, s4, s5, s6⟩; go_simp; with_reducible rfl) ?_
       refine pu_ 26 71 (w_ 31 134201343) rfl HT_ ?_
       refine join_ (σ := Nat) 1 #[y_, y_, y_, y_, y_, y_, y_, y_, y_, y_, y_, y_, y_, y_, y_, y_, y_, y_, y_, y_, y_, y_, y_, y_, y_, y_, y_, y_, y_, y_, n_] (fun s_ => [(59, .agg #[.int .i64 t155, .int .i64 t156]), (72, .agg #[.int .i64 t157, .int .i64 t158]), (9, .pointer (some ⟨s_, 0, none⟩)), (73, .agg #[.int .i64 ((rd_T51 l0 x20_2).f0), .int .i64 t155, .int .i64 t156, .int .i64 t157, .int .i64 t158])]) (fun s_ w' => (w'.cell? ⟨gb144, 0, none⟩ = some (.int .i64 ((rd_T51 l0 x20_2).f0)) ∧ w'.cell? ⟨gb144, 1, none⟩ = some (.int .i64 ((rd_T51 l0 x20_2).f1.f0)) ∧ w'.cell? ⟨gb144, 2, none⟩ = some (.int .i64 ((rd_T51 l0 x20_2).f1.f1)) ∧ w'.cell? ⟨gb144, 3, none⟩ = some (.int .i64 ((rd_T51 l0 x20_2).f2.f0)) ∧ w'.cell? ⟨gb144, 4, none⟩ = some (.int .i64 ((rd_T51 l0 x20_2).f2.f1)) ∧ w'.cell? ⟨gb140, 0, none⟩ = some (.int .i64 a1_0) ∧ w'.cell? ⟨gb140, 1, none⟩ = some (.int .i64 a1_1)) ∧ (Kd.R k51 51 w' w.heap.size (fun k_ => k_ ≠ gb144 ∧ k_ ≠ s_) u6 x6_2) ∧ (w'.heap[gb140]? = some (.cells #[.int .i64 a1_0, .int .i64 a1_1] 24 (0, 0))) ∧ (w'.heap[gb144]? = some (.cells #[.int .i64 ((rd_T51 l0 x20_2).f0), .int .i64 ((rd_T51 l0 x20_2).f1.f0), .int .i64 ((rd_T51 l0 x20_2).f1.f1), .int .i64 ((rd_T51 l0 x20_2).f2.f0), .int .i64 ((rd_T51 l0 x20_2).f2.f1)] 51 (0, 0))) ∧ (w'.heap[s_]? = some (.cells #[.int .i64 0, .int .i64 0, .int .i64 0, .int .i64 0, .int .i64 0] 51 (0, 0))) ∧ (w.heap.size ≤ s_) ∧ (w.heap.size ≤ s_) ∧ (gb140 ≠ s_) ∧ (s_ ≠ gb140) ∧ (gb144 ≠ s_) ∧ (s_ ≠ gb144) ∧ (Below w.heap.size w w')) ?_ ?_
       rotate_left
       ·intro hCont
        refine two_ (i := 14) (j := 29) (Ni := some 59) (Nj := some 9) #[y_, y_, y_, y_, y_, y_, y_, y_, y_, y_, y_, y_, y_, y_, y_, y_, y_, y_, y_, y_, y_, y_, y_, y_, y_, y_, y_, n_, n_, n_, n_] #[y_, y_, y_, y_, y_, y_, y_, y_, y_, y_, y_, y_, y_, y_, n_, y_, y_, y_, y_, y_, y_, y_, y_, y_, y_, y_, y_, n_, n_, y_, n_] rfl rfl rfl rfl (two_of HT_.out (by kernel_rfl)) (by decide) (by decide) (fun K hK => ?_) (fun K hK => ?_)
        ·skip
         refine goes_ Try.func35 (by kernel_rfl) rfl #[.int .i64 (wrap64 (((rd_T51 l0 x20_2).f1.f0) * a1_0)), .int .i64 (wrap64 (((rd_T51 l0 x20_2).f1.f1) * a1_1))] (by rfl) rfl rfl (by (try simp only [List.map_toArray, List.map_cons, List.map_nil]); first | done | rfl | (simp only [List.length_drop, List.length_take]; rfl)) ?_
         with_reducible refine (piecewise_lowest.calls kj15 (wrap64 (((rd_T51 l0 x20_2).f1.f0) * a1_0)) (wrap64 (((rd_T51 l0 x20_2).f1.f1) * a1_1)) t155 t156 _ A36.out).mono ?_
         rintro e w42 ⟨rfl, hb⟩
         refine ⟨_, rfl, ?_⟩
         replace HO_6 := mk_ (Kd.R_below (rr_ HO_6) hb)
         replace BK140 := mk_ (blk_below (kk_ BK140) hb)
         replace BK144 := mk_ (blk_below (kk_ BK144) hb)
         replace HB := mk_ (below_step (bs2_ HB GE140 GE144) hb)
         (try clear hb)
         refine hK.out _ _ ⟨(blk_cell BK144.out 0).trans rfl, (blk_cell BK144.out 1).trans rfl, (blk_cell BK144.out 2).trans rfl, (blk_cell BK144.out 3).trans rfl, (blk_cell BK144.out 4).trans rfl, (blk_cell BK140.out 0).trans rfl, (blk_cell BK140.out 1).trans rfl⟩ (fun hHeld => ?_)
         clear hK K
         refine norm_ (a' := ?_) ?_ ?_
         rotate_left
         ·show Act.put _ (some 59) _ = _
          simp only [Act.put, sI_, s0_, sS_, i64_w, i32_w]
          rfl
         refine two_ (i := 27) (j := 29) (Ni := some 72) (Nj := some 9) #[y_, y_, y_, y_, y_, y_, y_, y_, y_, y_, y_, y_, y_, y_, y_, y_, y_, y_, y_, y_, y_, y_, y_, y_, y_, y_, y_, y_, n_, n_, n_] #[y_, y_, y_, y_, y_, y_, y_, y_, y_, y_, y_, y_, y_, y_, y_, y_, y_, y_, y_, y_, y_, y_, y_, y_, y_, y_, y_, n_, n_, y_, n_] rfl rfl rfl rfl (two_of HT_.out (by kernel_rfl)) (by decide) (by decide) (fun K hK => ?_) (fun K hK => ?_)
         ·skip
          refine goes_ Try.func35 (by kernel_rfl) rfl #[.int .i64 (wrap64 (((rd_T51 l0 x20_2).f2.f0) * a1_0)), .int .i64 (wrap64 (((rd_T51 l0 x20_2).f2.f1) * a1_1))] (by rfl) rfl rfl (by (try simp only [List.map_toArray, List.map_cons, List.map_nil]); first | done | rfl | (simp only [List.length_drop, List.length_take]; rfl)) ?_
          with_reducible refine (piecewise_lowest.calls kj15 (wrap64 (((rd_T51 l0 x20_2).f2.f0) * a1_0)) (wrap64 (((rd_T51 l0 x20_2).f2.f1) * a1_1)) t157 t158 _ A37.out).mono ?_
          rintro e w43 ⟨rfl, hb⟩
          refine ⟨_, rfl, ?_⟩
          replace HO_6 := mk_ (Kd.R_below (rr_ HO_6) hb)
          replace BK140 := mk_ (blk_below (kk_ BK140) hb)
          replace BK144 := mk_ (blk_below (kk_ BK144) hb)
          replace HB := mk_ (below_step (bs2_ HB GE140 GE144) hb)
          (try clear hb)
          refine hK.out _ _ ⟨(blk_cell BK144.out 0).trans rfl, (blk_cell BK144.out 1).trans rfl, (blk_cell BK144.out 2).trans rfl, (blk_cell BK144.out 3).trans rfl, (blk_cell BK144.out 4).trans rfl, (blk_cell BK140.out 0).trans rfl, (blk_cell BK140.out 1).trans rfl⟩ (fun hHeld => ?_)
          clear hK K
          refine norm_ (a' := ?_) ?_ ?_
          rotate_left
          ·show Act.put _ (some 72) _ = _
           simp only [Act.put, sI_, s0_, sS_, i64_w, i32_w]
           rfl
          refine pu_ 28 73 (w_ 31 536870911) rfl HT_ ?_
          refine one_ (i := 29) (N := some 9) (w_ 31 1073741823) rfl rfl (one_of HT_.out (by kernel_rfl)) (by decide) (fun K hK => ?_)
          refine box_step ?hg (N := 9) ?hd (cs := #[.int .i64 0, .int .i64 0, .int .i64 0, .int .i64 0, .int .i64 0]) (t := 51) ?hr ?_; (case hd => rfl); (case hg => rfl); (case hr => first | (go_simp; done) | (go_simp; rfl))
          intro gb159 hg w44 hbox hb
          replace HO_6 := mk_ (Kd.R_below (Kd.R_elderB (rr_ HO_6) gb159 (Nat.le_of_eq hg.symm)) hb)
          have BK159 := mk_ (hbox)
          have GW159 := mk_ (bz_ hg (bs2_ HB GE140 GE144))
          have GE159 := mk_ (bz_ hg (bs2_ HB GE140 GE144))
          replace HB := mk_ (below_step (bs2_ HB GE140 GE144) hb)
          have NB140_159 := mk_ (bl_ hg (kk_ BK140))
          have NB159_140 := mk_ (bg_ hg (kk_ BK140))
          replace BK140 := mk_ (blk_below (kk_ BK140) hb)
          have NB144_159 := mk_ (bl_ hg (kk_ BK144))
          have NB159_144 := mk_ (bg_ hg (kk_ BK144))
          replace BK144 := mk_ (blk_below (kk_ BK144) hb)
          clear hb hbox hg
          refine hK.out _ _ ⟨(blk_cell BK144.out 0).trans rfl, (blk_cell BK144.out 1).trans rfl, (blk_cell BK144.out 2).trans rfl, (blk_cell BK144.out 3).trans rfl, (blk_cell BK144.out 4).trans rfl, (blk_cell BK140.out 0).trans rfl, (blk_cell BK140.out 1).trans rfl⟩ (fun hHeld => ?_)
          clear hK K
          refine norm_ (a' := ?_) ?_ ?_
          rotate_left
          ·show Act.put _ (some 9) _ = _
           simp only [Act.put, sI_, s0_, sS_, i64_w, i32_w]
           rfl
          exact norm_ (by simp only [putAll, Act.put, sI_, s0_, sS_]) (hCont (gb159) _ ⟨hHeld, (rr_ HO_6), (kk_ BK140), (kk_ BK144), (kk_ BK159), GW159.out, GE159.out, NB140_159.out, NB159_140.out, NB144_159.out, NB159_144.out, (bs3_ HB GE140 GE144 GE159)⟩)
         ·skip
          refine box_step ?hg (N := 9) ?hd (cs := #[.int .i64 0, .int .i64 0, .int .i64 0, .int .i64 0, .int .i64 0]) (t := 51) ?hr ?_; (case hd => rfl); (case hg => rfl); (case hr => first | (go_simp; done) | (go_simp; rfl))
          intro gb159 hg w43 hbox hb
          replace HO_6 := mk_ (Kd.R_below (Kd.R_elderB (rr_ HO_6) gb159 (Nat.le_of_eq hg.symm)) hb)
          have BK159 := mk_ (hbox)
          have GW159 := mk_ (bz_ hg (bs2_ HB GE140 GE144))
          have GE159 := mk_ (bz_ hg (bs2_ HB GE140 GE144))
          replace HB := mk_ (below_step (bs2_ HB GE140 GE144) hb)
          have NB140_159 := mk_ (bl_ hg (kk_ BK140))
          have NB159_140 := mk_ (bg_ hg (kk_ BK140))
          replace BK140 := mk_ (blk_below (kk_ BK140) hb)
          have NB144_159 := mk_ (bl_ hg (kk_ BK144))
          have NB159_144 := mk_ (bg_ hg (kk_ BK144))
          replace BK144 := mk_ (blk_below (kk_ BK144) hb)
          clear hb hbox hg
          refine hK.out _ _ ⟨(blk_cell BK144.out 0).trans rfl, (blk_cell BK144.out 1).trans rfl, (blk_cell BK144.out 2).trans rfl, (blk_cell BK144.out 3).trans rfl, (blk_cell BK144.out 4).trans rfl, (blk_cell BK140.out 0).trans rfl, (blk_cell BK140.out 1).trans rfl⟩ (fun hHeld => ?_)
          clear hK K
          refine norm_ (a' := ?_) ?_ ?_
          rotate_left
          ·show Act.put _ (some 9) _ = _
           simp only [Act.put, sI_, s0_, sS_, i64_w, i32_w]
           rfl
          refine one_ (i := 27) (N := some 72) (w_ 31 805306367) rfl rfl (one_of HT_.out (by kernel_rfl)) (by decide) (fun K hK => ?_)
          refine goes_ Try.func35 (by kernel_rfl) rfl #[.int .i64 (wrap64 (((rd_T51 l0 x20_2).f2.f0) * a1_0)), .int .i64 (wrap64 (((rd_T51 l0 x20_2).f2.f1) * a1_1))] (by rfl) rfl rfl (by (try simp only [List.map_toArray, List.map_cons, List.map_nil]); first | done | rfl | (simp only [List.length_drop, List.length_take]; rfl)) ?_
          with_reducible refine (piecewise_lowest.calls kj15 (wrap64 (((rd_T51 l0 x20_2).f2.f0) * a1_0)) (wrap64 (((rd_T51 l0 x20_2).f2.f1) * a1_1)) t157 t158 _ A37.out).mono ?_
          rintro e w44 ⟨rfl, hb⟩
          refine ⟨_, rfl, ?_⟩
          replace HO_6 := mk_ (Kd.R_below (rr_ HO_6) hb)
          replace BK140 := mk_ (blk_below (kk_ BK140) hb)
          replace BK144 := mk_ (blk_below (kk_ BK144) hb)
          replace BK159 := mk_ (blk_below (kk_ BK159) hb)
          replace HB := mk_ (below_step (bs3_ HB GE140 GE144 GE159) hb)
          (try clear hb)
          refine hK.out _ _ ⟨(blk_cell BK144.out 0).trans rfl, (blk_cell BK144.out 1).trans rfl, (blk_cell BK144.out 2).trans rfl, (blk_cell BK144.out 3).trans rfl, (blk_cell BK144.out 4).trans rfl, (blk_cell BK140.out 0).trans rfl, (blk_cell BK140.out 1).trans rfl⟩ (fun hHeld => ?_)
          clear hK K
          refine norm_ (a' := ?_) ?_ ?_
          rotate_left
          ·show Act.put _ (some 72) _ = _
           simp only [Act.put, sI_, s0_, sS_, i64_w, i32_w]
           rfl
          refine pu_ 28 73 (w_ 31 1073741823) rfl HT_ ?_
          exact norm_ (by simp only [putAll, Act.put, sI_, s0_, sS_]) (hCont (gb159) _ ⟨hHeld, (rr_ HO_6), (kk_ BK140), (kk_ BK144), (kk_ BK159), GW159.out, GE159.out, NB140_159.out, NB159_140.out, NB144_159.out, NB159_144.out, (bs3_ HB GE140 GE144 GE159)⟩)
        ·skip
         refine box_step ?hg (N := 9) ?hd (cs := #[.int .i64 0, .int .i64 0, .int .i64 0, .int .i64 0, .int .i64 0]) (t := 51) ?hr ?_; (case hd => rfl); (case hg => rfl); (case hr => first | (go_simp; done) | (go_simp; rfl))
         intro gb159 hg w42 hbox hb
         replace HO_6 := mk_ (Kd.R_below (Kd.R_elderB (rr_ HO_6) gb159 (Nat.le_of_eq hg.symm)) hb)
         have BK159 := mk_ (hbox)
         have GW159 := mk_ (bz_ hg (bs2_ HB GE140 GE144))
         have GE159 := mk_ (bz_ hg (bs2_ HB GE140 GE144))
         replace HB := mk_ (below_step (bs2_ HB GE140 GE144) hb)
         have NB140_159 := mk_ (bl_ hg (kk_ BK140))
         have NB159_140 := mk_ (bg_ hg (kk_ BK140))
         replace BK140 := mk_ (blk_below (kk_ BK140) hb)
         have NB144_159 := mk_ (bl_ hg (kk_ BK144))
         have NB159_144 := mk_ (bg_ hg (kk_ BK144))
         replace BK144 := mk_ (blk_below (kk_ BK144) hb)
         clear hb hbox hg
         refine hK.out _ _ ⟨(blk_cell BK144.out 0).trans rfl, (blk_cell BK144.out 1).trans rfl, (blk_cell BK144.out 2).trans rfl, (blk_cell BK144.out 3).trans rfl, (blk_cell BK144.out 4).trans rfl, (blk_cell BK140.out 0).trans rfl, (blk_cell BK140.out 1).trans rfl⟩ (fun hHeld => ?_)
         clear hK K
         refine norm_ (a' := ?_) ?_ ?_
         rotate_left
         ·show Act.put _ (some 9) _ = _
          simp only [Act.put, sI_, s0_, sS_, i64_w, i32_w]
          rfl
         refine one_ (i := 14) (N := some 59) (w_ 31 671088639) rfl rfl (one_of HT_.out (by kernel_rfl)) (by decide) (fun K hK => ?_)
         refine goes_ Try.func35 (by kernel_rfl) rfl #[.int .i64 (wrap64 (((rd_T51 l0 x20_2).f1.f0) * a1_0)), .int .i64 (wrap64 (((rd_T51 l0 x20_2).f1.f1) * a1_1))] (by rfl) rfl rfl (by (try simp only [List.map_toArray, List.map_cons, List.map_nil]); first | done | rfl | (simp only [List.length_drop, List.length_take]; rfl)) ?_
         with_reducible refine (piecewise_lowest.calls kj15 (wrap64 (((rd_T51 l0 x20_2).f1.f0) * a1_0)) (wrap64 (((rd_T51 l0 x20_2).f1.f1) * a1_1)) t155 t156 _ A36.out).mono ?_
         rintro e w43 ⟨rfl, hb⟩
         refine ⟨_, rfl, ?_⟩
         replace HO_6 := mk_ (Kd.R_below (rr_ HO_6) hb)
         replace BK140 := mk_ (blk_below (kk_ BK140) hb)
         replace BK144 := mk_ (blk_below (kk_ BK144) hb)
         replace BK159 := mk_ (blk_below (kk_ BK159) hb)
         replace HB := mk_ (below_step (bs3_ HB GE140 GE144 GE159) hb)
         (try clear hb)
         refine hK.out _ _ ⟨(blk_cell BK144.out 0).trans rfl, (blk_cell BK144.out 1).trans rfl, (blk_cell BK144.out 2).trans rfl, (blk_cell BK144.out 3).trans rfl, (blk_cell BK144.out 4).trans rfl, (blk_cell BK140.out 0).trans rfl, (blk_cell BK140.out 1).trans rfl⟩ (fun hHeld => ?_)
         clear hK K
         refine norm_ (a' := ?_) ?_ ?_
         rotate_left
         ·show Act.put _ (some 59) _ = _
          simp only [Act.put, sI_, s0_, sS_, i64_w, i32_w]
          rfl
         refine one_ (i := 27) (N := some 72) (w_ 31 805306367) rfl rfl (one_of HT_.out (by kernel_rfl)) (by decide) (fun K hK => ?_)
         refine goes_ Try.func35 (by kernel_rfl) rfl #[.int .i64 (wrap64 (((rd_T51 l0 x20_2).f2.f0) * a1_0)), .int .i64 (wrap64 (((rd_T51 l0 x20_2).f2.f1) * a1_1))] (by rfl) rfl rfl (by (try simp only [List.map_toArray, List.map_cons, List.map_nil]); first | done | rfl | (simp only [List.length_drop, List.length_take]; rfl)) ?_
         with_reducible refine (piecewise_lowest.calls kj15 (wrap64 (((rd_T51 l0 x20_2).f2.f0) * a1_0)) (wrap64 (((rd_T51 l0 x20_2).f2.f1) * a1_1)) t157 t158 _ A37.out).mono ?_
         rintro e w44 ⟨rfl, hb⟩
         refine ⟨_, rfl, ?_⟩
         replace HO_6 := mk_ (Kd.R_below (rr_ HO_6) hb)
         replace BK140 := mk_ (blk_below (kk_ BK140) hb)
         replace BK144 := mk_ (blk_below (kk_ BK144) hb)
         replace BK159 := mk_ (blk_below (kk_ BK159) hb)
         replace HB := mk_ (below_step (bs3_ HB GE140 GE144 GE159) hb)
         (try clear hb)
         refine hK.out _ _ ⟨(blk_cell BK144.out 0).trans rfl, (blk_cell BK144.out 1).trans rfl, (blk_cell BK144.out 2).trans rfl, (blk_cell BK144.out 3).trans rfl, (blk_cell BK144.out 4).trans rfl, (blk_cell BK140.out 0).trans rfl, (blk_cell BK140.out 1).trans rfl⟩ (fun hHeld => ?_)
         clear hK K
         refine norm_ (a' := ?_) ?_ ?_
         rotate_left
         ·show Act.put _ (some 72) _ = _
          simp only [Act.put, sI_, s0_, sS_, i64_w, i32_w]
          rfl
         refine pu_ 28 73 (w_ 31 1073741823) rfl HT_ ?_
         exact norm_ (by simp only [putAll, Act.put, sI_, s0_, sS_]) (hCont (gb159) _ ⟨hHeld, (rr_ HO_6), (kk_ BK140), (kk_ BK144), (kk_ BK159), GW159.out, GE159.out, NB140_159.out, NB159_140.out, NB144_159.out, NB159_144.out, (bs3_ HB GE140 GE144 GE159)⟩)
       rintro gb159 w45 ⟨hS_, h0_, h1_, h2_, h3_, h4_, h5_, h6_, h7_, h8_, h9_, h10_⟩
       have n0_ : Aside0 (Kd.R k51 51 w45 w.heap.size (fun k_ => k_ ≠ gb144 ∧ k_ ≠ gb159) u6 x6_2) := ⟨h0_⟩
       have n1_ : Aside0 (w45.heap[gb140]? = some (.cells #[.int .i64 a1_0, .int .i64 a1_1] 24 (0, 0))) := ⟨h1_⟩
       have n2_ : Aside0 (w45.heap[gb144]? = some (.cells #[.int .i64 ((rd_T51 l0 x20_2).f0), .int .i64 ((rd_T51 l0 x20_2).f1.f0), .int .i64 ((rd_T51 l0 x20_2).f1.f1), .int .i64 ((rd_T51 l0 x20_2).f2.f0), .int .i64 ((rd_T51 l0 x20_2).f2.f1)] 51 (0, 0))) := ⟨h2_⟩
       have n3_ : Aside0 (w45.heap[gb159]? = some (.cells #[.int .i64 0, .int .i64 0, .int .i64 0, .int .i64 0, .int .i64 0] 51 (0, 0))) := ⟨h3_⟩
       have n4_ : Aside0 (w.heap.size ≤ gb159) := ⟨h4_⟩
       have n5_ : Aside0 (w.heap.size ≤ gb159) := ⟨h5_⟩
       have n6_ : Aside0 (gb140 ≠ gb159) := ⟨h6_⟩
       have n7_ : Aside0 (gb159 ≠ gb140) := ⟨h7_⟩
       have n8_ : Aside0 (gb144 ≠ gb159) := ⟨h8_⟩
       have n9_ : Aside0 (gb159 ≠ gb144) := ⟨h9_⟩
       have n10_ : Aside0 (Below w.heap.size w w45) := ⟨h10_⟩
       clear HO_6
       clear BK140
       clear BK144
       clear HB
       clear h0_ h1_ h2_ h3_ h4_ h5_ h6_ h7_ h8_ h9_ h10_
       have HO_6 := n0_
       have BK140 := n1_
       have BK144 := n2_
       have BK159 := n3_
       have GW159 := n4_
       have GE159 := n5_
       have NB140_159 := n6_
       have NB159_140 := n7_
       have NB144_159 := n8_
       have NB159_144 := n9_
       have HB := n10_
       clear n0_ n1_ n2_ n3_ n4_ n5_ n6_ n7_ n8_ n9_ n10_
       have hHeld : w45.cell? ⟨gb144, 0, none⟩ = some (.int .i64 ((rd_T51 l0 x20_2).f0)) ∧ w45.cell? ⟨gb144, 1, none⟩ = some (.int .i64 ((rd_T51 l0 x20_2).f1.f0)) ∧ w45.cell? ⟨gb144, 2, none⟩ = some (.int .i64 ((rd_T51 l0 x20_2).f1.f1)) ∧ w45.cell? ⟨gb144, 3, none⟩ = some (.int .i64 ((rd_T51 l0 x20_2).f2.f0)) ∧ w45.cell? ⟨gb144, 4, none⟩ = some (.int .i64 ((rd_T51 l0 x20_2).f2.f1)) ∧ w45.cell? ⟨gb140, 0, none⟩ = some (.int .i64 a1_0) ∧ w45.cell? ⟨gb140, 1, none⟩ = some (.int .i64 a1_1) := hS_
       refine norm_ (a' := ?_) ?_ ?_
       rotate_left
       ·simp only [putAll, Act.put, sI_, s0_, sS_]
        rfl
       refine one_ (i := 30) (N := none) (w_ 31 2147483647) rfl rfl (one_of HT_.out (by kernel_rfl)) (by decide) (fun K hK => ?_)
       have hs46 : w45.cell? ⟨gb159, 0, none⟩ = some (.int .i64 0) := (blk_cell BK159.out 0).trans rfl
       have hfs46 := blk_frozen BK159.out 0
       have hns46_0 := NB140_159.out
       have hns46_1 := NB144_159.out
       have hms46_0 := NB159_140.out
       have hms46_1 := NB159_144.out
       have hs47 : w45.cell? ⟨gb159, 1, none⟩ = some (.int .i64 0) := (blk_cell BK159.out 1).trans rfl
       have hfs47 := blk_frozen BK159.out 1
       have hns47_0 := NB140_159.out
       have hns47_1 := NB144_159.out
       have hms47_0 := NB159_140.out
       have hms47_1 := NB159_144.out
       have hs48 : w45.cell? ⟨gb159, 2, none⟩ = some (.int .i64 0) := (blk_cell BK159.out 2).trans rfl
       have hfs48 := blk_frozen BK159.out 2
       have hns48_0 := NB140_159.out
       have hns48_1 := NB144_159.out
       have hms48_0 := NB159_140.out
       have hms48_1 := NB159_144.out
       have hs49 : w45.cell? ⟨gb159, 3, none⟩ = some (.int .i64 0) := (blk_cell BK159.out 3).trans rfl
       have hfs49 := blk_frozen BK159.out 3
       have hns49_0 := NB140_159.out
       have hns49_1 := NB144_159.out
       have hms49_0 := NB159_140.out
       have hms49_1 := NB159_144.out
       have hs50 : w45.cell? ⟨gb159, 4, none⟩ = some (.int .i64 0) := (blk_cell BK159.out 4).trans rfl
       have hfs50 := blk_frozen BK159.out 4
       have hns50_0 := NB140_159.out
       have hns50_1 := NB144_159.out
       have hms50_0 := NB159_140.out
       have hms50_1 := NB159_144.out
       refine skip_ (w1 := ?_) (by rfl) rfl ?_ ?_
       rotate_left
       ·go_simp
        rfl
       refine hK.out _ _ ⟨((cell_far (p := ⟨gb159, _, none⟩) NB144_159.out _).trans (((cell_far (p := ⟨gb159, _, none⟩) NB144_159.out _).trans (((cell_far (p := ⟨gb159, _, none⟩) NB144_159.out _).trans (((cell_far (p := ⟨gb159, _, none⟩) NB144_159.out _).trans (((cell_far (p := ⟨gb159, _, none⟩) NB144_159.out _).trans (hHeld.1)))))))))), ((cell_far (p := ⟨gb159, _, none⟩) NB144_159.out _).trans (((cell_far (p := ⟨gb159, _, none⟩) NB144_159.out _).trans (((cell_far (p := ⟨gb159, _, none⟩) NB144_159.out _).trans (((cell_far (p := ⟨gb159, _, none⟩) NB144_159.out _).trans (((cell_far (p := ⟨gb159, _, none⟩) NB144_159.out _).trans (hHeld.2.1)))))))))), ((cell_far (p := ⟨gb159, _, none⟩) NB144_159.out _).trans (((cell_far (p := ⟨gb159, _, none⟩) NB144_159.out _).trans (((cell_far (p := ⟨gb159, _, none⟩) NB144_159.out _).trans (((cell_far (p := ⟨gb159, _, none⟩) NB144_159.out _).trans (((cell_far (p := ⟨gb159, _, none⟩) NB144_159.out _).trans (hHeld.2.2.1)))))))))), ((cell_far (p := ⟨gb159, _, none⟩) NB144_159.out _).trans (((cell_far (p := ⟨gb159, _, none⟩) NB144_159.out _).trans (((cell_far (p := ⟨gb159, _, none⟩) NB144_159.out _).trans (((cell_far (p := ⟨gb159, _, none⟩) NB144_159.out _).trans (((cell_far (p := ⟨gb159, _, none⟩) NB144_159.out _).trans (hHeld.2.2.2.1)))))))))), ((cell_far (p := ⟨gb159, _, none⟩) NB144_159.out _).trans (((cell_far (p := ⟨gb159, _, none⟩) NB144_159.out _).trans (((cell_far (p := ⟨gb159, _, none⟩) NB144_159.out _).trans (((cell_far (p := ⟨gb159, _, none⟩) NB144_159.out _).trans (((cell_far (p := ⟨gb159, _, none⟩) NB144_159.out _).trans (hHeld.2.2.2.2.1)))))))))), ((cell_far (p := ⟨gb159, _, none⟩) NB140_159.out _).trans (((cell_far (p := ⟨gb159, _, none⟩) NB140_159.out _).trans (((cell_far (p := ⟨gb159, _, none⟩) NB140_159.out _).trans (((cell_far (p := ⟨gb159, _, none⟩) NB140_159.out _).trans (((cell_far (p := ⟨gb159, _, none⟩) NB140_159.out _).trans (hHeld.2.2.2.2.2.1)))))))))), ((cell_far (p := ⟨gb159, _, none⟩) NB140_159.out _).trans (((cell_far (p := ⟨gb159, _, none⟩) NB140_159.out _).trans (((cell_far (p := ⟨gb159, _, none⟩) NB140_159.out _).trans (((cell_far (p := ⟨gb159, _, none⟩) NB140_159.out _).trans (((cell_far (p := ⟨gb159, _, none⟩) NB140_159.out _).trans (hHeld.2.2.2.2.2.2))))))))))⟩ (fun hHeld => ?_)
       clear hK K
       refine done_ (done_of HT_.out (by kernel_rfl)) ?_
       have H := Hmc39_.out
       clear Hmc39_
       by_cases c39 : t160 = true
       rotate_left
       ·replace c39 := Bool.eq_false_iff.mpr c39
        subst c39
        have H1 : (some (([] : List (S51)), 3)) = some (r1, r2) := by rw [if_neg (show ¬ (false = true) by decide)] at H; exact H
        clear H
        have H := H1
        clear H1
        simp only [Option.some.injEq, Prod.mk.injEq] at H
        obtain ⟨rfl, rfl⟩ := H
        have hnb51 := NB159_140.out
        have hnc51 := NB140_159.out
        have hnb52 := NB159_144.out
        have hnc52 := NB144_159.out
        have hcz53_0 := bc0_ BK159.out
        have hcz53_1 := bc1_ BK159.out
        have hcz53_2 := bc2_ BK159.out
        have hcz53_3 : w45.cell? ⟨gb159, 3, none⟩ = some (.int .i64 0) := (blk_cell BK159.out 3).trans rfl
        have hcz53_4 : w45.cell? ⟨gb159, 4, none⟩ = some (.int .i64 0) := (blk_cell BK159.out 4).trans rfl
        have hfz53_0 := blk_frozen BK159.out 0
        have hfz53_1 := blk_frozen BK159.out 1
        have hfz53_2 := blk_frozen BK159.out 2
        have hfz53_3 := blk_frozen BK159.out 3
        have hfz53_4 := blk_frozen BK159.out 4
        try go_wp2_with (first | ((with_reducible refine gate_callee (f := 38) rfl ?_); refine gl_ (some 75) Try.func38 #[.agg #[.int .i64 ((rd_T51 l0 x20_2).f0), .int .i64 t155, .int .i64 t156, .int .i64 t157, .int .i64 t158]] ?_; (with_reducible refine (piecewise_numbers.calls ((rd_T51 l0 x20_2).f0) t155 t156 t157 t158 false _ A38.out).mono ?_); rintro e w70 ⟨rfl, hb⟩; refine ⟨_, rfl, ?_⟩; replace HO_6 := mk_ (Kd.R_below (by (with_reducible repeat (first | apply Kd.R_alloc | apply Kd.R_drewN | apply Kd.R_drew)); exact (Kd.R_mono (Kd.R_far (p := ⟨gb159, 4, none⟩) (Kd.R_far (p := ⟨gb159, 3, none⟩) (Kd.R_far (p := ⟨gb159, 2, none⟩) (Kd.R_far (p := ⟨gb159, 1, none⟩) (Kd.R_far (p := ⟨gb159, 0, none⟩) (Kd.R_mono HO_6.out (fun k_ hk => (⟨hk, hk.2⟩ : _ ∧ k_ ≠ gb159))) (fun _ hk => hk.2) (.int .i64 ((rd_T51 l0 x20_2).f0))) (fun _ hk => hk.2) (.int .i64 t155)) (fun _ hk => hk.2) (.int .i64 t156)) (fun _ hk => hk.2) (.int .i64 t157)) (fun _ hk => hk.2) (.int .i64 t158)) (fun _ h_ => h_.1))) hb); replace BK140 := mk_ (blk_below (g := gb140) (o := .cells #[.int .i64 a1_0, .int .i64 a1_1] 24 (0, 0)) (by (with_reducible repeat (first | refine blk_drewN ?_ _ | refine blk_drew ?_ | refine blk_alloc ?_ _)); refine blk_far ?_ NB140_159.out _; (with_reducible repeat (first | refine blk_drewN ?_ _ | refine blk_drew ?_ | refine blk_alloc ?_ _)); refine blk_far ?_ NB140_159.out _; (with_reducible repeat (first | refine blk_drewN ?_ _ | refine blk_drew ?_ | refine blk_alloc ?_ _)); refine blk_far ?_ NB140_159.out _; (with_reducible repeat (first | refine blk_drewN ?_ _ | refine blk_drew ?_ | refine blk_alloc ?_ _)); refine blk_far ?_ NB140_159.out _; (with_reducible repeat (first | refine blk_drewN ?_ _ | refine blk_drew ?_ | refine blk_alloc ?_ _)); refine blk_far ?_ NB140_159.out _; (with_reducible repeat (first | refine blk_drewN ?_ _ | refine blk_drew ?_ | refine blk_alloc ?_ _)); exact BK140.out) hb); replace BK144 := mk_ (blk_below (g := gb144) (o := .cells #[.int .i64 ((rd_T51 l0 x20_2).f0), .int .i64 ((rd_T51 l0 x20_2).f1.f0), .int .i64 ((rd_T51 l0 x20_2).f1.f1), .int .i64 ((rd_T51 l0 x20_2).f2.f0), .int .i64 ((rd_T51 l0 x20_2).f2.f1)] 51 (0, 0)) (by (with_reducible repeat (first | refine blk_drewN ?_ _ | refine blk_drew ?_ | refine blk_alloc ?_ _)); refine blk_far ?_ NB144_159.out _; (with_reducible repeat (first | refine blk_drewN ?_ _ | refine blk_drew ?_ | refine blk_alloc ?_ _)); refine blk_far ?_ NB144_159.out _; (with_reducible repeat (first | refine blk_drewN ?_ _ | refine blk_drew ?_ | refine blk_alloc ?_ _)); refine blk_far ?_ NB144_159.out _; (with_reducible repeat (first | refine blk_drewN ?_ _ | refine blk_drew ?_ | refine blk_alloc ?_ _)); refine blk_far ?_ NB144_159.out _; (with_reducible repeat (first | refine blk_drewN ?_ _ | refine blk_drew ?_ | refine blk_alloc ?_ _)); refine blk_far ?_ NB144_159.out _; (with_reducible repeat (first | refine blk_drewN ?_ _ | refine blk_drew ?_ | refine blk_alloc ?_ _)); exact BK144.out) hb); replace BK159 := mk_ (blk_below (g := gb159) (o := .cells #[.int .i64 ((rd_T51 l0 x20_2).f0), .int .i64 t155, .int .i64 t156, .int .i64 t157, .int .i64 t158] 51 (0, 0)) (by (with_reducible repeat (first | refine blk_drewN ?_ _ | refine blk_drew ?_ | refine blk_alloc ?_ _)); refine blk_put (cs := #[.int .i64 ((rd_T51 l0 x20_2).f0), .int .i64 t155, .int .i64 t156, .int .i64 t157, .int .i64 0]) ?_ 4 _ rfl; (with_reducible repeat (first | refine blk_drewN ?_ _ | refine blk_drew ?_ | refine blk_alloc ?_ _)); refine blk_put (cs := #[.int .i64 ((rd_T51 l0 x20_2).f0), .int .i64 t155, .int .i64 t156, .int .i64 0, .int .i64 0]) ?_ 3 _ rfl; (with_reducible repeat (first | refine blk_drewN ?_ _ | refine blk_drew ?_ | refine blk_alloc ?_ _)); refine blk_put (cs := #[.int .i64 ((rd_T51 l0 x20_2).f0), .int .i64 t155, .int .i64 0, .int .i64 0, .int .i64 0]) ?_ 2 _ rfl; (with_reducible repeat (first | refine blk_drewN ?_ _ | refine blk_drew ?_ | refine blk_alloc ?_ _)); refine blk_put (cs := #[.int .i64 ((rd_T51 l0 x20_2).f0), .int .i64 0, .int .i64 0, .int .i64 0, .int .i64 0]) ?_ 1 _ rfl; (with_reducible repeat (first | refine blk_drewN ?_ _ | refine blk_drew ?_ | refine blk_alloc ?_ _)); refine blk_put (cs := #[.int .i64 0, .int .i64 0, .int .i64 0, .int .i64 0, .int .i64 0]) ?_ 0 _ rfl; (with_reducible repeat (first | refine blk_drewN ?_ _ | refine blk_drew ?_ | refine blk_alloc ?_ _)); exact BK159.out) hb); replace HB := mk_ (below_step (bs3_ HB GE140 GE144 GE159) hb); (try clear hb)))
        go_ret2
        exact ⟨_, ew_, by first | exact Kd.R_nil _ _ _ _ _ | exact Kd.N_nil _ _ _ _ _ | exact Kd.V_nil _ _ _ _ _ | exact Kd.Q_nil _ _ _ _ _ | exact Kd.S_nil _ _ _ _ _, bs3_ HB GE140 GE144 GE159⟩
       subst c39
       have H1 : (if x6_2.length < 3518437208883 then (piecewise_Scale.l0 kj15 l0 (x6_2 ++ [(⟨((rd_T51 l0 x20_2).f0), (⟨t155, t156⟩ : S24), (⟨t157, t158⟩ : S24)⟩ : S51)]) l0 (l0.length : Int) (wrap64 (x20_2 + 1)) a1_0 a1_1) else (none)) = some (r1, r2) := by rw [if_pos rfl] at H; exact H
       clear H
       have H := H1
       clear H1
       by_cases c40 : x6_2.length < 3518437208883
       rotate_left
       ·rw [if_neg c40] at H
        exact absurd H (by simp)
       rw [if_pos c40] at H
       have LMc40 := mk_ c40
       clear c40
       obtain ⟨y161, hy161⟩ : ∃ y_ : List (S51), y_ = (x6_2 ++ [(⟨((rd_T51 l0 x20_2).f0), (⟨t155, t156⟩ : S24), (⟨t157, t158⟩ : S24)⟩ : S51)]) := ⟨_, rfl⟩
       replace H : (piecewise_Scale.l0 kj15 l0 y161 l0 (l0.length : Int) (wrap64 (x20_2 + 1)) a1_0 a1_1) = some (r1, r2) := by first | (rw [hy161]; with_reducible exact H) | (have H2_ := (Option.bind_some _ _).symm.trans H; rw [hy161]; with_reducible exact H2_) | (have H2_ := (Option.bind_some _ _).symm.trans H; with_reducible exact H2_) | with_reducible exact H | (rw [hy161]; exact H) | exact H
       have Ny161 := mk_ hy161
       clear hy161
       have H' := mk_ H
       clear H
       have hnb51 := NB159_140.out
       have hnc51 := NB140_159.out
       have hnb52 := NB159_144.out
       have hnc52 := NB144_159.out
       have hcz53_0 := bc0_ BK159.out
       have hcz53_1 := bc1_ BK159.out
       have hcz53_2 := bc2_ BK159.out
       have hcz53_3 : w45.cell? ⟨gb159, 3, none⟩ = some (.int .i64 0) := (blk_cell BK159.out 3).trans rfl
       have hcz53_4 : w45.cell? ⟨gb159, 4, none⟩ = some (.int .i64 0) := (blk_cell BK159.out 4).trans rfl
       have hfz53_0 := blk_frozen BK159.out 0
       have hfz53_1 := blk_frozen BK159.out 1
       have hfz53_2 := blk_frozen BK159.out 2
       have hfz53_3 := blk_frozen BK159.out 3
       have hfz53_4 := blk_frozen BK159.out 4
       try go_wp2_with (first | ((with_reducible refine gate_callee (f := 38) rfl ?_); refine gl_ (some 75) Try.func38 #[.agg #[.int .i64 ((rd_T51 l0 x20_2).f0), .int .i64 t155, .int .i64 t156, .int .i64 t157, .int .i64 t158]] ?_; (with_reducible refine (piecewise_numbers.calls ((rd_T51 l0 x20_2).f0) t155 t156 t157 t158 true _ A38.out).mono ?_); rintro e w54 ⟨rfl, hb⟩; refine ⟨_, rfl, ?_⟩; replace HO_6 := mk_ (Kd.R_below (by (with_reducible repeat (first | apply Kd.R_alloc | apply Kd.R_drewN | apply Kd.R_drew)); exact (Kd.R_mono (Kd.R_far (p := ⟨gb159, 4, none⟩) (Kd.R_far (p := ⟨gb159, 3, none⟩) (Kd.R_far (p := ⟨gb159, 2, none⟩) (Kd.R_far (p := ⟨gb159, 1, none⟩) (Kd.R_far (p := ⟨gb159, 0, none⟩) (Kd.R_mono HO_6.out (fun k_ hk => (⟨hk, hk.2⟩ : _ ∧ k_ ≠ gb159))) (fun _ hk => hk.2) (.int .i64 ((rd_T51 l0 x20_2).f0))) (fun _ hk => hk.2) (.int .i64 t155)) (fun _ hk => hk.2) (.int .i64 t156)) (fun _ hk => hk.2) (.int .i64 t157)) (fun _ hk => hk.2) (.int .i64 t158)) (fun _ h_ => h_.1))) hb); replace BK140 := mk_ (blk_below (g := gb140) (o := .cells #[.int .i64 a1_0, .int .i64 a1_1] 24 (0, 0)) (by (with_reducible repeat (first | refine blk_drewN ?_ _ | refine blk_drew ?_ | refine blk_alloc ?_ _)); refine blk_far ?_ NB140_159.out _; (with_reducible repeat (first | refine blk_drewN ?_ _ | refine blk_drew ?_ | refine blk_alloc ?_ _)); refine blk_far ?_ NB140_159.out _; (with_reducible repeat (first | refine blk_drewN ?_ _ | refine blk_drew ?_ | refine blk_alloc ?_ _)); refine blk_far ?_ NB140_159.out _; (with_reducible repeat (first | refine blk_drewN ?_ _ | refine blk_drew ?_ | refine blk_alloc ?_ _)); refine blk_far ?_ NB140_159.out _; (with_reducible repeat (first | refine blk_drewN ?_ _ | refine blk_drew ?_ | refine blk_alloc ?_ _)); refine blk_far ?_ NB140_159.out _; (with_reducible repeat (first | refine blk_drewN ?_ _ | refine blk_drew ?_ | refine blk_alloc ?_ _)); exact BK140.out) hb); replace BK144 := mk_ (blk_below (g := gb144) (o := .cells #[.int .i64 ((rd_T51 l0 x20_2).f0), .int .i64 ((rd_T51 l0 x20_2).f1.f0), .int .i64 ((rd_T51 l0 x20_2).f1.f1), .int .i64 ((rd_T51 l0 x20_2).f2.f0), .int .i64 ((rd_T51 l0 x20_2).f2.f1)] 51 (0, 0)) (by (with_reducible repeat (first | refine blk_drewN ?_ _ | refine blk_drew ?_ | refine blk_alloc ?_ _)); refine blk_far ?_ NB144_159.out _; (with_reducible repeat (first | refine blk_drewN ?_ _ | refine blk_drew ?_ | refine blk_alloc ?_ _)); refine blk_far ?_ NB144_159.out _; (with_reducible repeat (first | refine blk_drewN ?_ _ | refine blk_drew ?_ | refine blk_alloc ?_ _)); refine blk_far ?_ NB144_159.out _; (with_reducible repeat (first | refine blk_drewN ?_ _ | refine blk_drew ?_ | refine blk_alloc ?_ _)); refine blk_far ?_ NB144_159.out _; (with_reducible repeat (first | refine blk_drewN ?_ _ | refine blk_drew ?_ | refine blk_alloc ?_ _)); refine blk_far ?_ NB144_159.out _; (with_reducible repeat (first | refine blk_drewN ?_ _ | refine blk_drew ?_ | refine blk_alloc ?_ _)); exact BK144.out) hb); replace BK159 := mk_ (blk_below (g := gb159) (o := .cells #[.int .i64 ((rd_T51 l0 x20_2).f0), .int .i64 t155, .int .i64 t156, .int .i64 t157, .int .i64 t158] 51 (0, 0)) (by (with_reducible repeat (first | refine blk_drewN ?_ _ | refine blk_drew ?_ | refine blk_alloc ?_ _)); refine blk_put (cs := #[.int .i64 ((rd_T51 l0 x20_2).f0), .int .i64 t155, .int .i64 t156, .int .i64 t157, .int .i64 0]) ?_ 4 _ rfl; (with_reducible repeat (first | refine blk_drewN ?_ _ | refine blk_drew ?_ | refine blk_alloc ?_ _)); refine blk_put (cs := #[.int .i64 ((rd_T51 l0 x20_2).f0), .int .i64 t155, .int .i64 t156, .int .i64 0, .int .i64 0]) ?_ 3 _ rfl; (with_reducible repeat (first | refine blk_drewN ?_ _ | refine blk_drew ?_ | refine blk_alloc ?_ _)); refine blk_put (cs := #[.int .i64 ((rd_T51 l0 x20_2).f0), .int .i64 t155, .int .i64 0, .int .i64 0, .int .i64 0]) ?_ 2 _ rfl; (with_reducible repeat (first | refine blk_drewN ?_ _ | refine blk_drew ?_ | refine blk_alloc ?_ _)); refine blk_put (cs := #[.int .i64 ((rd_T51 l0 x20_2).f0), .int .i64 0, .int .i64 0, .int .i64 0, .int .i64 0]) ?_ 1 _ rfl; (with_reducible repeat (first | refine blk_drewN ?_ _ | refine blk_drew ?_ | refine blk_alloc ?_ _)); refine blk_put (cs := #[.int .i64 0, .int .i64 0, .int .i64 0, .int .i64 0, .int .i64 0]) ?_ 0 _ rfl; (with_reducible repeat (first | refine blk_drewN ?_ _ | refine blk_drew ?_ | refine blk_alloc ?_ _)); exact BK159.out) hb); replace HB := mk_ (below_step (bs3_ HB GE140 GE144 GE159) hb); (try clear hb); have hcz55_0 := bc0_ BK159.out; have hcz55_1 := bc1_ BK159.out; have hcz55_2 := bc2_ BK159.out; have hcz55_3 : w54.cell? ⟨gb159, 3, none⟩ = some (.int .i64 t157) := (blk_cell BK159.out 3).trans rfl; have hcz55_4 : w54.cell? ⟨gb159, 4, none⟩ = some (.int .i64 t158) := (blk_cell BK159.out 4).trans rfl; have hfz55_0 := blk_frozen BK159.out 0; have hfz55_1 := blk_frozen BK159.out 1; have hfz55_2 := blk_frozen BK159.out 2; have hfz55_3 := blk_frozen BK159.out 3; have hfz55_4 := blk_frozen BK159.out 4) | ((with_reducible refine gate_builtin (b := .append) (xs := #[.tmp 77, .tmp 79]) rfl ?_); at_builtin; refine Kd.R_append k51 (w0 := w) w.heap.size rfl (.tmp 77) (.tmp 79) 22 51 (.agg #[(.int .i64 0), (.int .i64 0), (.int .i64 0), (.int .i64 0), (.int .i64 0)]) 40 rfl Try.underlying22 info51 rfl (by decide) (by omega) u6 x6_2 (⟨((rd_T51 l0 x20_2).f0), (⟨t155, t156⟩ : S24), (⟨t157, t158⟩ : S24)⟩ : S51) [.int .i64 ((rd_T51 l0 x20_2).f0), .int .i64 t155, .int .i64 t156, .int .i64 t157, .int .i64 t158] (fun k_ => k_ ≠ gb144 ∧ k_ ≠ gb159) (fun _ => False) rfl rfl ?aP (fun _ hk => hk.elim) ?aF ?aO ?aB ?aS ?aL ?_; (case aP => exact k51_mkM _ _ _ (⟨((rd_T51 l0 x20_2).f0), (⟨t155, t156⟩ : S24), (⟨t157, t158⟩ : S24)⟩ : S51)); (case aB => exact (bs3_ HB GE140 GE144 GE159)); (case aF => exact (fun k_ hk => ⟨Kd.freshB (g := gb144) (o := .cells #[.int .i64 ((rd_T51 l0 x20_2).f0), .int .i64 ((rd_T51 l0 x20_2).f1.f0), .int .i64 ((rd_T51 l0 x20_2).f1.f1), .int .i64 ((rd_T51 l0 x20_2).f2.f0), .int .i64 ((rd_T51 l0 x20_2).f2.f1)] 51 (0, 0)) (kk_ BK144) k_ hk, Kd.freshB (g := gb159) (o := .cells #[.int .i64 ((rd_T51 l0 x20_2).f0), .int .i64 t155, .int .i64 t156, .int .i64 t157, .int .i64 t158] 51 (0, 0)) (kk_ BK159) k_ hk⟩)); (case aO => exact (rr_ HO_6)); (case aS => exact (below_size (bs3_ HB GE140 GE144 GE159))); (case aL => have := LMc40.out; omega); intro v162 w56 ho hb hg hat; rw [← Ny161.out] at ho; have n0_ := mk_ (blk_grown (kk_ BK140) hg (Kd.R_ne HO_6.out BK140.out (by decide))); have n1_ := mk_ (blk_grown (kk_ BK144) hg (Kd.R_away HO_6.out (fun _ hk => hk.1))); have n2_ := mk_ (blk_grown (kk_ BK159) hg (Kd.R_away HO_6.out (fun _ hk => hk.2))); have n3_ := mk_ (hb); have n4_ := mk_ (ho); clear BK140 BK144 BK159 HB HO_6; revert n0_ n1_ n2_ n3_ n4_; intro BK140 BK144 BK159 HB HO163; clear ho hb hg hat))
       go_roundg kj15
       case measure => have := HJ2.out; have := HK2.out; have := HJ15.out; omega
       case rel => exact ⟨(y161), (wrap64 (x20_2 + 1)), sd_, H', ⟨by have := HJ2.out; have := HK2.out; have := HJ15.out; omega⟩, ⟨by (with_reducible repeat (first | apply Kd.R_alloc | apply Kd.R_drewN | apply Kd.R_drew)); exact Kd.R_mono HO163.out (fun _ hk => trivial)⟩, ⟨kk_ BK140⟩, ⟨bs3_ HB GE140 GE144 GE159⟩⟩
end
section
def piecewise_line_less.f (a0_0 : Int) (a0_1 : Int) (a0_2 : Int) (a0_3 : Int) (a1_0 : Int) (a1_1 : Int) (a1_2 : Int) (a1_3 : Int) (a2 : Int) : Option (Bool) := (piecewise_line_at.f a0_0 a0_1 a0_2 a0_3 a2).bind fun t166 => ((piecewise_line_at.f a1_0 a1_1 a1_2 a1_3 a2).bind fun t167 => (some (decide ((wrap64 (t166 * a1_2)) < (wrap64 (t167 * a0_2))))))
def piecewise_line_less.T1 : Bool × List (List Nat × List Nat) := (true, [([], []), ([], []), ([0, 1], [0, 1]), ([], []), ([3], [3]), ([2, 4], [2, 4]), ([], []), ([], []), ([6, 7, 2], [6, 7]), ([], []), ([9], [9]), ([8, 10], [8, 10]), ([5, 11], [5, 11]), ([12, 8, 0, 1, 2, 3, 4, 5, 6, 7, 8, 9, 10, 11, 12], [12])])
def piecewise_line_less.B1 : List Nat := [0, 0, 3, 0, 8, 31, 0, 0, 199, 0, 512, 1991, 4095, 8191]
theorem piecewise_line_less.tab1 : rtab .any (opsOf Try.f49 1) = piecewise_line_less.T1 := by kernel_rfl
theorem piecewise_line_less.bits1 : waitsOk piecewise_line_less.T1.2 piecewise_line_less.B1 = true := by kernel_rfl
theorem piecewise_line_less.calls (a0_0 : Int) (a0_1 : Int) (a0_2 : Int) (a0_3 : Int) (a1_0 : Int) (a1_1 : Int) (a1_2 : Int) (a1_3 : Int) (a2 : Int) (r : Bool) (w : World) (h : piecewise_line_less.f a0_0 a0_1 a0_2 a0_3 a1_0 a1_1 a1_2 a1_3 a2 = some r) :
  Calls Try.prog 49 #[.agg #[.int .i64 a0_0, .int .i64 a0_1, .int .i64 a0_2, .int .i64 a0_3], .agg #[.int .i64 a1_0, .int .i64 a1_1, .int .i64 a1_2, .int .i64 a1_3], .int .i64 a2] w fun e w' => e = .returned (.bool r) ∧ Below w.heap.size w w' := by
 have hu54 := Try.underlying54
 have HB := mk_ (Below.refl w.heap.size w)
 have H : ((piecewise_line_at.f a0_0 a0_1 a0_2 a0_3 a2).bind fun t166 => ((piecewise_line_at.f a1_0 a1_1 a1_2 a1_3 a2).bind fun t167 => (some (decide ((wrap64 (t166 * a1_2)) < (wrap64 (t167 * a0_2))))))) = some r := h
 clear h
 replace H := Option.bind_eq_some_iff.mp H
 obtain ⟨t166, A40, H⟩ := H
 replace H : ((piecewise_line_at.f a1_0 a1_1 a1_2 a1_3 a2).bind fun t167 => (some (decide ((wrap64 (t166 * a1_2)) < (wrap64 (t167 * a0_2)))))) = some r := H
 have A4 := mk_ A40
 clear A40
 replace H := Option.bind_eq_some_iff.mp H
 obtain ⟨t167, A50, H⟩ := H
 replace H : (some (decide ((wrap64 (t166 * a1_2)) < (wrap64 (t167 * a0_2))))) = some r := H
 have A5 := mk_ A50
 clear A50
 obtain rfl := Option.some.inj H
 go_enter Try.func49, Try.ntmps49
 try go_wp2_with (first | ((with_reducible refine gate_dst (N := 3) rfl ?_); refine box_event ?hg (N := 3) ?hd (cs := #[.int .i64 a0_0, .int .i64 a0_1, .int .i64 a0_2, .int .i64 a0_3]) (t := 54) ?hr ?_; (case hd => rfl); (case hg => rfl); (case hr => first | (go_simp; done) | (go_simp; rfl)); intro gb164 hg w6 hbox hb; have BK164 := mk_ (hbox); have GW164 := mk_ (bz_ hg (bb_ HB)); have GE164 := mk_ (bz_ hg (bb_ HB)); replace HB := mk_ (below_step (bb_ HB) hb); clear hb hbox hg) | ((with_reducible refine gate_dst (N := 4) rfl ?_); refine box_event ?hg (N := 4) ?hd (cs := #[.int .i64 a1_0, .int .i64 a1_1, .int .i64 a1_2, .int .i64 a1_3]) (t := 54) ?hr ?_; (case hd => rfl); (case hg => rfl); (case hr => first | (go_simp; done) | (go_simp; rfl)); intro gb165 hg w7 hbox hb; have BK165 := mk_ (hbox); have GW165 := mk_ (bz_ hg (bs_ HB GE164.out)); have GE165 := mk_ (bz_ hg (bs_ HB GE164.out)); replace HB := mk_ (below_step (bs_ HB GE164.out) hb); have NB164_165 := mk_ (bl_ hg (kk_ BK164)); have NB165_164 := mk_ (bg_ hg (kk_ BK164)); replace BK164 := mk_ (blk_below (kk_ BK164) hb); clear hb hbox hg))
 replace BK164 := mk_ (blk_drew BK164.out)
 replace BK165 := mk_ (blk_drew BK165.out)
 replace HB := mk_ (below_drew1 HB.out)
 refine start_ (n := 14) (S := fun w' => w'.cell? ⟨gb164, 0, none⟩ = some (.int .i64 a0_0) ∧ w'.cell? ⟨gb164, 1, none⟩ = some (.int .i64 a0_1) ∧ w'.cell? ⟨gb164, 2, none⟩ = some (.int .i64 a0_2) ∧ w'.cell? ⟨gb164, 3, none⟩ = some (.int .i64 a0_3) ∧ w'.cell? ⟨gb165, 0, none⟩ = some (.int .i64 a1_0) ∧ w'.cell? ⟨gb165, 1, none⟩ = some (.int .i64 a1_1) ∧ w'.cell? ⟨gb165, 2, none⟩ = some (.int .i64 a1_2) ∧ w'.cell? ⟨gb165, 3, none⟩ = some (.int .i64 a1_3)) (ds := []) #[n_, n_, n_, n_, n_, n_, n_, n_, n_, n_, n_, n_, n_, n_] (by kernel_rfl) rfl rfl ⟨(blk_cell BK164.out 0).trans rfl, (blk_cell BK164.out 1).trans rfl, (blk_cell BK164.out 2).trans rfl, (blk_cell BK164.out 3).trans rfl, (blk_cell BK165.out 0).trans rfl, (blk_cell BK165.out 1).trans rfl, (blk_cell BK165.out 2).trans rfl, (blk_cell BK165.out 3).trans rfl⟩ (fun hHeld => ?_); refine with_tabW piecewise_line_less.tab1 piecewise_line_less.bits1 (fun HT_ HW_ => ?_)
 generalize w7.drew = w8 at BK164 BK165 HB hHeld ⊢
 refine pu_ 1 8 (w_ 14 2) rfl HT_ ?_
 refine pu_ 3 10 (w_ 14 10) rfl HT_ ?_
 refine pu_ 7 14 (w_ 14 138) rfl HT_ ?_
 refine pu_ 9 16 (w_ 14 650) rfl HT_ ?_
 refine ta_ 0 7 (w_ 14 651) rfl HT_ HW_ hHeld (by rintro w' ⟨s0, s1, s2, s3, s4, s5, s6, s7⟩; go_simp; with_reducible rfl) ?_
 refine ta_ 4 11 (w_ 14 667) rfl HT_ HW_ hHeld (by rintro w' ⟨s0, s1, s2, s3, s4, s5, s6, s7⟩; go_simp; with_reducible rfl) ?_
 refine ta_ 6 13 (w_ 14 731) rfl HT_ HW_ hHeld (by rintro w' ⟨s0, s1, s2, s3, s4, s5, s6, s7⟩; go_simp; with_reducible rfl) ?_
 refine ta_ 10 17 (w_ 14 1755) rfl HT_ HW_ hHeld (by rintro w' ⟨s0, s1, s2, s3, s4, s5, s6, s7⟩; go_simp; with_reducible rfl) ?_
 refine one_ (i := 2) (N := some 9) (w_ 14 1759) rfl rfl (one_of HT_.out (by kernel_rfl)) (by decide) (fun K hK => ?_)
 refine goes_ Try.func36 (by kernel_rfl) rfl #[.agg #[.int .i64 a0_0, .int .i64 a0_1, .int .i64 a0_2, .int .i64 a0_3], .int .i64 a2] (by rfl) rfl rfl (by (try simp only [List.map_toArray, List.map_cons, List.map_nil]); first | done | rfl | (simp only [List.length_drop, List.length_take]; rfl)) ?_
 with_reducible refine (piecewise_line_at.calls a0_0 a0_1 a0_2 a0_3 a2 t166 _ A4.out).mono ?_
 rintro e w9 ⟨rfl, hb⟩
 refine ⟨_, rfl, ?_⟩
 replace BK164 := mk_ (blk_below (kk_ BK164) hb)
 replace BK165 := mk_ (blk_below (kk_ BK165) hb)
 replace HB := mk_ (below_step (bs2_ HB GE164 GE165) hb)
 (try clear hb)
 refine hK.out _ _ ⟨(blk_cell BK164.out 0).trans rfl, (blk_cell BK164.out 1).trans rfl, (blk_cell BK164.out 2).trans rfl, (blk_cell BK164.out 3).trans rfl, (blk_cell BK165.out 0).trans rfl, (blk_cell BK165.out 1).trans rfl, (blk_cell BK165.out 2).trans rfl, (blk_cell BK165.out 3).trans rfl⟩ (fun hHeld => ?_)
 clear hK K
 refine norm_ (a' := ?_) ?_ ?_
 rotate_left
 ·show Act.put _ (some 9) _ = _
  simp only [Act.put, sI_, s0_, sS_, i64_w, i32_w]
  rfl
 refine pu_ 5 12 (w_ 14 1791) rfl HT_ ?_
 refine one_ (i := 8) (N := some 15) (w_ 14 2047) rfl rfl (one_of HT_.out (by kernel_rfl)) (by decide) (fun K hK => ?_)
 refine goes_ Try.func36 (by kernel_rfl) rfl #[.agg #[.int .i64 a1_0, .int .i64 a1_1, .int .i64 a1_2, .int .i64 a1_3], .int .i64 a2] (by rfl) rfl rfl (by (try simp only [List.map_toArray, List.map_cons, List.map_nil]); first | done | rfl | (simp only [List.length_drop, List.length_take]; rfl)) ?_
 with_reducible refine (piecewise_line_at.calls a1_0 a1_1 a1_2 a1_3 a2 t167 _ A5.out).mono ?_
 rintro e w10 ⟨rfl, hb⟩
 refine ⟨_, rfl, ?_⟩
 replace BK164 := mk_ (blk_below (kk_ BK164) hb)
 replace BK165 := mk_ (blk_below (kk_ BK165) hb)
 replace HB := mk_ (below_step (bs2_ HB GE164 GE165) hb)
 (try clear hb)
 refine hK.out _ _ ⟨(blk_cell BK164.out 0).trans rfl, (blk_cell BK164.out 1).trans rfl, (blk_cell BK164.out 2).trans rfl, (blk_cell BK164.out 3).trans rfl, (blk_cell BK165.out 0).trans rfl, (blk_cell BK165.out 1).trans rfl, (blk_cell BK165.out 2).trans rfl, (blk_cell BK165.out 3).trans rfl⟩ (fun hHeld => ?_)
 clear hK K
 refine norm_ (a' := ?_) ?_ ?_
 rotate_left
 ·show Act.put _ (some 15) _ = _
  simp only [Act.put, sI_, s0_, sS_, i64_w, i32_w]
  rfl
 refine pu_ 11 18 (w_ 14 4095) rfl HT_ ?_
 refine pu_ 12 19 (w_ 14 8191) rfl HT_ ?_
 refine pu_ 13 6 (w_ 14 16383) rfl HT_ ?_
 refine done_ (done_of HT_.out (by kernel_rfl)) ?_
 try go_wp2
 go_ret
 exact ⟨ew_, bs2_ HB GE164 GE165⟩
end
end Go.Proofs.Ytmhimmodigeeiaa.P
end
