/- Part 5 of the base that the seat's proofs share: words, walks and plain laws. -/
import Derived.Test.YtmhimmodigeeiaaCMd
set_option linter.unusedVariables false
set_option linter.unusedSimpArgs false
section
namespace Go.Proofs.Ytmhimmodigeeiaa.P
open Go.RowKit Go.Proofs.YtmhimmodigeeiaaW.PrintWords Go.Proofs.YtmhimmodigeeiaaW.PrintLast Go.Proofs.YtmhimmodigeeiaaW.PrintMore
attribute [local go_sem] max2_int min2_int max_two min_two max_three min_three max_four min_four
set_option linter.unusedVariables false
set_option linter.unusedSimpArgs false
set_option maxHeartbeats 8000000
set_option maxRecDepth 100000
section
open Go.Proofs.YtmhimmodigeeiaaH
def lessB (l m : LN) (x : Int) : Bool := decide (wrap64 (atL l x * m.d) < wrap64 (atL m x * l.d))
theorem lessB_calls (l m : LN) (x : Int) (w : World) : Calls Try.prog 49 #[.agg #[.int .i64 l.n, .int .i64 l.s, .int .i64 l.d, .int .i64 l.fr], .agg #[.int .i64 m.n, .int .i64 m.s, .int .i64 m.d, .int .i64 m.fr], .int .i64 x] w fun e w' => e = .returned (.bool (lessB l m x)) ∧ Below w.heap.size w w' :=
 piecewise_line_less.calls l.n l.s l.d l.fr m.n m.s m.d m.fr x _ w rfl
def leastP (s : ST) (over : Bool) (h : Int) : Bool := lessB s.g s.f (wrap64 (s.x + h)) != over
theorem least1_calls (gs go : Nat) (s : ST) (over : Bool) (h : Int) (w : World) (hs : w.heap[gs]? = some (.cells (cST s) 64 (0, 0))) (ho : w.heap[go]? = some (.cells #[.bool over] 4 (0, 0))) :
  Calls Try.prog 51 #[.int .i64 h, .pointer (some ⟨gs, 0, none⟩), .pointer (some ⟨go, 0, none⟩)] w fun e w' => e = .returned (.bool (leastP s over h)) ∧ Below w.heap.size w w' := by
 have hu54 := Try.underlying54
 have hu64 := Try.underlying64
 have BS := mk_ hs
 have BO := mk_ ho
 clear hs ho
 go_enter Try.func51, Try.ntmps51
 go_wp2_with (fail)
 refine start_ (n := 12) (S := fun w' => w'.cell? ⟨gs, 0, none⟩ = some (.int .i64 s.x) ∧ w'.cell? ⟨gs, 1, none⟩ = some (.int .i64 s.u) ∧ w'.cell? ⟨gs, 2, none⟩ = some (.int .i64 s.f.n) ∧ w'.cell? ⟨gs, 3, none⟩ = some (.int .i64 s.f.s) ∧ w'.cell? ⟨gs, 4, none⟩ = some (.int .i64 s.f.d) ∧ w'.cell? ⟨gs, 5, none⟩ = some (.int .i64 s.f.fr) ∧ w'.cell? ⟨gs, 6, none⟩ = some (.int .i64 s.g.n) ∧ w'.cell? ⟨gs, 7, none⟩ = some (.int .i64 s.g.s) ∧ w'.cell? ⟨gs, 8, none⟩ = some (.int .i64 s.g.d) ∧ w'.cell? ⟨gs, 9, none⟩ = some (.int .i64 s.g.fr) ∧ w'.cell? ⟨go, 0, none⟩ = some (.bool over)) (ds := []) #[n_, n_, n_, n_, n_, n_, n_, n_, n_, n_, n_, n_] (by kernel_rfl) rfl rfl ⟨(blk_cell (show w.drew.heap[gs]? = _ from BS.out) 0).trans rfl, (blk_cell (show w.drew.heap[gs]? = _ from BS.out) 1).trans rfl, (blk_cell (show w.drew.heap[gs]? = _ from BS.out) 2).trans rfl, (blk_cell (show w.drew.heap[gs]? = _ from BS.out) 3).trans rfl, (blk_cell (show w.drew.heap[gs]? = _ from BS.out) 4).trans rfl, (blk_cell (show w.drew.heap[gs]? = _ from BS.out) 5).trans rfl, (blk_cell (show w.drew.heap[gs]? = _ from BS.out) 6).trans rfl, (blk_cell (show w.drew.heap[gs]? = _ from BS.out) 7).trans rfl, (blk_cell (show w.drew.heap[gs]? = _ from BS.out) 8).trans rfl, (blk_cell (show w.drew.heap[gs]? = _ from BS.out) 9).trans rfl, (blk_cell (show w.drew.heap[go]? = _ from BO.out) 0).trans rfl⟩ (fun hHeld => ?_)
 refine pv_ 0 5 (w_ 12 1) rfl ?_
 refine pv_ 2 7 (w_ 12 5) rfl ?_
 refine pv_ 4 9 (w_ 12 21) rfl ?_
 refine pv_ 6 11 (w_ 12 85) rfl ?_
 refine tb_ 1 6 (w_ 12 87) rfl hHeld (by rintro w' ⟨s0, s1, s2, s3, s4, s5, s6, s7, s8, s9, s10⟩; go_simp; with_reducible rfl) ?_
 refine tb_ 3 8 (w_ 12 95) rfl hHeld (by rintro w' ⟨s0, s1, s2, s3, s4, s5, s6, s7, s8, s9, s10⟩; go_simp; with_reducible rfl) ?_
 refine tb_ 5 10 (w_ 12 127) rfl hHeld (by rintro w' ⟨s0, s1, s2, s3, s4, s5, s6, s7, s8, s9, s10⟩; go_simp; with_reducible rfl) ?_
 refine pv_ 7 12 (w_ 12 255) rfl ?_
 refine tb_ 9 14 (w_ 12 767) rfl hHeld (by rintro w' ⟨s0, s1, s2, s3, s4, s5, s6, s7, s8, s9, s10⟩; go_simp; with_reducible rfl) ?_
 refine one_ (i := 8) (N := some 13) (w_ 12 1023) rfl rfl (by kernel_rfl) (by decide) (fun K hK => ?_)
 refine goes_ Try.func49 (by kernel_rfl) rfl #[.agg #[.int .i64 s.g.n, .int .i64 s.g.s, .int .i64 s.g.d, .int .i64 s.g.fr], .agg #[.int .i64 s.f.n, .int .i64 s.f.s, .int .i64 s.f.d, .int .i64 s.f.fr], .int .i64 (wrap64 (s.x + h))] (by rfl) rfl rfl (by simp only [List.map_toArray, List.map_cons, List.map_nil]; rfl) ?_
 with_reducible refine (lessB_calls s.g s.f (wrap64 (s.x + h)) _).mono ?_
 rintro e w1 ⟨rfl, hb_⟩
 refine ⟨_, rfl, ?_⟩
 have BS1 := mk_ (blk_below (show w.drew.heap[gs]? = _ from BS.out) hb_)
 have BO1 := mk_ (blk_below (show w.drew.heap[go]? = _ from BO.out) hb_)
 have HW1 := mk_ (below_step (below_drew (Below.refl w.heap.size w)) hb_)
 clear hb_
 refine hK.out _ _ ⟨(blk_cell (BS1.out) 0).trans rfl, (blk_cell (BS1.out) 1).trans rfl, (blk_cell (BS1.out) 2).trans rfl, (blk_cell (BS1.out) 3).trans rfl, (blk_cell (BS1.out) 4).trans rfl, (blk_cell (BS1.out) 5).trans rfl, (blk_cell (BS1.out) 6).trans rfl, (blk_cell (BS1.out) 7).trans rfl, (blk_cell (BS1.out) 8).trans rfl, (blk_cell (BS1.out) 9).trans rfl, (blk_cell (BO1.out) 0).trans rfl⟩ (fun hHeld => ?_)
 clear hK K
 refine norm_ (a' := ?_) ?_ ?_
 rotate_left
 ·show Act.put _ (some 13) _ = _
  simp only [Act.put, sI_, s0_, sS_, i64_w, i32_w]
  rfl
 refine pv_ 10 15 (w_ 12 2047) rfl ?_
 refine pv_ 11 4 (w_ 12 4095) rfl ?_
 refine done_ (by kernel_rfl) ?_
 go_wp2_with (fail)
 go_ret
 exact ⟨rfl, HW1.out⟩
theorem least_search (n : Int) (b1 b2 : Nat) (P : Int → Bool) (w : World) (hn0 : 0 ≤ n) (hn1 : n ≤ 1000000000) (hf : ∀ (h : Int) (W : World), 0 ≤ h → h < n → Below w.heap.size w W → Calls Try.prog 51 #[.int .i64 h, .pointer (some ⟨b1, 0, none⟩), .pointer (some ⟨b2, 0, none⟩)] W fun e W' => e = .returned (.bool (P h)) ∧ Below W.heap.size W W') :
  Calls Try.prog 50 #[.int .i64 n, .func (.func 51) #[] #[.pointer (some ⟨b1, 0, none⟩), .pointer (some ⟨b2, 0, none⟩)]] w fun e w' => e = .returned (.int .i64 (bsearch P n.toNat 0 n)) ∧ Below w.heap.size w w' := by
 have HF := mk_ hf
 have HN := mk_ (And.intro hn0 hn1)
 have HB := mk_ (Below.refl w.heap.size w)
 obtain ⟨r, hr⟩ : ∃ r, r = bsearch P n.toNat 0 n := ⟨_, rfl⟩
 have HRS := mk_ hr.symm
 rw [← hr]
 clear hf hn0 hn1 hr
 go_enter Try.func50, Try.ntmps50
 go_wp2
 go_loopg [5, 6] n.toNat (fun kq v5 v6 w' => ∃ (i j : Int), v5 = .int .i64 i ∧ v6 = .int .i64 j ∧ Aside0 (bsearch P kq i j = r) ∧ Aside0 (0 ≤ i ∧ i ≤ j ∧ j ≤ n ∧ j - i ≤ kq) ∧ Aside0 (Below w.heap.size w w'))
 case atStart => exact ⟨0, n, rfl, rfl, HRS, ⟨by have := HN.out; omega⟩, HB⟩
 case round =>
  obtain ⟨i, j, rfl, rfl, HS, HK, HB⟩ := hrel
  by_cases hlt : i < j
  ·have c1 : decide (i < j) = true := decide_eq_true hlt
   obtain ⟨kk, hkk⟩ : ∃ kk, gk = kk + 1 := ⟨gk - 1, by have := HK.out; omega⟩
   have hz1 : i + j ≤ 9223372036854775807 := by have := HK.out; have := HN.out; omega
   have hz2 : -9223372036854775808 ≤ i + j := by have := HK.out; omega
   have hz3 : 0 ≤ i + j := by have := HK.out; omega
   have hz4 : i + j ≤ 18446744073709551615 := by omega
   have HM := mk_ (show 0 ≤ (i + j) / 2 ∧ (i + j) / 2 < n by have := HK.out; omega)
   have hz5 : (i + j) / 2 + 1 ≤ 9223372036854775807 := by omega
   have hz6 : -9223372036854775808 ≤ (i + j) / 2 + 1 := by omega
   have HLT := mk_ hlt
   have HKK := mk_ hkk
   have hs := HS.out
   rw [hkk] at hs
   unfold bsearch at hs
   rw [if_pos hlt] at hs
   clear hlt hkk
   cases hp : P ((i + j) / 2) with
   | true =>
    rw [hp, if_pos rfl] at hs
    have HP := mk_ hp
    have HS1 := mk_ hs
    clear hp hs
    go_wp2_with (first | ((with_reducible refine (HF.out ((i + j) / 2) _ HM.out.1 HM.out.2 HB.out).mono ?_); rintro e w1 ⟨rfl, hb⟩; have HB1 := mk_ hb; clear hb; rw [HP.out]))
    go_roundg kk
    case measure => have := HKK.out; omega
    case rel => exact ⟨i, (i + j) / 2, rfl, rfl, HS1, ⟨by have := HK.out; have := HLT.out; have := HKK.out; omega⟩, ⟨below_step HB.out HB1.out⟩⟩
   | false =>
    rw [hp, if_neg (by decide)] at hs
    have HP := mk_ hp
    have HS1 := mk_ hs
    clear hp hs
    go_wp2_with (first | ((with_reducible refine (HF.out ((i + j) / 2) _ HM.out.1 HM.out.2 HB.out).mono ?_); rintro e w1 ⟨rfl, hb⟩; have HB1 := mk_ hb; clear hb; rw [HP.out]))
    go_roundg kk
    case measure => have := HKK.out; omega
    case rel => exact ⟨(i + j) / 2 + 1, j, rfl, rfl, HS1, ⟨by have := HK.out; have := HLT.out; have := HKK.out; omega⟩, ⟨below_step HB.out HB1.out⟩⟩
  ·have c1 : decide (i < j) = false := decide_eq_false hlt
   have HE := mk_ (show r = i by
    rw [← HS.out]
    cases gk with
    | zero => rfl
    | succ k => unfold bsearch; rw [if_neg hlt])
   clear hlt
   go_wp2
   go_ret
   exact ⟨by rw [HE.out]; rfl, HB.out⟩
def overS (s : ST) : Bool := lessB s.g s.f s.x
def oneS (s : ST) : LN := if overS s = true then s.g else s.f
def twoS (s : ST) : LN := if overS s = true then s.f else s.g
def kS (s : ST) : Int := bsearch (leastP s (overS s)) (s.u - s.x).toNat 0 (s.u - s.x)
def leastO (k : Nat) (b : BD) (s : ST) : Option BD := (putO k b (oneS s) s.x).bind fun b1 => if s.x + kS s < s.u then putO k b1 (twoS s) (s.x + kS s) else some b1
def leastF (k : Nat) : BD → List ST → Option BD
 | b, [] => some b
 | b, s :: t => (leastO k b s).bind fun b' => leastF k b' t
theorem leastF_append (k : Nat) : ∀ (xs : List ST) (b : BD) (s : ST), leastF k b (xs ++ [s]) = (leastF k b xs).bind fun b' => leastO k b' s
 | [], b, s => by
  simp only [List.nil_append, leastF, Option.bind_some]
  cases leastO k b s <;> rfl
 | x :: t, b, s => by
  simp only [List.cons_append, leastF]
  cases leastO k b x with
  | none => rfl
  | some b' => exact leastF_append k t b' s
theorem leastO_len {k : Nat} {b b' : BD} {s : ST} (h : leastO k b s = some b') : b'.out.length ≤ b.out.length + 2 := by
 unfold leastO at h
 obtain ⟨b1, h1, h2⟩ := Option.bind_eq_some_iff.1 h
 have := putO_len h1
 split at h2
 ·have := putO_len h2
  omega
 ·obtain rfl := Option.some.inj h2
  omega
theorem leastF_len {k : Nat} : ∀ (xs : List ST) {b b' : BD}, leastF k b xs = some b' → b'.out.length ≤ b.out.length + 2 * xs.length
 | [], b, b', h => by obtain rfl := Option.some.inj h; simp
 | s :: t, b, b', h => by
  unfold leastF at h
  obtain ⟨b1, h1, h2⟩ := Option.bind_eq_some_iff.1 h
  have := leastO_len h1
  have := leastF_len t h2
  simp only [List.length_cons]
  omega
theorem leastO_last {k : Nat} {b b' : BD} {s : ST} (h : leastO k b s = some b') : b'.last = s.f ∨ b'.last = s.g := by
 have ho : oneS s = s.f ∨ oneS s = s.g := by unfold oneS; split <;> simp
 have ht : twoS s = s.f ∨ twoS s = s.g := by unfold twoS; split <;> simp
 unfold leastO at h
 obtain ⟨b1, h1, h2⟩ := Option.bind_eq_some_iff.1 h
 split at h2
 ·rw [putO_last h2]; exact ht
 ·obtain rfl := Option.some.inj h2
  rw [putO_last h1]; exact ho
theorem leastF_last {k : Nat} : ∀ (xs : List ST) {b b' : BD}, leastF k b xs = some b' → (xs = [] ∧ b' = b) ∨ ∃ y, y ∈ xs ∧ (b'.last = y.f ∨ b'.last = y.g)
 | [], b, b', h => .inl ⟨rfl, (Option.some.inj h).symm⟩
 | s :: t, b, b', h => by
  unfold leastF at h
  obtain ⟨b1, h1, h2⟩ := Option.bind_eq_some_iff.1 h
  rcases leastF_last t h2 with ⟨rfl, rfl⟩ | ⟨y, hy, e⟩
  ·exact .inr ⟨s, List.mem_cons_self .., leastO_last h1⟩
  ·exact .inr ⟨y, List.mem_cons_of_mem _ hy, e⟩
theorem leastD {k : Nat} (hk : 10000 < k) (b : BD) (xs : List ST) (x : ST) (hxs : ∀ y, y ∈ xs → okST y = true) (hx : okST x = true) (h : leastF k b00 xs = some b) : ∃ b', leastO k b x = some b' := by
 obtain ⟨h1, h2, h3, h4⟩ := of_decide_eq_true hx
 have ho : 1 ≤ (oneS x).d ∧ (oneS x).d.toNat < k := by unfold oneS; split <;> omega
 have ht : 1 ≤ (twoS x).d ∧ (twoS x).d.toNat < k := by unfold twoS; split <;> omega
 obtain ⟨b1, hb1⟩ := putO_total (k := k) (b := b) (l := oneS x) x.x ho.1 ho.2 (fun hz => by
  rcases leastF_last xs h with ⟨_, rfl⟩ | ⟨y, hy, e⟩
  ·exact absurd rfl hz
  ·obtain ⟨g1, g2, g3, g4⟩ := of_decide_eq_true (hxs y hy)
   rcases e with e | e <;> rw [e] <;> omega)
 unfold leastO
 rw [hb1]
 simp only [Option.bind_some]
 split
 ·exact putO_total _ ht.1 ht.2 (fun _ => by rw [putO_last hb1]; exact ho)
 ·exact ⟨_, rfl⟩
abbrev RdAt (n0 gb g1 g2 : Nat) (W W' : World) (b : BD) (v : Value) : Prop := BdAt W' n0 gb b v ∧ KeepsOthers W W' ∧ Below n0 W W' ∧ W'.heap[g1]? = W.heap[g1]? ∧ W'.heap[g2]? = W.heap[g2]?
theorem rd_below {n0 gb g1 g2 : Nat} {W W' W'' : World} {b : BD} {v : Value} (h : RdAt n0 gb g1 g2 W W' b v) (hn : n0 ≤ W.heap.size) (h1 : g1 < W.heap.size) (h2 : g2 < W.heap.size) (hb : Below W'.heap.size W' W'') : RdAt n0 gb g1 g2 W W'' b v :=
 have hs := h.2.1.1
 ⟨bdAt_below h.1 hb, h.2.1.trans (KeepsOthers.of_grownBy (grown_of_below hb none) (by simp)), h.2.2.1.trans (hb.mono (Nat.le_trans hn hs)), (hb.block g1 (Nat.lt_of_lt_of_le h1 hs)).trans h.2.2.2.1, (hb.block g2 (Nat.lt_of_lt_of_le h2 hs)).trans h.2.2.2.2⟩
theorem rd_put {n0 gb g1 g2 : Nat} {W W' W'' : World} {b b' : BD} {v v' : Value} {c1 c2 : Array Value} (h : RdAt n0 gb g1 g2 W W' b v) (h1 : W.heap[g1]? = some (.cells c1 22 (0, 0))) (h2 : W.heap[g2]? = some (.cells c2 22 (0, 0))) (ne : gb ≠ g1 ∧ gb ≠ g2) (hB : BdAt W'' n0 gb b' v') (hbn : Below n0 W' W'') (hko : KeepsOthers W' W'') (hfr : ∀ i, i < W'.heap.size → i ≠ gb → some i ≠ v.ownBlock → W''.heap[i]? = W'.heap[i]?) : RdAt n0 gb g1 g2 W W'' b' v' :=
 have q1 := h.2.2.2.1.trans h1
 have q2 := h.2.2.2.2.trans h2
 ⟨hB, h.2.1.trans hko, h.2.2.1.trans hbn, (hfr g1 (blk_lt q1) ne.1.symm (Kd.R_ne h.1.2 q1 (by decide))).trans h.2.2.2.1, (hfr g2 (blk_lt q2) ne.2.symm (Kd.R_ne h.1.2 q2 (by decide))).trans h.2.2.2.2⟩
theorem bsearch_le (P : Int → Bool) : ∀ (k : Nat) (i j : Int), i ≤ j → i ≤ bsearch P k i j ∧ bsearch P k i j ≤ j
 | 0, i, j, h => ⟨Int.le_refl _, h⟩
 | k + 1, i, j, h => by
  unfold bsearch
  split
  ·split
   ·have := bsearch_le P k i ((i + j) / 2) (by omega)
    omega
   ·have := bsearch_le P k ((i + j) / 2 + 1) j (by omega)
    omega
  ·exact ⟨Int.le_refl _, h⟩
def rngST (s : ST) : Bool := decide (0 ≤ s.x ∧ s.x ≤ s.u ∧ s.u ≤ 1000000)
theorem kS_le {s : ST} (h : rngST s = true) : 0 ≤ kS s ∧ s.x + kS s ≤ s.u := by
 obtain ⟨h1, h2, h3⟩ := of_decide_eq_true h
 have := bsearch_le (leastP s (overS s)) (s.u - s.x).toNat 0 (s.u - s.x) (by omega)
 unfold kS
 omega
attribute [local go_sem] Oper.semAt_some
set_option maxHeartbeats 16000000 in
theorem least_calls (k : Nat) (D : ST → Prop) (hD : ∀ (b : BD) (xs : List ST) (x : ST), (∀ y, y ∈ xs → D y) → D x → leastF k b00 xs = some b → ∃ b', leastO k b x = some b') (A0 A1 : Option Addr) (c0 c1 : Nat) (f g : List S51) (M : Nat) (hM : StOk f g M) (h64 : M ≤ 1000) (hRg : ∀ s, D s → rngST s = true) (hDs : ∀ s, s ∈ stL f g M → D s) (w : World) (hr0 : Kd.C k51 w A0 f.length f) (hr1 : Kd.C k51 w A1 g.length g) (hc0 : f.length ≤ c0) (hc1 : g.length ≤ c1) (kf kg : Nat) (hv0 : piecewise_Valid.f kf f = some true) (hv1 : piecewise_Valid.f kg g = some true) (b : BD) (hb : leastF k b00 (stL f g M) = some b) :
  Calls Try.prog 21 #[.slice A0 f.length c0, .slice A1 g.length c1] w fun e w' => ∃ v0_ : Value, e = .returned (.tuple #[v0_, .int .i64 (resO b).2]) ∧ Kd.R k51 51 w' w.heap.size (fun _ => True) v0_ (resO b).1 ∧ Below w.heap.size w w' := by
 obtain ⟨E, hE⟩ := sub_list (p := D) (stL f g M) hDs
 refine (callsIn_wide (n := 5)).1 ?_
 refine callsIn_of_wp_marks Try.func21 rfl trivial ?_ rfl
 simp only [Try.ntmps21, List.size_toArray, List.length_cons, List.length_nil, Nat.reduceAdd, Nat.reduceSub, Array.replicate_succ, Array.replicate_zero, List.push_toArray, List.append_toArray, List.nil_append, List.cons_append]
 refine wpIn_wide.2 (wp_calmS ?_)
 have hu51 := Try.underlying51
 have hu54 := Try.underlying54
 have hu59 := Try.underlying59
 have hu64 := Try.underlying64
 have HR0 := mk_ hr0
 have HR1 := mk_ hr1
 have HC0 := mk_ hc0
 have HC1 := mk_ hc1
 have HM := mk_ hM
 have H64 := mk_ h64
 have HE := mk_ hE
 have HV0 := mk_ hv0
 have HV1 := mk_ hv1
 have HBF := mk_ hb
 have HD := mk_ hD
 have HRG := mk_ hRg
 clear hr0 hr1 hc0 hc1 hM h64 hE hv0 hv1 hb hD hDs hRg
 have HB := mk_ (Below.refl w.heap.size w)
 go_wp2_with (first | (go_at_call 14; (with_reducible refine (piecewise_Valid.calls kf A0 c0 f true _ (Kd.C_below HR0.out HB.out) HC0.out HV0.out).mono ?_); rintro e w1 ⟨rfl, hb_⟩; clear HV0; have n0_ := mk_ (below_step HB.out hb_); clear HB hb_; have HB := n0_; clear n0_) | (go_at_call 14; (with_reducible refine (piecewise_Valid.calls kg A1 c1 g true _ (Kd.C_below HR1.out HB.out) HC1.out HV1.out).mono ?_); rintro e w2 ⟨rfl, hb_⟩; have n0_ := mk_ (below_step HB.out hb_); clear HB hb_; have HB := n0_; clear n0_) | ((with_reducible refine gate_dst (N := 6) rfl ?_); refine box_event ?hg (N := 6) ?hd (cs := #[.int .i64 0, .int .i64 0, .int .i64 0, .int .i64 0, .slice none 0 0, .bool false]) (t := 59) ?hr ?_; (case hd => rfl); (case hg => rfl); (case hr => first | (go_simp; done) | (go_simp; rfl)); intro gb hg_G w3 hbox_ hb_; have n0_ := mk_ (below_step HB.out hb_); have BG := mk_ hbox_; have GG := mk_ (show w.heap.size ≤ gb by rw [hg_G]; exact below_size HB.out); have EG := mk_ hg_G; have hcG0 : w3.cell? ⟨gb, 0, none⟩ = some (.int .i64 0) := (blk_cell hbox_ 0).trans rfl; have hfG0 := blk_frozen hbox_ 0; have hcG1 : w3.cell? ⟨gb, 1, none⟩ = some (.int .i64 0) := (blk_cell hbox_ 1).trans rfl; have hfG1 := blk_frozen hbox_ 1; have hcG2 : w3.cell? ⟨gb, 2, none⟩ = some (.int .i64 0) := (blk_cell hbox_ 2).trans rfl; have hfG2 := blk_frozen hbox_ 2; have hcG3 : w3.cell? ⟨gb, 3, none⟩ = some (.int .i64 0) := (blk_cell hbox_ 3).trans rfl; have hfG3 := blk_frozen hbox_ 3; have hcG4 : w3.cell? ⟨gb, 4, none⟩ = some (.slice none 0 0) := (blk_cell hbox_ 4).trans rfl; have hfG4 := blk_frozen hbox_ 4; have hcG5 : w3.cell? ⟨gb, 5, none⟩ = some (.bool false) := (blk_cell hbox_ 5).trans rfl; have hfG5 := blk_frozen hbox_ 5; clear HB hg_G hbox_ hb_; have HB := n0_; clear n0_) | (go_at_call 39; (with_reducible refine (stretches_calls A0 A1 f.length g.length c0 c1 _).mono ?_); rintro e w4 ⟨g1, g2, rfl, hp_, hq_, hg1_, hg2_, hb_⟩; have BP := mk_ hp_; have BQ := mk_ hq_; have G1 := mk_ (Nat.le_trans (below_size HB.out) hg1_); have G2 := mk_ (Nat.le_trans (below_size HB.out) hg2_); have NB := mk_ (show gb ≠ g1 ∧ gb ≠ g2 by have := blk_lt BG.out; omega); clear hp_ hq_ hg1_ hg2_; have n0_ := mk_ (below_step HB.out hb_); have BG := mk_ (blk_below BG.out hb_); clear HB hb_; have HB := n0_; clear n0_))
 have hlt1 := blk_lt BP.out
 have hlt2 := blk_lt BQ.out
 have hle := below_size HB.out
 refine (wpIn_wide (n := 4)).1 ?_
 refine at_frameS (fun T0 hT0 => ?_)
 refine wpIn_rangeFunc_ownH rfl (by omega) (gf := 59) (lb := #[.pointer (some ⟨g1, 0, none⟩), .pointer (some ⟨g2, 0, none⟩)]) (by subst hT0; rfl) trivial (enters_fn Try.func59 (by kernel_rfl) rfl)
  (str_stops Subtype.val E 3 (by omega) g1 g2 w.heap.size A0 A1 c0 c1 f g M HM.out HE.out w4 BP.out BQ.out (fun W' h => Kd.C_below HR0.out (HB.out.trans h)) (fun W' h => Kd.C_below HR1.out (HB.out.trans h)) hle) keep2_t (keep2_b hle hlt1 hlt2) (Below.refl _ _) (fun _ => rfl)
  (fun pre W => (∃ b1 v1, leastF k b00 (pre.map Subtype.val) = some b1 ∧ BdAt W w.heap.size gb b1 v1) ∧ W.heap[g1]? = some (.cells #[.slice A0 f.length c0] 22 (0, 0)) ∧ W.heap[g2]? = some (.cells #[.slice A1 g.length c1] 22 (0, 0)) ∧ Below w.heap.size w W)
  (fun _ _ _ => False)
  (fun st A B row hs hg hr => by
   have hr' : ∀ r, row = some r → ∃ o : Obj, A.heap[r]? = some o ∧ o.isCells = false := fun r e => (hr r e).2
   obtain ⟨⟨b1, v1, i1, i2⟩, i4, i5, i8⟩ := hs
   exact ⟨⟨b1, v1, i1, bdAt_objs i2 hg hr'⟩, blk_objs i4 hg hr', blk_objs i5 hg hr', grown_below i8 hg (fun r e => by have := (hr r e).1; omega)⟩)
  (fun _ _ _ _ _ hs _ _ => hs)
  ⟨⟨b00, _, rfl, BG.out, Kd.R_nil _ _ _ _ _⟩, BP.out, BQ.out, HB.out⟩
  (fun x a' W => ∃ gx, a' = { tmps := (T0.setIfInBounds 23 (.agg (cST x.val))).setIfInBounds 7 (.pointer (some ⟨gx, 0, none⟩)), defers := [] } ∧ W.heap[gx]? = some (.cells (cST x.val) 64 (0, 0)))
  (fun x a' s A B row hs hg hr => by
   obtain ⟨gx, e, hb⟩ := hs
   exact ⟨gx, e, blk_objs hb hg (fun r e => (hr r e).2)⟩) ?assign ?body ?done ?stop
 case assign =>
  rintro lr pre ⟨p, hp⟩ W K ⟨⟨b1, v1, i1, i2⟩, i4, i5, i8⟩ hK
  subst hT0
  simp only [sI_, s0_, sS_] at hK
  simp only [encST]
  gi_wp2
  exact hK _ _ ((KeepsOthers.alloc W _).from _) (keep2_below (below_size i8) (blk_lt i4) (blk_lt i5) (below_alloc (Below.refl _ _) _)) ⟨⟨b1, v1, i1, bdAt_below i2 (below_alloc (Below.refl _ _) _)⟩, blk_alloc i4 _, blk_alloc i5 _, below_alloc i8 _⟩ ⟨W.heap.size, rfl, blk_new W _⟩
 case stop =>
  rintro D c pre W _ _ h _
  exact h.elim
 case done =>
  rintro D ys W hD rfl ⟨⟨b1, v1, hb1, hB1⟩, q4, q5, hBW⟩ hDD
  subst hT0
  rw [HE.out, HBF.out] at hb1
  obtain rfl := Option.some.inj hb1
  have HBD := mk_ hB1
  have HBV := mk_ hBW
  have HDV := mk_ hDD
  have HDL := mk_ (show w.heap.size ≤ D from Nat.le_trans hle hD)
  clear hB1 q4 q5 hBW hDD hD hb1
  go_wp2_with (first | (go_at_call 41; (with_reducible refine (result_calls b _ w.heap.size gb v1 HBD.out).mono ?_); rintro e w9 ⟨v9, rfl, hR_, hb_⟩; have HR9 := mk_ hR_; have HBV9 := mk_ hb_; clear hR_ hb_))
  have rD := blk_below HDV.out HBV9.out
  show bodyPostM _ _ _ _ _ .ret _ _
  refine postM_doneW (D := D) rD (results_tmp2 rfl _ _ _) ⟨v9, rfl, ?_, ?_⟩
  ·exact R_objs HR9.out (grownBy_putObj' w9 D _) (fun r e => by cases e; exact ⟨_, rD, rfl⟩)
  ·exact (below_step HBV.out HBV9.out).trans (belowK_b (w := w) (Nat.le_refl _) _ D _ _ HDL.out rD rfl rfl)
 case body =>
  rintro lr pre ⟨p, hp⟩ a' W _ _ ⟨⟨b1, v1, hb1, hB1⟩, q1, q2, hBW⟩ ⟨gx, rfl, hb⟩ hlen
  subst hT0
  simp only [sI_, s0_, sS_]
  obtain ⟨b2, hb2⟩ := HD.out b1 (pre.map Subtype.val) p (fun y hy => by obtain ⟨z, _, rfl⟩ := List.mem_map.1 hy; exact z.property) hp hb1
  have HLN := mk_ (show b1.out.length + 1 ≤ 1000000 by have h1 := leastF_len _ hb1; rw [List.length_map] at h1; have h3 : b00.out.length = 0 := rfl; have := H64.out; omega)
  have BX := mk_ hb
  have Q1 := mk_ q1
  have Q2 := mk_ q2
  have HBD := mk_ hB1
  have HF := mk_ hb1
  have HP2 := mk_ hb2
  have HBW := mk_ hBW
  have HW := mk_ (Below.refl W.heap.size W)
  have hx0 : W.cell? ⟨gx, 0, none⟩ = some (.int .i64 p.x) := (blk_cell hb 0).trans rfl
  have hx1 : W.cell? ⟨gx, 1, none⟩ = some (.int .i64 p.u) := (blk_cell hb 1).trans rfl
  have hx2 : W.cell? ⟨gx, 2, none⟩ = some (.int .i64 p.f.n) := (blk_cell hb 2).trans rfl
  have hx3 : W.cell? ⟨gx, 3, none⟩ = some (.int .i64 p.f.s) := (blk_cell hb 3).trans rfl
  have hx4 : W.cell? ⟨gx, 4, none⟩ = some (.int .i64 p.f.d) := (blk_cell hb 4).trans rfl
  have hx5 : W.cell? ⟨gx, 5, none⟩ = some (.int .i64 p.f.fr) := (blk_cell hb 5).trans rfl
  have hx6 : W.cell? ⟨gx, 6, none⟩ = some (.int .i64 p.g.n) := (blk_cell hb 6).trans rfl
  have hx7 : W.cell? ⟨gx, 7, none⟩ = some (.int .i64 p.g.s) := (blk_cell hb 7).trans rfl
  have hx8 : W.cell? ⟨gx, 8, none⟩ = some (.int .i64 p.g.d) := (blk_cell hb 8).trans rfl
  have hx9 : W.cell? ⟨gx, 9, none⟩ = some (.int .i64 p.g.fr) := (blk_cell hb 9).trans rfl
  clear hb q1 q2 hB1 hb1 hb2 hBW hlen
  gi_upto_region 6 with (fail)
  refine round_region (by kernel_rfl) (by rintro ⟨_, _, h⟩; exact h) ?_
  go_wp2_with (first | (go_at_call 49; (with_reducible refine (lessB_calls p.g p.f p.x _).mono ?_); rintro e w5 ⟨rfl, hb_⟩; have BX := mk_ (blk_below BX.out hb_); have n0_ := mk_ (below_step HW.out hb_); clear HW hb_; have HW := n0_; clear n0_) | ((with_reducible refine gate_dst (N := 8) rfl ?_); refine box_event ?hg (N := 8) ?hd (cs := #[.bool false]) (t := 4) ?hr ?_; (case hd => rfl); (case hg => rfl); (case hr => first | (go_simp; done) | (go_simp; rfl)); intro go hg_O w6 hbox_ hb_; have n0_ := mk_ (below_step HW.out hb_); have BO := mk_ hbox_; have GO := mk_ (show W.heap.size ≤ go by rw [hg_O]; exact below_size HW.out); have EO := mk_ hg_O; have hcO0 : w6.cell? ⟨go, 0, none⟩ = some (.bool false) := (blk_cell hbox_ 0).trans rfl; have hfO0 := blk_frozen hbox_ 0; have BX := mk_ (blk_below BX.out hb_); clear HW hg_O hbox_ hb_; have HW := n0_; clear n0_))
  obtain ⟨w7, hw7⟩ : ∃ w7, w7 = w6.setCell ⟨go, 0, none⟩ (.bool (lessB p.g p.f p.x)) := ⟨_, rfl⟩
  rw [← hw7]
  have BX7 := mk_ (show w7.heap[gx]? = some (.cells (cST p) 64 (0, 0)) by rw [hw7]; exact blk_far (p := ⟨go, 0, none⟩) BX.out (blk_ne BX.out BO.out (by decide)) _)
  have BO7 := mk_ (show w7.heap[go]? = some (.cells #[.bool (lessB p.g p.f p.x)] 4 (0, 0)) by rw [hw7]; exact blk_put BO.out 0 _ rfl)
  have HW7 := mk_ (show Below W.heap.size W w7 by rw [hw7]; exact below_set HW.out GO.out)
  clear hw7 BX BO HW
  gi_upto_region 7 with (fail)
  gi_cut [9, 10] from 24 (fun v9 v10 wc => ∃ n9 n10 : Nat, v9 = .pointer (some ⟨n9, 0, none⟩) ∧ v10 = .pointer (some ⟨n10, 0, none⟩) ∧ Aside0 (wc.heap[gx]? = some (.cells (cST p) 64 (0, 0)) ∧ wc.heap[go]? = some (.cells #[.bool (lessB p.g p.f p.x)] 4 (0, 0)) ∧ wc.heap[n9]? = some (.cells #[.int .i64 p.f.n, .int .i64 p.f.s, .int .i64 p.f.d, .int .i64 p.f.fr] 54 (0, 0)) ∧ wc.heap[n10]? = some (.cells #[.int .i64 p.g.n, .int .i64 p.g.s, .int .i64 p.g.d, .int .i64 p.g.fr] 54 (0, 0)) ∧ n9 ≠ n10 ∧ W.heap.size ≤ n9 ∧ W.heap.size ≤ n10 ∧ Below W.heap.size W wc))
  case first =>
   clear HB HBD HLN HF HP2 HBW Q1 Q2 HD HE HBF HR0 HR1 HC0 HC1 HM H64 NB
   refine start_R (m := 8) (S := fun w' => w'.cell? ⟨gx, 0, none⟩ = some (.int .i64 p.x) ∧ w'.cell? ⟨gx, 1, none⟩ = some (.int .i64 p.u) ∧ w'.cell? ⟨gx, 2, none⟩ = some (.int .i64 p.f.n) ∧ w'.cell? ⟨gx, 3, none⟩ = some (.int .i64 p.f.s) ∧ w'.cell? ⟨gx, 4, none⟩ = some (.int .i64 p.f.d) ∧ w'.cell? ⟨gx, 5, none⟩ = some (.int .i64 p.f.fr) ∧ w'.cell? ⟨gx, 6, none⟩ = some (.int .i64 p.g.n) ∧ w'.cell? ⟨gx, 7, none⟩ = some (.int .i64 p.g.s) ∧ w'.cell? ⟨gx, 8, none⟩ = some (.int .i64 p.g.d) ∧ w'.cell? ⟨gx, 9, none⟩ = some (.int .i64 p.g.fr)) (ds := []) (by kernel_rfl) (by rintro ⟨_, _, h⟩; exact h) #[n_, n_, n_, n_, n_, n_, n_, n_] (by kernel_rfl) rfl rfl ⟨(blk_cell (show w7.drew.heap[gx]? = _ from BX7.out) 0).trans rfl, (blk_cell (show w7.drew.heap[gx]? = _ from BX7.out) 1).trans rfl, (blk_cell (show w7.drew.heap[gx]? = _ from BX7.out) 2).trans rfl, (blk_cell (show w7.drew.heap[gx]? = _ from BX7.out) 3).trans rfl, (blk_cell (show w7.drew.heap[gx]? = _ from BX7.out) 4).trans rfl, (blk_cell (show w7.drew.heap[gx]? = _ from BX7.out) 5).trans rfl, (blk_cell (show w7.drew.heap[gx]? = _ from BX7.out) 6).trans rfl, (blk_cell (show w7.drew.heap[gx]? = _ from BX7.out) 7).trans rfl, (blk_cell (show w7.drew.heap[gx]? = _ from BX7.out) 8).trans rfl, (blk_cell (show w7.drew.heap[gx]? = _ from BX7.out) 9).trans rfl⟩ (fun hHeld => ?_)
   refine pv_ 0 31 (w_ 8 1) rfl ?_
   refine pv_ 2 33 (w_ 8 5) rfl ?_
   refine tb_ 1 32 (w_ 8 7) rfl hHeld (by rintro w' ⟨s0, s1, s2, s3, s4, s5, s6, s7, s8, s9⟩; go_simp; with_reducible rfl) ?_
   refine tb_ 3 34 (w_ 8 15) rfl hHeld (by rintro w' ⟨s0, s1, s2, s3, s4, s5, s6, s7, s8, s9⟩; go_simp; with_reducible rfl) ?_
   refine join_ (σ := Nat × Nat) 2 #[y_, y_, y_, y_, y_, y_, n_, n_] (fun s_ => [(9, .pointer (some ⟨s_.1, 0, none⟩)), (10, .pointer (some ⟨s_.2, 0, none⟩))]) (fun s_ w' => w'.heap[gx]? = some (.cells (cST p) 64 (0, 0)) ∧ w'.heap[go]? = some (.cells #[.bool (lessB p.g p.f p.x)] 4 (0, 0)) ∧ w'.heap[s_.1]? = some (.cells #[.int .i64 0, .int .i64 0, .int .i64 0, .int .i64 0] 54 (0, 0)) ∧ w'.heap[s_.2]? = some (.cells #[.int .i64 0, .int .i64 0, .int .i64 0, .int .i64 0] 54 (0, 0)) ∧ s_.1 ≠ s_.2 ∧ W.heap.size ≤ s_.1 ∧ W.heap.size ≤ s_.2 ∧ Below W.heap.size W w') ?_ ?_
   rotate_left
   ·intro hCont
    refine two_ (i := 4) (j := 5) (Ni := some 9) (Nj := some 10) #[y_, y_, y_, y_, y_, n_, n_, n_] #[y_, y_, y_, y_, n_, y_, n_, n_] rfl rfl rfl rfl (by kernel_rfl) (by decide) (by decide) (fun K hK => ?_) (fun K hK => ?_)
    ·skip
     refine box_step ?hw (N := 9) ?hd (cs := #[.int .i64 0, .int .i64 0, .int .i64 0, .int .i64 0]) (t := 54) ?hr ?_
     (case hw => rfl)
     (case hd => rfl)
     (case hr => first | (go_simp; done) | (go_simp; rfl))
     intro n9 hn9 wA hbx_ hb_
     have BXA := mk_ (blk_below (show w7.drew.heap[gx]? = _ from BX7.out) hb_)
     have BOA := mk_ (blk_below (show w7.drew.heap[go]? = _ from BO7.out) hb_)
     have HWA := mk_ (below_step (below_drew HW7.out) hb_)
     have GN9 := mk_ (show W.heap.size ≤ n9 by rw [hn9]; exact below_size (below_drew HW7.out))
     have BN9 := mk_ hbx_
     clear hn9 hbx_ hb_
     refine hK.out _ _ ⟨(blk_cell (BXA.out) 0).trans rfl, (blk_cell (BXA.out) 1).trans rfl, (blk_cell (BXA.out) 2).trans rfl, (blk_cell (BXA.out) 3).trans rfl, (blk_cell (BXA.out) 4).trans rfl, (blk_cell (BXA.out) 5).trans rfl, (blk_cell (BXA.out) 6).trans rfl, (blk_cell (BXA.out) 7).trans rfl, (blk_cell (BXA.out) 8).trans rfl, (blk_cell (BXA.out) 9).trans rfl⟩ (fun hHeld => ?_)
     clear hK K
     refine norm_ (a' := ?_) ?_ ?_
     rotate_left
     ·show Act.put _ (some 9) _ = _
      simp only [Act.put, sI_, s0_, sS_, i64_w, i32_w]
      rfl
     refine one_ (i := 5) (N := some 10) (w_ 8 63) rfl rfl (by kernel_rfl) (by decide) (fun K hK => ?_)
     refine box_step ?hw (N := 10) ?hd (cs := #[.int .i64 0, .int .i64 0, .int .i64 0, .int .i64 0]) (t := 54) ?hr ?_
     (case hw => rfl)
     (case hd => rfl)
     (case hr => first | (go_simp; done) | (go_simp; rfl))
     intro n10 hn10 wB hbx_ hb_
     have BXB := mk_ (blk_below BXA.out hb_)
     have BOB := mk_ (blk_below BOA.out hb_)
     have HWB := mk_ (below_step HWA.out hb_)
     have GN10 := mk_ (show W.heap.size ≤ n10 by rw [hn10]; exact below_size HWA.out)
     have NN := mk_ (show n9 ≠ n10 by have := blk_lt BN9.out; omega)
     have BN9 := mk_ (blk_below BN9.out hb_)
     have BN10 := mk_ hbx_
     clear hn10 hbx_ hb_
     refine hK.out _ _ ⟨(blk_cell (BXB.out) 0).trans rfl, (blk_cell (BXB.out) 1).trans rfl, (blk_cell (BXB.out) 2).trans rfl, (blk_cell (BXB.out) 3).trans rfl, (blk_cell (BXB.out) 4).trans rfl, (blk_cell (BXB.out) 5).trans rfl, (blk_cell (BXB.out) 6).trans rfl, (blk_cell (BXB.out) 7).trans rfl, (blk_cell (BXB.out) 8).trans rfl, (blk_cell (BXB.out) 9).trans rfl⟩ (fun hHeld => ?_)
     clear hK K
     refine norm_ (a' := ?_) ?_ ?_
     rotate_left
     ·show Act.put _ (some 10) _ = _
      simp only [Act.put, sI_, s0_, sS_, i64_w, i32_w]
      rfl
     exact norm_ (by simp only [putAll, Act.put, sI_, s0_, sS_]) (hCont (n9, n10) _ ⟨BXB.out, BOB.out, BN9.out, BN10.out, NN.out, GN9.out, GN10.out, HWB.out⟩)
    ·skip
     refine box_step ?hw (N := 10) ?hd (cs := #[.int .i64 0, .int .i64 0, .int .i64 0, .int .i64 0]) (t := 54) ?hr ?_
     (case hw => rfl)
     (case hd => rfl)
     (case hr => first | (go_simp; done) | (go_simp; rfl))
     intro n10 hn10 wA hbx_ hb_
     have BXA := mk_ (blk_below (show w7.drew.heap[gx]? = _ from BX7.out) hb_)
     have BOA := mk_ (blk_below (show w7.drew.heap[go]? = _ from BO7.out) hb_)
     have HWA := mk_ (below_step (below_drew HW7.out) hb_)
     have GN10 := mk_ (show W.heap.size ≤ n10 by rw [hn10]; exact below_size (below_drew HW7.out))
     have BN10 := mk_ hbx_
     clear hn10 hbx_ hb_
     refine hK.out _ _ ⟨(blk_cell (BXA.out) 0).trans rfl, (blk_cell (BXA.out) 1).trans rfl, (blk_cell (BXA.out) 2).trans rfl, (blk_cell (BXA.out) 3).trans rfl, (blk_cell (BXA.out) 4).trans rfl, (blk_cell (BXA.out) 5).trans rfl, (blk_cell (BXA.out) 6).trans rfl, (blk_cell (BXA.out) 7).trans rfl, (blk_cell (BXA.out) 8).trans rfl, (blk_cell (BXA.out) 9).trans rfl⟩ (fun hHeld => ?_)
     clear hK K
     refine norm_ (a' := ?_) ?_ ?_
     rotate_left
     ·show Act.put _ (some 10) _ = _
      simp only [Act.put, sI_, s0_, sS_, i64_w, i32_w]
      rfl
     refine one_ (i := 4) (N := some 9) (w_ 8 63) rfl rfl (by kernel_rfl) (by decide) (fun K hK => ?_)
     refine box_step ?hw (N := 9) ?hd (cs := #[.int .i64 0, .int .i64 0, .int .i64 0, .int .i64 0]) (t := 54) ?hr ?_
     (case hw => rfl)
     (case hd => rfl)
     (case hr => first | (go_simp; done) | (go_simp; rfl))
     intro n9 hn9 wB hbx_ hb_
     have BXB := mk_ (blk_below BXA.out hb_)
     have BOB := mk_ (blk_below BOA.out hb_)
     have HWB := mk_ (below_step HWA.out hb_)
     have GN9 := mk_ (show W.heap.size ≤ n9 by rw [hn9]; exact below_size HWA.out)
     have NN := mk_ (show n10 ≠ n9 by have := blk_lt BN10.out; omega)
     have BN10 := mk_ (blk_below BN10.out hb_)
     have BN9 := mk_ hbx_
     clear hn9 hbx_ hb_
     refine hK.out _ _ ⟨(blk_cell (BXB.out) 0).trans rfl, (blk_cell (BXB.out) 1).trans rfl, (blk_cell (BXB.out) 2).trans rfl, (blk_cell (BXB.out) 3).trans rfl, (blk_cell (BXB.out) 4).trans rfl, (blk_cell (BXB.out) 5).trans rfl, (blk_cell (BXB.out) 6).trans rfl, (blk_cell (BXB.out) 7).trans rfl, (blk_cell (BXB.out) 8).trans rfl, (blk_cell (BXB.out) 9).trans rfl⟩ (fun hHeld => ?_)
     clear hK K
     refine norm_ (a' := ?_) ?_ ?_
     rotate_left
     ·show Act.put _ (some 9) _ = _
      simp only [Act.put, sI_, s0_, sS_, i64_w, i32_w]
      rfl
     exact norm_ (by simp only [putAll, Act.put, sI_, s0_, sS_]) (hCont (n9, n10) _ ⟨BXB.out, BOB.out, BN9.out, BN10.out, NN.out.symm, GN9.out, GN10.out, HWB.out⟩)
   rintro ⟨n9, n10⟩ w8 ⟨bx8, bo8, b98, b108, nn8, g98, g108, hw8⟩
   have BX8 := mk_ bx8
   have BO8 := mk_ bo8
   have B98 := mk_ b98
   have B108 := mk_ b108
   have NN8 := mk_ nn8
   have G98 := mk_ g98
   have G108 := mk_ g108
   have HW8 := mk_ hw8
   have z90 := (blk_cell b98 0).trans rfl
   have z91 := (blk_cell b98 1).trans rfl
   have z92 := (blk_cell b98 2).trans rfl
   have z93 := (blk_cell b98 3).trans rfl
   have z100 := (blk_cell b108 0).trans rfl
   have z101 := (blk_cell b108 1).trans rfl
   have z102 := (blk_cell b108 2).trans rfl
   have z103 := (blk_cell b108 3).trans rfl
   have fz90 := blk_frozen b98 0
   have fz91 := blk_frozen b98 1
   have fz92 := blk_frozen b98 2
   have fz93 := blk_frozen b98 3
   have fz100 := blk_frozen b108 0
   have fz101 := blk_frozen b108 1
   have fz102 := blk_frozen b108 2
   have fz103 := blk_frozen b108 3
   have hHeld : w8.cell? ⟨gx, 0, none⟩ = some (.int .i64 p.x) ∧ w8.cell? ⟨gx, 1, none⟩ = some (.int .i64 p.u) ∧ w8.cell? ⟨gx, 2, none⟩ = some (.int .i64 p.f.n) ∧ w8.cell? ⟨gx, 3, none⟩ = some (.int .i64 p.f.s) ∧ w8.cell? ⟨gx, 4, none⟩ = some (.int .i64 p.f.d) ∧ w8.cell? ⟨gx, 5, none⟩ = some (.int .i64 p.f.fr) ∧ w8.cell? ⟨gx, 6, none⟩ = some (.int .i64 p.g.n) ∧ w8.cell? ⟨gx, 7, none⟩ = some (.int .i64 p.g.s) ∧ w8.cell? ⟨gx, 8, none⟩ = some (.int .i64 p.g.d) ∧ w8.cell? ⟨gx, 9, none⟩ = some (.int .i64 p.g.fr) := ⟨(blk_cell (bx8) 0).trans rfl, (blk_cell (bx8) 1).trans rfl, (blk_cell (bx8) 2).trans rfl, (blk_cell (bx8) 3).trans rfl, (blk_cell (bx8) 4).trans rfl, (blk_cell (bx8) 5).trans rfl, (blk_cell (bx8) 6).trans rfl, (blk_cell (bx8) 7).trans rfl, (blk_cell (bx8) 8).trans rfl, (blk_cell (bx8) 9).trans rfl⟩
   clear bx8 bo8 b98 b108 nn8 g98 g108 hw8
   refine norm_ (a' := ?_) ?_ ?_
   rotate_left
   ·simp only [putAll, Act.put, sI_, s0_, sS_]
    rfl
   refine one_ (i := 6) (N := none) (w_ 8 127) rfl rfl (by kernel_rfl) (by decide) (fun K hK => ?_)
   refine skip_ (w1 := ?_) (by rfl) rfl ?_ ?_
   rotate_left
   ·go_simp
    rfl
   obtain ⟨w9, hw9⟩ : ∃ w_, w_ = (((w8.setCell ⟨n9, 0, none⟩ (.int .i64 p.f.n)).setCell ⟨n9, 1, none⟩ (.int .i64 p.f.s)).setCell ⟨n9, 2, none⟩ (.int .i64 p.f.d)).setCell ⟨n9, 3, none⟩ (.int .i64 p.f.fr) := ⟨_, rfl⟩
   rw [← hw9]
   have BX9 := mk_ (show w9.heap[gx]? = some (.cells (cST p) 64 (0, 0)) by rw [hw9]; exact blk_far (p := ⟨n9, 3, none⟩) (blk_far (p := ⟨n9, 2, none⟩) (blk_far (p := ⟨n9, 1, none⟩) (blk_far (p := ⟨n9, 0, none⟩) (BX8.out) (blk_ne BX8.out B98.out (by decide)) _) (blk_ne BX8.out B98.out (by decide)) _) (blk_ne BX8.out B98.out (by decide)) _) (blk_ne BX8.out B98.out (by decide)) _)
   have BO9 := mk_ (show w9.heap[go]? = some (.cells #[.bool (lessB p.g p.f p.x)] 4 (0, 0)) by rw [hw9]; exact blk_far (p := ⟨n9, 3, none⟩) (blk_far (p := ⟨n9, 2, none⟩) (blk_far (p := ⟨n9, 1, none⟩) (blk_far (p := ⟨n9, 0, none⟩) (BO8.out) (blk_ne BO8.out B98.out (by decide)) _) (blk_ne BO8.out B98.out (by decide)) _) (blk_ne BO8.out B98.out (by decide)) _) (blk_ne BO8.out B98.out (by decide)) _)
   have B99 := mk_ (show w9.heap[n9]? = some (.cells #[.int .i64 p.f.n, .int .i64 p.f.s, .int .i64 p.f.d, .int .i64 p.f.fr] 54 (0, 0)) by rw [hw9]; exact blk_put (blk_put (blk_put (blk_put (B98.out) 0 _ rfl) 1 _ rfl) 2 _ rfl) 3 _ rfl)
   have B109 := mk_ (show w9.heap[n10]? = some (.cells #[.int .i64 0, .int .i64 0, .int .i64 0, .int .i64 0] 54 (0, 0)) by rw [hw9]; exact blk_far (p := ⟨n9, 3, none⟩) (blk_far (p := ⟨n9, 2, none⟩) (blk_far (p := ⟨n9, 1, none⟩) (blk_far (p := ⟨n9, 0, none⟩) (B108.out) (NN8.out.symm) _) (NN8.out.symm) _) (NN8.out.symm) _) (NN8.out.symm) _)
   have HW9 := mk_ (show Below W.heap.size W w9 by rw [hw9]; exact below_set (below_set (below_set (below_set (HW8.out) G98.out) G98.out) G98.out) G98.out)
   clear hw9
   have fy0 := blk_frozen B109.out 0
   have fy1 := blk_frozen B109.out 1
   have fy2 := blk_frozen B109.out 2
   have fy3 := blk_frozen B109.out 3
   have zy0 := (blk_cell B109.out 0).trans rfl
   have zy1 := (blk_cell B109.out 1).trans rfl
   have zy2 := (blk_cell B109.out 2).trans rfl
   have zy3 := (blk_cell B109.out 3).trans rfl
   refine hK.out _ _ ⟨(blk_cell (BX9.out) 0).trans rfl, (blk_cell (BX9.out) 1).trans rfl, (blk_cell (BX9.out) 2).trans rfl, (blk_cell (BX9.out) 3).trans rfl, (blk_cell (BX9.out) 4).trans rfl, (blk_cell (BX9.out) 5).trans rfl, (blk_cell (BX9.out) 6).trans rfl, (blk_cell (BX9.out) 7).trans rfl, (blk_cell (BX9.out) 8).trans rfl, (blk_cell (BX9.out) 9).trans rfl⟩ (fun hHeld => ?_)
   clear hK K
   refine one_ (i := 7) (N := none) (w_ 8 255) rfl rfl (by kernel_rfl) (by decide) (fun K hK => ?_)
   refine skip_ (w1 := ?_) (by rfl) rfl ?_ ?_
   rotate_left
   ·go_simp
    rfl
   obtain ⟨w10, hw10⟩ : ∃ w_, w_ = (((w9.setCell ⟨n10, 0, none⟩ (.int .i64 p.g.n)).setCell ⟨n10, 1, none⟩ (.int .i64 p.g.s)).setCell ⟨n10, 2, none⟩ (.int .i64 p.g.d)).setCell ⟨n10, 3, none⟩ (.int .i64 p.g.fr) := ⟨_, rfl⟩
   rw [← hw10]
   have BX10 := mk_ (show w10.heap[gx]? = some (.cells (cST p) 64 (0, 0)) by rw [hw10]; exact blk_far (p := ⟨n10, 3, none⟩) (blk_far (p := ⟨n10, 2, none⟩) (blk_far (p := ⟨n10, 1, none⟩) (blk_far (p := ⟨n10, 0, none⟩) (BX9.out) (blk_ne BX9.out B109.out (by decide)) _) (blk_ne BX9.out B109.out (by decide)) _) (blk_ne BX9.out B109.out (by decide)) _) (blk_ne BX9.out B109.out (by decide)) _)
   have BO10 := mk_ (show w10.heap[go]? = some (.cells #[.bool (lessB p.g p.f p.x)] 4 (0, 0)) by rw [hw10]; exact blk_far (p := ⟨n10, 3, none⟩) (blk_far (p := ⟨n10, 2, none⟩) (blk_far (p := ⟨n10, 1, none⟩) (blk_far (p := ⟨n10, 0, none⟩) (BO9.out) (blk_ne BO9.out B109.out (by decide)) _) (blk_ne BO9.out B109.out (by decide)) _) (blk_ne BO9.out B109.out (by decide)) _) (blk_ne BO9.out B109.out (by decide)) _)
   have B1010 := mk_ (show w10.heap[n10]? = some (.cells #[.int .i64 p.g.n, .int .i64 p.g.s, .int .i64 p.g.d, .int .i64 p.g.fr] 54 (0, 0)) by rw [hw10]; exact blk_put (blk_put (blk_put (blk_put (B109.out) 0 _ rfl) 1 _ rfl) 2 _ rfl) 3 _ rfl)
   have B910 := mk_ (show w10.heap[n9]? = some (.cells #[.int .i64 p.f.n, .int .i64 p.f.s, .int .i64 p.f.d, .int .i64 p.f.fr] 54 (0, 0)) by rw [hw10]; exact blk_far (p := ⟨n10, 3, none⟩) (blk_far (p := ⟨n10, 2, none⟩) (blk_far (p := ⟨n10, 1, none⟩) (blk_far (p := ⟨n10, 0, none⟩) (B99.out) (NN8.out) _) (NN8.out) _) (NN8.out) _) (NN8.out) _)
   have HW10 := mk_ (show Below W.heap.size W w10 by rw [hw10]; exact below_set (below_set (below_set (below_set (HW9.out) G108.out) G108.out) G108.out) G108.out)
   clear hw10
   refine hK.out _ _ ⟨(blk_cell (BX10.out) 0).trans rfl, (blk_cell (BX10.out) 1).trans rfl, (blk_cell (BX10.out) 2).trans rfl, (blk_cell (BX10.out) 3).trans rfl, (blk_cell (BX10.out) 4).trans rfl, (blk_cell (BX10.out) 5).trans rfl, (blk_cell (BX10.out) 6).trans rfl, (blk_cell (BX10.out) 7).trans rfl, (blk_cell (BX10.out) 8).trans rfl, (blk_cell (BX10.out) 9).trans rfl⟩ (fun hHeld => ?_)
   clear hK K
   refine done_ (by kernel_rfl) ?_
   first | gi_step | go_step
   first | gi_step | go_step
   gi_meet
   case rel =>
    exact ⟨n9, n10, rfl, rfl, ⟨BX10.out, BO10.out, B910.out, B1010.out, NN8.out, G98.out, G108.out, HW10.out⟩⟩
  case rest =>
   obtain ⟨n9, n10, rfl, rfl, H8⟩ := hcut
   obtain ⟨bx8, bo8, b98, b108, n910, g98, g108, hw8⟩ := H8.out
   have RD8 := mk_ (rd_below (b := b1) (v := v1) ⟨HBD.out, KeepsOthers.refl _, Below.refl _ _, rfl, rfl⟩ (below_size HBW.out) (blk_lt Q1.out) (blk_lt Q2.out) hw8)
   have BX8 := mk_ bx8
   have BO8 := mk_ bo8
   have B98 := mk_ b98
   have B108 := mk_ b108
   have GN := mk_ (And.intro g98 g108)
   have HW8 := mk_ hw8
   have q8 : wc.cell? ⟨go, 0, none⟩ = some (.bool (lessB p.g p.f p.x)) := (blk_cell bo8 0).trans rfl
   have nn1 : n9 ≠ n10 := n910
   have nn2 : n10 ≠ n9 := n910.symm
   have z90 : wc.cell? ⟨n9, 0, none⟩ = some (.int .i64 p.f.n) := (blk_cell b98 0).trans rfl
   have fz90 := blk_frozen b98 0
   have z91 : wc.cell? ⟨n9, 1, none⟩ = some (.int .i64 p.f.s) := (blk_cell b98 1).trans rfl
   have fz91 := blk_frozen b98 1
   have z92 : wc.cell? ⟨n9, 2, none⟩ = some (.int .i64 p.f.d) := (blk_cell b98 2).trans rfl
   have fz92 := blk_frozen b98 2
   have z93 : wc.cell? ⟨n9, 3, none⟩ = some (.int .i64 p.f.fr) := (blk_cell b98 3).trans rfl
   have fz93 := blk_frozen b98 3
   have z100 : wc.cell? ⟨n10, 0, none⟩ = some (.int .i64 p.g.n) := (blk_cell b108 0).trans rfl
   have fz100 := blk_frozen b108 0
   have z101 : wc.cell? ⟨n10, 1, none⟩ = some (.int .i64 p.g.s) := (blk_cell b108 1).trans rfl
   have fz101 := blk_frozen b108 1
   have z102 : wc.cell? ⟨n10, 2, none⟩ = some (.int .i64 p.g.d) := (blk_cell b108 2).trans rfl
   have fz102 := blk_frozen b108 2
   have z103 : wc.cell? ⟨n10, 3, none⟩ = some (.int .i64 p.g.fr) := (blk_cell b108 3).trans rfl
   have fz103 := blk_frozen b108 3
   clear bx8 bo8 b98 b108 n910 g98 g108 hw8 H8 RD8 BX7 BO7 HW7
   gi_upto_if 35 with (fail)
   gi_cut [] from 24 (fun wd => Aside0 (wd.heap[gx]? = some (.cells (cST p) 64 (0, 0)) ∧ wd.heap[go]? = some (.cells #[.bool (lessB p.g p.f p.x)] 4 (0, 0)) ∧ wd.heap[n9]? = some (.cells #[.int .i64 (oneS p).n, .int .i64 (oneS p).s, .int .i64 (oneS p).d, .int .i64 (oneS p).fr] 54 (0, 0)) ∧ wd.heap[n10]? = some (.cells #[.int .i64 (twoS p).n, .int .i64 (twoS p).s, .int .i64 (twoS p).d, .int .i64 (twoS p).fr] 54 (0, 0)) ∧ Below W.heap.size W wd))
   case first =>
    cases hov : lessB p.g p.f p.x with
    | true =>
     have HOV := mk_ hov
     clear hov q8
     gi_wp2
     obtain ⟨w9, hw9⟩ : ∃ w_, w_ = (((wc.setCell ⟨n9, 0, none⟩ (.int .i64 p.g.n)).setCell ⟨n9, 1, none⟩ (.int .i64 p.g.s)).setCell ⟨n9, 2, none⟩ (.int .i64 p.g.d)).setCell ⟨n9, 3, none⟩ (.int .i64 p.g.fr) := ⟨_, rfl⟩
     rw [← hw9]
     have BX9 := mk_ (show w9.heap[gx]? = some (.cells (cST p) 64 (0, 0)) by rw [hw9]; exact blk_far (p := ⟨n9, 3, none⟩) (blk_far (p := ⟨n9, 2, none⟩) (blk_far (p := ⟨n9, 1, none⟩) (blk_far (p := ⟨n9, 0, none⟩) (BX8.out) (blk_ne BX8.out B98.out (by decide)) _) (blk_ne BX8.out B98.out (by decide)) _) (blk_ne BX8.out B98.out (by decide)) _) (blk_ne BX8.out B98.out (by decide)) _)
     have BO9 := mk_ (show w9.heap[go]? = some (.cells #[.bool (lessB p.g p.f p.x)] 4 (0, 0)) by rw [hw9]; exact blk_far (p := ⟨n9, 3, none⟩) (blk_far (p := ⟨n9, 2, none⟩) (blk_far (p := ⟨n9, 1, none⟩) (blk_far (p := ⟨n9, 0, none⟩) (BO8.out) (blk_ne BO8.out B98.out (by decide)) _) (blk_ne BO8.out B98.out (by decide)) _) (blk_ne BO8.out B98.out (by decide)) _) (blk_ne BO8.out B98.out (by decide)) _)
     have B99 := mk_ (show w9.heap[n9]? = some (.cells #[.int .i64 p.g.n, .int .i64 p.g.s, .int .i64 p.g.d, .int .i64 p.g.fr] 54 (0, 0)) by rw [hw9]; exact blk_put (blk_put (blk_put (blk_put (B98.out) 0 _ rfl) 1 _ rfl) 2 _ rfl) 3 _ rfl)
     have B109 := mk_ (show w9.heap[n10]? = some (.cells #[.int .i64 p.g.n, .int .i64 p.g.s, .int .i64 p.g.d, .int .i64 p.g.fr] 54 (0, 0)) by rw [hw9]; exact blk_far (p := ⟨n9, 3, none⟩) (blk_far (p := ⟨n9, 2, none⟩) (blk_far (p := ⟨n9, 1, none⟩) (blk_far (p := ⟨n9, 0, none⟩) (B108.out) (nn2) _) (nn2) _) (nn2) _) (nn2) _)
     have HW9 := mk_ (show Below W.heap.size W w9 by rw [hw9]; exact below_set (below_set (below_set (below_set (HW8.out) GN.out.1) GN.out.1) GN.out.1) GN.out.1)
     clear hw9
     obtain ⟨w10, hw10⟩ : ∃ w_, w_ = (((w9.setCell ⟨n10, 0, none⟩ (.int .i64 p.f.n)).setCell ⟨n10, 1, none⟩ (.int .i64 p.f.s)).setCell ⟨n10, 2, none⟩ (.int .i64 p.f.d)).setCell ⟨n10, 3, none⟩ (.int .i64 p.f.fr) := ⟨_, rfl⟩
     rw [← hw10]
     have BX10 := mk_ (show w10.heap[gx]? = some (.cells (cST p) 64 (0, 0)) by rw [hw10]; exact blk_far (p := ⟨n10, 3, none⟩) (blk_far (p := ⟨n10, 2, none⟩) (blk_far (p := ⟨n10, 1, none⟩) (blk_far (p := ⟨n10, 0, none⟩) (BX9.out) (blk_ne BX9.out B109.out (by decide)) _) (blk_ne BX9.out B109.out (by decide)) _) (blk_ne BX9.out B109.out (by decide)) _) (blk_ne BX9.out B109.out (by decide)) _)
     have BO10 := mk_ (show w10.heap[go]? = some (.cells #[.bool (lessB p.g p.f p.x)] 4 (0, 0)) by rw [hw10]; exact blk_far (p := ⟨n10, 3, none⟩) (blk_far (p := ⟨n10, 2, none⟩) (blk_far (p := ⟨n10, 1, none⟩) (blk_far (p := ⟨n10, 0, none⟩) (BO9.out) (blk_ne BO9.out B109.out (by decide)) _) (blk_ne BO9.out B109.out (by decide)) _) (blk_ne BO9.out B109.out (by decide)) _) (blk_ne BO9.out B109.out (by decide)) _)
     have B1010 := mk_ (show w10.heap[n10]? = some (.cells #[.int .i64 p.f.n, .int .i64 p.f.s, .int .i64 p.f.d, .int .i64 p.f.fr] 54 (0, 0)) by rw [hw10]; exact blk_put (blk_put (blk_put (blk_put (B109.out) 0 _ rfl) 1 _ rfl) 2 _ rfl) 3 _ rfl)
     have B910 := mk_ (show w10.heap[n9]? = some (.cells #[.int .i64 p.g.n, .int .i64 p.g.s, .int .i64 p.g.d, .int .i64 p.g.fr] 54 (0, 0)) by rw [hw10]; exact blk_far (p := ⟨n10, 3, none⟩) (blk_far (p := ⟨n10, 2, none⟩) (blk_far (p := ⟨n10, 1, none⟩) (blk_far (p := ⟨n10, 0, none⟩) (B99.out) (nn1) _) (nn1) _) (nn1) _) (nn1) _)
     have HW10 := mk_ (show Below W.heap.size W w10 by rw [hw10]; exact below_set (below_set (below_set (below_set (HW9.out) GN.out.2) GN.out.2) GN.out.2) GN.out.2)
     clear hw10
     gi_meet
     case rel => exact ⟨⟨BX10.out, BO10.out, by unfold oneS overS; rw [HOV.out]; exact B910.out, by unfold twoS overS; rw [HOV.out]; exact B1010.out, HW10.out⟩⟩
    | false =>
     have HOV := mk_ hov
     clear hov q8
     gi_wp2
     gi_meet
     case rel => exact ⟨⟨BX8.out, BO8.out, by unfold oneS overS; rw [HOV.out]; exact B98.out, by unfold twoS overS; rw [HOV.out]; exact B108.out, HW8.out⟩⟩
   case rest =>
    obtain ⟨bx9, bo9, b99, b109, hw9⟩ := hcut.out
    obtain ⟨l1, hl1⟩ : ∃ l_, l_ = oneS p := ⟨_, rfl⟩
    obtain ⟨l2, hl2⟩ : ∃ l_, l_ = twoS p := ⟨_, rfl⟩
    obtain ⟨kk, hkk⟩ : ∃ k_, k_ = kS p := ⟨_, rfl⟩
    rw [← hl1] at b99
    rw [← hl2] at b109
    have KB := mk_ (show (0 ≤ kk ∧ p.x + kk ≤ p.u) ∧ 0 ≤ p.x ∧ p.x ≤ p.u ∧ p.u ≤ 1000000 by rw [hkk]; exact ⟨kS_le (HRG.out p hp), of_decide_eq_true (HRG.out p hp)⟩)
    obtain ⟨d1, hd1, hd2⟩ : ∃ c1, putO k b1 l1 p.x = some c1 ∧ (if p.x + kk < p.u then putO k c1 l2 (p.x + kk) else some c1) = some b2 := by
     have h_ := HP2.out
     unfold leastO at h_
     obtain ⟨c, q1, q2⟩ := Option.bind_eq_some_iff.1 h_
     exact ⟨c, by rw [hl1]; exact q1, by rw [hl2, hkk]; exact q2⟩
    have HPB := HP2
    have HL2 := mk_ (show d1.out.length ≤ 1000000 by have h1 := putO_len hd1; have := HLN.out; omega)
    have HD1 := mk_ hd1
    have HD2 := mk_ hd2
    have RD9 := mk_ (rd_below (b := b1) (v := v1) ⟨HBD.out, KeepsOthers.refl _, Below.refl _ _, rfl, rfl⟩ (below_size HBW.out) (blk_lt Q1.out) (blk_lt Q2.out) hw9)
    have BX9 := mk_ bx9
    have BO9 := mk_ bo9
    have B99 := mk_ b99
    have B109 := mk_ b109
    have HKK := mk_ (show bsearch (leastP p (lessB p.g p.f p.x)) (p.u - p.x).toNat 0 (p.u - p.x) = kk by rw [hkk]; rfl)
    have hx90 : wc.cell? ⟨gx, 0, none⟩ = some (.int .i64 p.x) := (blk_cell bx9 0).trans rfl
    have hx91 : wc.cell? ⟨gx, 1, none⟩ = some (.int .i64 p.u) := (blk_cell bx9 1).trans rfl
    have hy90 : wc.cell? ⟨n9, 0, none⟩ = some (.int .i64 l1.n) := (blk_cell b99 0).trans rfl
    have hy91 : wc.cell? ⟨n9, 1, none⟩ = some (.int .i64 l1.s) := (blk_cell b99 1).trans rfl
    have hy92 : wc.cell? ⟨n9, 2, none⟩ = some (.int .i64 l1.d) := (blk_cell b99 2).trans rfl
    have hy93 : wc.cell? ⟨n9, 3, none⟩ = some (.int .i64 l1.fr) := (blk_cell b99 3).trans rfl
    clear hl1 hl2 hkk hd1 hd2 b99 b109 bx9 bo9 hw9 hcut HBD HW8 BX8 BO8 B98 B108 GN
    have hz1 : p.u - p.x ≤ 9223372036854775807 := by have := KB.out; omega
    have hz2 : -9223372036854775808 ≤ p.u - p.x := by have := KB.out; omega
    have hz3 : p.x + kk ≤ 9223372036854775807 := by have := KB.out; omega
    have hz4 : -9223372036854775808 ≤ p.x + kk := by have := KB.out; omega
    by_cases hlt : p.x + kk < p.u
    ·have e1 : decide (p.x + kk < p.u) = true := decide_eq_true hlt
     have HD3 := mk_ (show putO k d1 l2 (p.x + kk) = some b2 by rw [← HD2.out, if_pos hlt])
     clear hlt HD2
     gi_upto_region 10 with (fail)
     refine round_region (by kernel_rfl) (by rintro ⟨_, _, h⟩; exact h) ?_
     go_wp2_with (first | (go_at_call 40; go_loud (with_reducible refine (put_calls k b1 d1 l1 p.x _ w.heap.size gb v1 GG.out RD9.out.1 (Nat.le_of_succ_le HLN.out) HD1.out).mono ?_); rintro e w10 ⟨⟨u_, rfl⟩, ⟨v2, hB2⟩, hbn, hko, hfr⟩; replace BX9 := mk_ ((hfr gx (blk_lt BX9.out) (blk_ne BX9.out RD9.out.1.1 (by decide)) (Kd.R_ne RD9.out.1.2 BX9.out (by decide))).trans BX9.out); replace BO9 := mk_ ((hfr go (blk_lt BO9.out) (blk_ne BO9.out RD9.out.1.1 (by decide)) (Kd.R_ne RD9.out.1.2 BO9.out (by decide))).trans BO9.out); replace B109 := mk_ ((hfr n10 (blk_lt B109.out) (blk_ne B109.out RD9.out.1.1 (by decide)) (Kd.R_ne RD9.out.1.2 B109.out (by decide))).trans B109.out); have hxa0 : w10.cell? ⟨gx, 0, none⟩ = some (.int .i64 p.x) := (blk_cell BX9.out 0).trans rfl; have hxa1 : w10.cell? ⟨gx, 1, none⟩ = some (.int .i64 p.u) := (blk_cell BX9.out 1).trans rfl; have hya0 : w10.cell? ⟨n10, 0, none⟩ = some (.int .i64 l2.n) := (blk_cell B109.out 0).trans rfl; have hya1 : w10.cell? ⟨n10, 1, none⟩ = some (.int .i64 l2.s) := (blk_cell B109.out 1).trans rfl; have hya2 : w10.cell? ⟨n10, 2, none⟩ = some (.int .i64 l2.d) := (blk_cell B109.out 2).trans rfl; have hya3 : w10.cell? ⟨n10, 3, none⟩ = some (.int .i64 l2.fr) := (blk_cell B109.out 3).trans rfl; have n0_ := mk_ (rd_put RD9.out Q1.out Q2.out NB.out hB2 hbn hko hfr); clear RD9; have RD9 := n0_; clear n0_ hB2 hbn hko hfr))
     gi_upto_region 11 with (fail)
     refine round_region (by kernel_rfl) (by rintro ⟨_, _, h⟩; exact h) ?_
     go_wp2_with (first | (go_at_call 50; (with_reducible refine (least_search (p.u - p.x) gx go (leastP p (lessB p.g p.f p.x)) _ (by have := KB.out; omega) (by have := KB.out; omega) (fun h_ W_ h0_ hh_ hW_ => least1_calls gx go p _ h_ W_ (blk_below BX9.out hW_) (blk_below BO9.out hW_))).mono ?_); rintro e w11 ⟨rfl, hb_⟩; rw [HKK.out]; have n0_ := mk_ (rd_below RD9.out (below_size HBW.out) (blk_lt Q1.out) (blk_lt Q2.out) hb_); have n1_ := mk_ (blk_below BX9.out hb_); have n2_ := mk_ (blk_below B109.out hb_); clear RD9 BX9 BO9 B109 hb_; have RD9 := n0_; have BX9 := n1_; have B109 := n2_; clear n0_ n1_ n2_; have hxb0 : w11.cell? ⟨gx, 0, none⟩ = some (.int .i64 p.x) := (blk_cell BX9.out 0).trans rfl; have hxb1 : w11.cell? ⟨gx, 1, none⟩ = some (.int .i64 p.u) := (blk_cell BX9.out 1).trans rfl; have hyb0 : w11.cell? ⟨n10, 0, none⟩ = some (.int .i64 l2.n) := (blk_cell B109.out 0).trans rfl; have hyb1 : w11.cell? ⟨n10, 1, none⟩ = some (.int .i64 l2.s) := (blk_cell B109.out 1).trans rfl; have hyb2 : w11.cell? ⟨n10, 2, none⟩ = some (.int .i64 l2.d) := (blk_cell B109.out 2).trans rfl; have hyb3 : w11.cell? ⟨n10, 3, none⟩ = some (.int .i64 l2.fr) := (blk_cell B109.out 3).trans rfl))
     gi_upto_region 13 with (fail)
     refine round_region (by kernel_rfl) (by rintro ⟨_, _, h⟩; exact h) ?_
     go_wp2_with (first | (go_at_call 40; go_loud (with_reducible refine (put_calls k d1 b2 l2 (p.x + kk) _ w.heap.size gb v2 GG.out RD9.out.1 HL2.out HD3.out).mono ?_); rintro e w12 ⟨⟨u_, rfl⟩, ⟨v3, hB2⟩, hbn, hko, hfr⟩; have n0_ := mk_ (rd_put RD9.out Q1.out Q2.out NB.out hB2 hbn hko hfr); clear RD9; have RD9 := n0_; clear n0_ hB2 hbn hko hfr))
     refine ⟨RD9.out.2.1.from _, ⟨RD9.out.2.2.1, RD9.out.2.2.2.1, RD9.out.2.2.2.2⟩, ⟨b2, v3, ?_, RD9.out.1⟩, RD9.out.2.2.2.1.trans Q1.out, RD9.out.2.2.2.2.trans Q2.out, HBW.out.trans RD9.out.2.2.1⟩
     rw [List.map_append, List.map_singleton, leastF_append, HF.out]
     exact HPB.out
    ·have e1 : decide (p.x + kk < p.u) = false := decide_eq_false hlt
     have HD3 := mk_ (show d1 = b2 by have h_ := HD2.out; rw [if_neg hlt] at h_; exact Option.some.inj h_)
     clear hlt HD2
     gi_upto_region 10 with (fail)
     refine round_region (by kernel_rfl) (by rintro ⟨_, _, h⟩; exact h) ?_
     go_wp2_with (first | (go_at_call 40; go_loud (with_reducible refine (put_calls k b1 d1 l1 p.x _ w.heap.size gb v1 GG.out RD9.out.1 (Nat.le_of_succ_le HLN.out) HD1.out).mono ?_); rintro e w10 ⟨⟨u_, rfl⟩, ⟨v2, hB2⟩, hbn, hko, hfr⟩; replace BX9 := mk_ ((hfr gx (blk_lt BX9.out) (blk_ne BX9.out RD9.out.1.1 (by decide)) (Kd.R_ne RD9.out.1.2 BX9.out (by decide))).trans BX9.out); replace BO9 := mk_ ((hfr go (blk_lt BO9.out) (blk_ne BO9.out RD9.out.1.1 (by decide)) (Kd.R_ne RD9.out.1.2 BO9.out (by decide))).trans BO9.out); replace B109 := mk_ ((hfr n10 (blk_lt B109.out) (blk_ne B109.out RD9.out.1.1 (by decide)) (Kd.R_ne RD9.out.1.2 B109.out (by decide))).trans B109.out); have hxa0 : w10.cell? ⟨gx, 0, none⟩ = some (.int .i64 p.x) := (blk_cell BX9.out 0).trans rfl; have hxa1 : w10.cell? ⟨gx, 1, none⟩ = some (.int .i64 p.u) := (blk_cell BX9.out 1).trans rfl; have hya0 : w10.cell? ⟨n10, 0, none⟩ = some (.int .i64 l2.n) := (blk_cell B109.out 0).trans rfl; have hya1 : w10.cell? ⟨n10, 1, none⟩ = some (.int .i64 l2.s) := (blk_cell B109.out 1).trans rfl; have hya2 : w10.cell? ⟨n10, 2, none⟩ = some (.int .i64 l2.d) := (blk_cell B109.out 2).trans rfl; have hya3 : w10.cell? ⟨n10, 3, none⟩ = some (.int .i64 l2.fr) := (blk_cell B109.out 3).trans rfl; have n0_ := mk_ (rd_put RD9.out Q1.out Q2.out NB.out hB2 hbn hko hfr); clear RD9; have RD9 := n0_; clear n0_ hB2 hbn hko hfr))
     gi_upto_region 11 with (fail)
     refine round_region (by kernel_rfl) (by rintro ⟨_, _, h⟩; exact h) ?_
     go_wp2_with (first | (go_at_call 50; (with_reducible refine (least_search (p.u - p.x) gx go (leastP p (lessB p.g p.f p.x)) _ (by have := KB.out; omega) (by have := KB.out; omega) (fun h_ W_ h0_ hh_ hW_ => least1_calls gx go p _ h_ W_ (blk_below BX9.out hW_) (blk_below BO9.out hW_))).mono ?_); rintro e w11 ⟨rfl, hb_⟩; rw [HKK.out]; have n0_ := mk_ (rd_below RD9.out (below_size HBW.out) (blk_lt Q1.out) (blk_lt Q2.out) hb_); have n1_ := mk_ (blk_below BX9.out hb_); have n2_ := mk_ (blk_below B109.out hb_); clear RD9 BX9 BO9 B109 hb_; have RD9 := n0_; have BX9 := n1_; have B109 := n2_; clear n0_ n1_ n2_; have hxb0 : w11.cell? ⟨gx, 0, none⟩ = some (.int .i64 p.x) := (blk_cell BX9.out 0).trans rfl; have hxb1 : w11.cell? ⟨gx, 1, none⟩ = some (.int .i64 p.u) := (blk_cell BX9.out 1).trans rfl; have hyb0 : w11.cell? ⟨n10, 0, none⟩ = some (.int .i64 l2.n) := (blk_cell B109.out 0).trans rfl; have hyb1 : w11.cell? ⟨n10, 1, none⟩ = some (.int .i64 l2.s) := (blk_cell B109.out 1).trans rfl; have hyb2 : w11.cell? ⟨n10, 2, none⟩ = some (.int .i64 l2.d) := (blk_cell B109.out 2).trans rfl; have hyb3 : w11.cell? ⟨n10, 3, none⟩ = some (.int .i64 l2.fr) := (blk_cell B109.out 3).trans rfl))
     gi_wp2_with (fail)
     have RD8 := RD9.out
     rw [HD3.out] at RD8
     refine ⟨RD8.2.1.from _, ⟨RD8.2.2.1, RD8.2.2.2.1, RD8.2.2.2.2⟩, ⟨b2, v2, ?_, RD8.1⟩, RD8.2.2.2.1.trans Q1.out, RD8.2.2.2.2.trans Q2.out, HBW.out.trans RD8.2.2.1⟩
     rw [List.map_append, List.map_singleton, leastF_append, HF.out]
     exact HPB.out
theorem least_bad0 (A0 A1 : Option Addr) (c0 c1 : Nat) (f g : List S51) (w : World) (hr0 : Kd.C k51 w A0 f.length f) (hc0 : f.length ≤ c0) (kf : Nat) (hv0 : piecewise_Valid.f kf f = some false) :
  Calls Try.prog 21 #[.slice A0 f.length c0, .slice A1 g.length c1] w fun e w' => e = .returned (.tuple #[.slice none 0 0, .int .i64 1]) ∧ Below w.heap.size w w' := by
 refine (callsIn_wide (n := 5)).1 ?_
 refine callsIn_of_wp_marks Try.func21 rfl trivial ?_ rfl
 simp only [Try.ntmps21, List.size_toArray, List.length_cons, List.length_nil, Nat.reduceAdd, Nat.reduceSub, Array.replicate_succ, Array.replicate_zero, List.push_toArray, List.append_toArray, List.nil_append, List.cons_append]
 refine wpIn_wide.2 (wp_calmS ?_)
 have HR0 := mk_ hr0
 have HC0 := mk_ hc0
 have HV0 := mk_ hv0
 clear hr0 hc0 hv0
 have HB := mk_ (Below.refl w.heap.size w)
 go_wp2_with (first | (go_at_call 14; (with_reducible refine (piecewise_Valid.calls kf A0 c0 f false _ (Kd.C_below HR0.out HB.out) HC0.out HV0.out).mono ?_); rintro e w1 ⟨rfl, hb_⟩; clear HV0; have n0_ := mk_ (below_step HB.out hb_); clear HB hb_; have HB := n0_; clear n0_))
 show bodyPostM _ _ _ _ _ .ret _ _
 exact postM_ret (results_tmp2 rfl _ _ _) ⟨rfl, HB.out⟩
theorem least_bad1 (A0 A1 : Option Addr) (c0 c1 : Nat) (f g : List S51) (w : World) (hr0 : Kd.C k51 w A0 f.length f) (hr1 : Kd.C k51 w A1 g.length g) (hc0 : f.length ≤ c0) (hc1 : g.length ≤ c1) (kf kg : Nat) (hv0 : piecewise_Valid.f kf f = some true) (hv1 : piecewise_Valid.f kg g = some false) :
  Calls Try.prog 21 #[.slice A0 f.length c0, .slice A1 g.length c1] w fun e w' => e = .returned (.tuple #[.slice none 0 0, .int .i64 1]) ∧ Below w.heap.size w w' := by
 refine (callsIn_wide (n := 5)).1 ?_
 refine callsIn_of_wp_marks Try.func21 rfl trivial ?_ rfl
 simp only [Try.ntmps21, List.size_toArray, List.length_cons, List.length_nil, Nat.reduceAdd, Nat.reduceSub, Array.replicate_succ, Array.replicate_zero, List.push_toArray, List.append_toArray, List.nil_append, List.cons_append]
 refine wpIn_wide.2 (wp_calmS ?_)
 have HR0 := mk_ hr0
 have HC0 := mk_ hc0
 have HV0 := mk_ hv0
 have HR1 := mk_ hr1
 have HC1 := mk_ hc1
 have HV1 := mk_ hv1
 clear hr0 hc0 hv0 hr1 hc1 hv1
 have HB := mk_ (Below.refl w.heap.size w)
 go_wp2_with (first | (go_at_call 14; (with_reducible refine (piecewise_Valid.calls kf A0 c0 f true _ (Kd.C_below HR0.out HB.out) HC0.out HV0.out).mono ?_); rintro e w1 ⟨rfl, hb_⟩; clear HV0; have n0_ := mk_ (below_step HB.out hb_); clear HB hb_; have HB := n0_; clear n0_) | (go_at_call 14; (with_reducible refine (piecewise_Valid.calls kg A1 c1 g false _ (Kd.C_below HR1.out HB.out) HC1.out HV1.out).mono ?_); rintro e w2 ⟨rfl, hb_⟩; have n0_ := mk_ (below_step HB.out hb_); clear HB hb_; have HB := n0_; clear n0_))
 show bodyPostM _ _ _ _ _ .ret _ _
 exact postM_ret (results_tmp2 rfl _ _ _) ⟨rfl, HB.out⟩
def okL (s : ST) : Bool := okST s && rngST s
theorem okL_at {s : ST} (h : okL s = true) : okST s = true ∧ rngST s = true := by
 unfold okL at h
 simpa using h
def piecewise_Least.f (l0 l1 : List S51) : Option (List S51 × Int) :=
 (piecewise_Valid.f kV l0).bind fun v0 => if v0 = true then ((piecewise_Valid.f kV l1).bind fun v1 => if v1 = true then ((stM l0 l1).bind fun M => if (stL l0 l1 M).all okL = true then (leastF kP b00 (stL l0 l1 M)).bind fun b => some (resO b) else none) else some ([], 1)) else some ([], 1)
theorem piecewise_Least.calls (A0 : Option Addr) (c0 : Nat) (l0 : List (S51)) (A1 : Option Addr) (c1 : Nat) (l1 : List (S51)) (r1 : List (S51)) (r2 : Int) (w : World) (hr0 : Kd.C k51 w A0 l0.length l0) (hc0 : l0.length ≤ c0) (hr1 : Kd.C k51 w A1 l1.length l1) (hc1 : l1.length ≤ c1) (h : piecewise_Least.f l0 l1 = some (r1, r2)) :
  Calls Try.prog 21 #[.slice A0 l0.length c0, .slice A1 l1.length c1] w fun e w' => ∃ v0_ : Value, e = .returned (.tuple #[v0_, .int .i64 r2]) ∧ Kd.R k51 51 w' w.heap.size (fun _ => True) v0_ r1 ∧ Below w.heap.size w w' := by
 unfold piecewise_Least.f at h
 obtain ⟨v0, hv0, h⟩ := Option.bind_eq_some_iff.1 h
 cases v0 with
 | false =>
  rw [if_neg (by decide)] at h
  simp only [Option.some.injEq, Prod.mk.injEq] at h
  obtain ⟨rfl, rfl⟩ := h
  exact (least_bad0 A0 A1 c0 c1 l0 l1 w hr0 hc0 kV hv0).mono (fun e w' h => ⟨_, h.1, Kd.R_nil _ _ _ _ _, h.2⟩)
 | true =>
  rw [if_pos rfl] at h
  obtain ⟨v1, hv1, h⟩ := Option.bind_eq_some_iff.1 h
  cases v1 with
  | false =>
   rw [if_neg (by decide)] at h
   simp only [Option.some.injEq, Prod.mk.injEq] at h
   obtain ⟨rfl, rfl⟩ := h
   exact (least_bad1 A0 A1 c0 c1 l0 l1 w hr0 hr1 hc0 hc1 kV kV hv0 hv1).mono (fun e w' h => ⟨_, h.1, Kd.R_nil _ _ _ _ _, h.2⟩)
  | true =>
   rw [if_pos rfl] at h
   obtain ⟨M, hM, h⟩ := Option.bind_eq_some_iff.1 h
   by_cases hall : (stL l0 l1 M).all okL = true
   case neg => rw [if_neg hall] at h; cases h
   rw [if_pos hall] at h
   obtain ⟨b, hb, h⟩ := Option.bind_eq_some_iff.1 h
   obtain ⟨hS, hM1⟩ := stM_at hM
   have h' := Option.some.inj h
   have e1 : (resO b).1 = r1 := congrArg Prod.fst h'
   have e2 : (resO b).2 = r2 := congrArg Prod.snd h'
   subst e1
   subst e2
   exact least_calls kP (fun s => okL s = true) (fun b xs x h1 h2 h3 => leastD (Nat.lt_of_le_of_lt (by decide) kP_lt) b xs x (fun y hy => (okL_at (h1 y hy)).1) (okL_at h2).1 h3) A0 A1 c0 c1 l0 l1 M hS hM1 (fun s h => (okL_at h).2) (List.all_eq_true.1 hall) w hr0 hr1 hc0 hc1 kV kV hv0 hv1 b hb
end
section
open Go.Proofs.YtmhimmodigeeiaaH
def belowP (s : ST) (fr h : Int) : Bool := lessB s.f s.g (wrap64 (fr + h))
theorem below1_calls (gs go : Nat) (s : ST) (fr h : Int) (w : World) (hs : w.heap[gs]? = some (.cells (cST s) 64 (0, 0))) (ho : w.heap[go]? = some (.cells #[.int .i64 fr] 3 (0, 0))) :
  Calls Try.prog 53 #[.int .i64 h, .pointer (some ⟨gs, 0, none⟩), .pointer (some ⟨go, 0, none⟩)] w fun e w' => e = .returned (.bool (belowP s fr h)) ∧ Below w.heap.size w w' := by
 have hu54 := Try.underlying54
 have hu64 := Try.underlying64
 have hx0 : w.cell? ⟨gs, 0, none⟩ = some (.int .i64 s.x) := (blk_cell hs 0).trans rfl
 have hx1 : w.cell? ⟨gs, 1, none⟩ = some (.int .i64 s.u) := (blk_cell hs 1).trans rfl
 have hx2 : w.cell? ⟨gs, 2, none⟩ = some (.int .i64 s.f.n) := (blk_cell hs 2).trans rfl
 have hx3 : w.cell? ⟨gs, 3, none⟩ = some (.int .i64 s.f.s) := (blk_cell hs 3).trans rfl
 have hx4 : w.cell? ⟨gs, 4, none⟩ = some (.int .i64 s.f.d) := (blk_cell hs 4).trans rfl
 have hx5 : w.cell? ⟨gs, 5, none⟩ = some (.int .i64 s.f.fr) := (blk_cell hs 5).trans rfl
 have hx6 : w.cell? ⟨gs, 6, none⟩ = some (.int .i64 s.g.n) := (blk_cell hs 6).trans rfl
 have hx7 : w.cell? ⟨gs, 7, none⟩ = some (.int .i64 s.g.s) := (blk_cell hs 7).trans rfl
 have hx8 : w.cell? ⟨gs, 8, none⟩ = some (.int .i64 s.g.d) := (blk_cell hs 8).trans rfl
 have hx9 : w.cell? ⟨gs, 9, none⟩ = some (.int .i64 s.g.fr) := (blk_cell hs 9).trans rfl
 have hz : w.cell? ⟨go, 0, none⟩ = some (.int .i64 fr) := (blk_cell ho 0).trans rfl
 have HW1 := mk_ (Below.refl w.heap.size w)
 clear hs ho
 go_enter Try.func53, Try.ntmps53
 go_wp2_with (first | (go_at_call 49; (with_reducible refine (lessB_calls s.f s.g (wrap64 (fr + h)) _).mono ?_); rintro e w5 ⟨rfl, hb_⟩; have n0_ := mk_ (below_step HW1.out hb_); clear HW1 hb_; have HW1 := n0_; clear n0_))
 go_ret
 exact ⟨rfl, HW1.out⟩
theorem below_search (n : Int) (b1 b2 : Nat) (P : Int → Bool) (w : World) (hn0 : 0 ≤ n) (hn1 : n ≤ 1000000000) (hf : ∀ (h : Int) (W : World), 0 ≤ h → h < n → Below w.heap.size w W → Calls Try.prog 53 #[.int .i64 h, .pointer (some ⟨b1, 0, none⟩), .pointer (some ⟨b2, 0, none⟩)] W fun e W' => e = .returned (.bool (P h)) ∧ Below W.heap.size W W') :
  Calls Try.prog 50 #[.int .i64 n, .func (.func 53) #[] #[.pointer (some ⟨b1, 0, none⟩), .pointer (some ⟨b2, 0, none⟩)]] w fun e w' => e = .returned (.int .i64 (bsearch P n.toNat 0 n)) ∧ Below w.heap.size w w' := by
 have HF := mk_ hf
 have HN := mk_ (And.intro hn0 hn1)
 have HB := mk_ (Below.refl w.heap.size w)
 obtain ⟨r, hr⟩ : ∃ r, r = bsearch P n.toNat 0 n := ⟨_, rfl⟩
 have HRS := mk_ hr.symm
 rw [← hr]
 clear hf hn0 hn1 hr
 go_enter Try.func50, Try.ntmps50
 go_wp2
 go_loopg [5, 6] n.toNat (fun kq v5 v6 w' => ∃ (i j : Int), v5 = .int .i64 i ∧ v6 = .int .i64 j ∧ Aside0 (bsearch P kq i j = r) ∧ Aside0 (0 ≤ i ∧ i ≤ j ∧ j ≤ n ∧ j - i ≤ kq) ∧ Aside0 (Below w.heap.size w w'))
 case atStart => exact ⟨0, n, rfl, rfl, HRS, ⟨by have := HN.out; omega⟩, HB⟩
 case round =>
  obtain ⟨i, j, rfl, rfl, HS, HK, HB⟩ := hrel
  by_cases hlt : i < j
  ·have c1 : decide (i < j) = true := decide_eq_true hlt
   obtain ⟨kk, hkk⟩ : ∃ kk, gk = kk + 1 := ⟨gk - 1, by have := HK.out; omega⟩
   have hz1 : i + j ≤ 9223372036854775807 := by have := HK.out; have := HN.out; omega
   have hz2 : -9223372036854775808 ≤ i + j := by have := HK.out; omega
   have hz3 : 0 ≤ i + j := by have := HK.out; omega
   have hz4 : i + j ≤ 18446744073709551615 := by omega
   have HM := mk_ (show 0 ≤ (i + j) / 2 ∧ (i + j) / 2 < n by have := HK.out; omega)
   have hz5 : (i + j) / 2 + 1 ≤ 9223372036854775807 := by omega
   have hz6 : -9223372036854775808 ≤ (i + j) / 2 + 1 := by omega
   have HLT := mk_ hlt
   have HKK := mk_ hkk
   have hs := HS.out
   rw [hkk] at hs
   unfold bsearch at hs
   rw [if_pos hlt] at hs
   clear hlt hkk
   cases hp : P ((i + j) / 2) with
   | true =>
    rw [hp, if_pos rfl] at hs
    have HP := mk_ hp
    have HS1 := mk_ hs
    clear hp hs
    go_wp2_with (first | ((with_reducible refine (HF.out ((i + j) / 2) _ HM.out.1 HM.out.2 HB.out).mono ?_); rintro e w1 ⟨rfl, hb⟩; have HB1 := mk_ hb; clear hb; rw [HP.out]))
    go_roundg kk
    case measure => have := HKK.out; omega
    case rel => exact ⟨i, (i + j) / 2, rfl, rfl, HS1, ⟨by have := HK.out; have := HLT.out; have := HKK.out; omega⟩, ⟨below_step HB.out HB1.out⟩⟩
   | false =>
    rw [hp, if_neg (by decide)] at hs
    have HP := mk_ hp
    have HS1 := mk_ hs
    clear hp hs
    go_wp2_with (first | ((with_reducible refine (HF.out ((i + j) / 2) _ HM.out.1 HM.out.2 HB.out).mono ?_); rintro e w1 ⟨rfl, hb⟩; have HB1 := mk_ hb; clear hb; rw [HP.out]))
    go_roundg kk
    case measure => have := HKK.out; omega
    case rel => exact ⟨(i + j) / 2 + 1, j, rfl, rfl, HS1, ⟨by have := HK.out; have := HLT.out; have := HKK.out; omega⟩, ⟨below_step HB.out HB1.out⟩⟩
  ·have c1 : decide (i < j) = false := decide_eq_false hlt
   have HE := mk_ (show r = i by
    rw [← HS.out]
    cases gk with
    | zero => rfl
    | succ k => unfold bsearch; rw [if_neg hlt])
   clear hlt
   go_wp2
   go_ret
   exact ⟨by rw [HE.out]; rfl, HB.out⟩
def bFrom (lo : Int) (s : ST) : Int := if s.x < lo then lo else s.x
def bUntil (hi : Int) (s : ST) : Int := if hi + 1 < s.u then hi + 1 else s.u
def bK (s : ST) (fr un : Int) : Int := bsearch (belowP s fr) (un - fr).toNat 0 (un - fr)
def belowO (lo hi : Int) (s : ST) : Option Int :=
 if bFrom lo s < bUntil hi s then
  if lessB s.f s.g (bFrom lo s) = true then some (bFrom lo s)
  else if bFrom lo s + bK s (bFrom lo s) (bUntil hi s) < bUntil hi s then some (bFrom lo s + bK s (bFrom lo s) (bUntil hi s)) else none
 else none
def belowR (lo hi : Int) (xs : List ST) : Int × Bool × Int := match xs.findSome? (belowO lo hi) with
 | some v => (v, true, 0)
 | none => (0, false, 0)
theorem belowR_none {lo hi : Int} {xs : List ST} (h : ∀ x, x ∈ xs → belowO lo hi x = none) : belowR lo hi xs = (0, false, 0) := by
 unfold belowR
 rw [List.findSome?_eq_none_iff.2 h]
theorem belowR_some {lo hi v : Int} {pre t : List ST} {x : ST} (h : ∀ y, y ∈ pre → belowO lo hi y = none) (hx : belowO lo hi x = some v) : belowR lo hi (pre ++ x :: t) = (v, true, 0) := by
 unfold belowR
 rw [List.findSome?_append, List.findSome?_eq_none_iff.2 h, List.findSome?_cons, hx]
 rfl
theorem results_3s {P : Program} {fn : Func} {p q r : Tmp} {t t' t'' : TypeId} (h : fn.results = #[.cell p t, .cell q t', .cell r t'']) (T : Array Value) (w : World) (g g' g'' : Nat) (v v' v'' : Value) (hp : T[p]?.getD undef = .pointer (some ⟨g, 0, none⟩)) (hq : T[q]?.getD undef = .pointer (some ⟨g', 0, none⟩)) (hr : T[r]?.getD undef = .pointer (some ⟨g'', 0, none⟩))
  (hu : ∀ w, (isAgg t).run P w = .ok false w) (hu' : ∀ w, (isAgg t').run P w = .ok false w) (hu'' : ∀ w, (isAgg t'').run P w = .ok false w)
  (hc : w.cell? ⟨g, 0, none⟩ = some v) (hc' : w.cell? ⟨g', 0, none⟩ = some v') (hc'' : w.cell? ⟨g'', 0, none⟩ = some v'') : (results fn T).run P w = .ok (.tuple #[v, v', v'']) w := by
 simp [results, h, hp, hq, hr, asAddr, loadVar, hu, hu', hu'', hc, hc', hc'']
theorem cells_put {w : World} {g D : Nat} {o o' : Obj} (h : w.heap[g]? = some o) (hD : w.heap[D]? = some o') (hne : o.isCells = true) (hn : o'.isCells = false) (x : Obj) : (w.putObj D x).heap[g]? = some o :=
 (World.putObj_heap_other (fun e => by rw [e, hD] at h; cases h; rw [hn] at hne; cases hne)).trans h
theorem postM_done {F : Fence} {n : Nat} {P : Program} {fn : Func} {R : Ending → World → Prop} {T : Array Value} {v : Value} {D : Nat} {w : World} (hD : w.heap[D]? = some (.deferred (some []))) (h : (results fn T).run P (w.putObj D (.deferred none)) = .ok v (w.putObj D (.deferred none))) (hR : R (.returned v) (w.putObj D (.deferred none))) :
  bodyPostM F n P fn R .ret { tmps := T, defers := [{ target := .collected D, args := #[] }] } w := ⟨by simp, .inl ⟨_, _, rfl, run_takeDeferred hD, v, h, hR⟩⟩
theorem dne {w : World} {D g : Nat} {cs : Array Value} {t : TypeId} {fr : Nat × Nat} {l : Option (List Deferred)} (h : w.heap[D]? = some (.deferred l)) (h' : w.heap[g]? = some (.cells cs t fr)) : D ≠ g := by
 rintro rfl
 rw [h] at h'
 cases h'
theorem uInt (w : World) : (isAgg 3).run Try.prog w = .ok false w := by have hu := Try.underlying3; simp [isAgg, run_underlying hu]
theorem uBool (w : World) : (isAgg 4).run Try.prog w = .ok false w := by have hu := Try.underlying4; simp [isAgg, run_underlying hu]
theorem uErr (w : World) : (isAgg 29).run Try.prog w = .ok false w := by have hu := Try.underlying29; simp [isAgg, run_underlying hu]
attribute [local go_sem] Oper.semAt_some
set_option maxHeartbeats 16000000 in
theorem below_bad (A0 A1 : Option Addr) (c0 c1 : Nat) (f g : List S51) (lo hi : Int) (w : World) (hr0 : Kd.C k51 w A0 f.length f) (hr1 : Kd.C k51 w A1 g.length g) (hc0 : f.length ≤ c0) (hc1 : g.length ≤ c1) (kf kg : Nat) (v0 : Bool) (hv0 : piecewise_Valid.f kf f = some v0) (hg : v0 = true → ∃ v1, piecewise_Valid.f kg g = some v1 ∧ (v1 = true → lo < 0 ∨ hi < lo ∨ 100000 < hi)) :
  Calls Try.prog 23 #[.slice A0 f.length c0, .slice A1 g.length c1, .agg #[.int .i64 lo, .int .i64 hi]] w fun e w' => e = .returned (.tuple #[.int .i64 0, .bool false, .int .i64 1]) ∧ Below w.heap.size w w' := by
 refine (callsIn_wide (n := 5)).1 ?_
 refine callsIn_of_wp_marks Try.func23 rfl trivial ?_ rfl
 simp only [Try.ntmps23, List.size_toArray, List.length_cons, List.length_nil, Nat.reduceAdd, Nat.reduceSub, Array.replicate_succ, Array.replicate_zero, List.push_toArray, List.append_toArray, List.nil_append, List.cons_append]
 refine wpIn_wide.2 (wp_calmS ?_)
 have hu26 := Try.underlying26
 have HR0 := mk_ hr0
 have HR1 := mk_ hr1
 have HC0 := mk_ hc0
 have HC1 := mk_ hc1
 have HV0 := mk_ hv0
 clear hr0 hr1 hc0 hc1 hv0
 have HB := mk_ (Below.refl w.heap.size w)
 go_upto_region 1 with (first | ((with_reducible refine gate_dst (N := 5) rfl ?_); refine box_event ?hg (N := 5) ?hd (cs := #[.int .i64 lo, .int .i64 hi]) (t := 26) ?hr ?_; (case hd => rfl); (case hg => rfl); (case hr => first | (go_simp; done) | (go_simp; rfl)); intro g5 hg_E w5 hbox_ hb_; have n0_ := mk_ (below_step HB.out hb_); have BE := mk_ hbox_; have GE := mk_ (show w.heap.size ≤ g5 by rw [hg_E]; exact below_size HB.out); have EE := mk_ hg_E; have hcE0 : w5.cell? ⟨g5, 0, none⟩ = some (.int .i64 lo) := (blk_cell hbox_ 0).trans rfl; have hfE0 := blk_frozen hbox_ 0; have hcE1 : w5.cell? ⟨g5, 1, none⟩ = some (.int .i64 hi) := (blk_cell hbox_ 1).trans rfl; have hfE1 := blk_frozen hbox_ 1; clear HB hg_E hbox_ hb_; have HB := n0_; clear n0_) | ((with_reducible refine gate_dst (N := 6) rfl ?_); refine box_event ?hg (N := 6) ?hd (cs := #[.int .i64 0]) (t := 3) ?hr ?_; (case hd => rfl); (case hg => rfl); (case hr => first | (go_simp; done) | (go_simp; rfl)); intro g6 hg_F w6 hbox_ hb_; have n0_ := mk_ (below_step HB.out hb_); have BF := mk_ hbox_; have GF := mk_ (show w.heap.size ≤ g6 by rw [hg_F]; exact below_size HB.out); have EF := mk_ hg_F; have hcF0 : w6.cell? ⟨g6, 0, none⟩ = some (.int .i64 0) := (blk_cell hbox_ 0).trans rfl; have hfF0 := blk_frozen hbox_ 0; have BE := mk_ (blk_below BE.out hb_); clear hcE0 hfE0 hcE1 hfE1; have hcE0 : w6.cell? ⟨g5, 0, none⟩ = some (.int .i64 lo) := (blk_cell BE.out 0).trans rfl; have hfE0 := blk_frozen BE.out 0; have hcE1 : w6.cell? ⟨g5, 1, none⟩ = some (.int .i64 hi) := (blk_cell BE.out 1).trans rfl; have hfE1 := blk_frozen BE.out 1; clear HB hg_F hbox_ hb_; have HB := n0_; clear n0_) | ((with_reducible refine gate_dst (N := 7) rfl ?_); refine box_event ?hg (N := 7) ?hd (cs := #[.bool false]) (t := 4) ?hr ?_; (case hd => rfl); (case hg => rfl); (case hr => first | (go_simp; done) | (go_simp; rfl)); intro g7 hg_G w7 hbox_ hb_; have n0_ := mk_ (below_step HB.out hb_); have BG := mk_ hbox_; have GG := mk_ (show w.heap.size ≤ g7 by rw [hg_G]; exact below_size HB.out); have EG := mk_ hg_G; have hcG0 : w7.cell? ⟨g7, 0, none⟩ = some (.bool false) := (blk_cell hbox_ 0).trans rfl; have hfG0 := blk_frozen hbox_ 0; have BE := mk_ (blk_below BE.out hb_); clear hcE0 hfE0 hcE1 hfE1; have hcE0 : w7.cell? ⟨g5, 0, none⟩ = some (.int .i64 lo) := (blk_cell BE.out 0).trans rfl; have hfE0 := blk_frozen BE.out 0; have hcE1 : w7.cell? ⟨g5, 1, none⟩ = some (.int .i64 hi) := (blk_cell BE.out 1).trans rfl; have hfE1 := blk_frozen BE.out 1; have BF := mk_ (blk_below BF.out hb_); clear hcF0 hfF0; have hcF0 : w7.cell? ⟨g6, 0, none⟩ = some (.int .i64 0) := (blk_cell BF.out 0).trans rfl; have hfF0 := blk_frozen BF.out 0; clear HB hg_G hbox_ hb_; have HB := n0_; clear n0_) | ((with_reducible refine gate_dst (N := 8) rfl ?_); refine box_event ?hg (N := 8) ?hd (cs := #[.int .i64 0]) (t := 29) ?hr ?_; (case hd => rfl); (case hg => rfl); (case hr => first | (go_simp; done) | (go_simp; rfl)); intro g8 hg_H w8 hbox_ hb_; have n0_ := mk_ (below_step HB.out hb_); have BH := mk_ hbox_; have GH := mk_ (show w.heap.size ≤ g8 by rw [hg_H]; exact below_size HB.out); have EH := mk_ hg_H; have hcH0 : w8.cell? ⟨g8, 0, none⟩ = some (.int .i64 0) := (blk_cell hbox_ 0).trans rfl; have hfH0 := blk_frozen hbox_ 0; have BE := mk_ (blk_below BE.out hb_); clear hcE0 hfE0 hcE1 hfE1; have hcE0 : w8.cell? ⟨g5, 0, none⟩ = some (.int .i64 lo) := (blk_cell BE.out 0).trans rfl; have hfE0 := blk_frozen BE.out 0; have hcE1 : w8.cell? ⟨g5, 1, none⟩ = some (.int .i64 hi) := (blk_cell BE.out 1).trans rfl; have hfE1 := blk_frozen BE.out 1; have BF := mk_ (blk_below BF.out hb_); clear hcF0 hfF0; have hcF0 : w8.cell? ⟨g6, 0, none⟩ = some (.int .i64 0) := (blk_cell BF.out 0).trans rfl; have hfF0 := blk_frozen BF.out 0; have BG := mk_ (blk_below BG.out hb_); clear hcG0 hfG0; have hcG0 : w8.cell? ⟨g7, 0, none⟩ = some (.bool false) := (blk_cell BG.out 0).trans rfl; have hfG0 := blk_frozen BG.out 0; clear HB hg_H hbox_ hb_; have HB := n0_; clear n0_))
 cases v0 with
 | false =>
  clear hg
  go_wp2_with (first | (go_at_call 14; (with_reducible refine (piecewise_Valid.calls kf A0 c0 f false _ (Kd.C_below HR0.out HB.out) HC0.out HV0.out).mono ?_); rintro e w9 ⟨rfl, hb_⟩; have n0_ := mk_ (below_step HB.out hb_); have BE := mk_ (blk_below BE.out hb_); clear hcE0 hfE0 hcE1 hfE1; have hcE0 : w9.cell? ⟨g5, 0, none⟩ = some (.int .i64 lo) := (blk_cell BE.out 0).trans rfl; have hfE0 := blk_frozen BE.out 0; have hcE1 : w9.cell? ⟨g5, 1, none⟩ = some (.int .i64 hi) := (blk_cell BE.out 1).trans rfl; have hfE1 := blk_frozen BE.out 1; have BF := mk_ (blk_below BF.out hb_); clear hcF0 hfF0; have hcF0 : w9.cell? ⟨g6, 0, none⟩ = some (.int .i64 0) := (blk_cell BF.out 0).trans rfl; have hfF0 := blk_frozen BF.out 0; have BG := mk_ (blk_below BG.out hb_); clear hcG0 hfG0; have hcG0 : w9.cell? ⟨g7, 0, none⟩ = some (.bool false) := (blk_cell BG.out 0).trans rfl; have hfG0 := blk_frozen BG.out 0; have BH := mk_ (blk_below BH.out hb_); clear hcH0 hfH0; have hcH0 : w9.cell? ⟨g8, 0, none⟩ = some (.int .i64 0) := (blk_cell BH.out 0).trans rfl; have hfH0 := blk_frozen BH.out 0; clear HB hb_; have HB := n0_; clear n0_; have n67 := blk_ne BF.out BG.out (by decide); have n68 := blk_ne BF.out BH.out (by decide); have n78 := blk_ne BG.out BH.out (by decide); have n76 := n67.symm; have n86 := n68.symm; have n87 := n78.symm))
  show bodyPostM _ _ _ _ _ .ret _ _
  refine postM_ret (results_3s rfl _ _ g6 g7 g8 (.int .i64 0) (.bool false) (.int .i64 1) rfl rfl rfl uInt uBool uErr ?_ ?_ ?_) ⟨rfl, ?_⟩
  ·exact (blk_cell (blk_far (p := ⟨g8, 0, none⟩) (blk_far (p := ⟨g7, 0, none⟩) (blk_put BF.out 0 (.int .i64 0) rfl) (blk_ne BF.out BG.out (by decide)) _) (blk_ne BF.out BH.out (by decide)) _) 0).trans rfl
  ·exact (blk_cell (blk_far (p := ⟨g8, 0, none⟩) (blk_put (blk_far (p := ⟨g6, 0, none⟩) BG.out (blk_ne BG.out BF.out (by decide)) _) 0 (.bool false) rfl) (blk_ne BG.out BH.out (by decide)) _) 0).trans rfl
  ·exact (blk_cell (blk_put (blk_far (p := ⟨g7, 0, none⟩) (blk_far (p := ⟨g6, 0, none⟩) BH.out (blk_ne BH.out BF.out (by decide)) _) (blk_ne BH.out BG.out (by decide)) _) 0 (.int .i64 1) rfl) 0).trans rfl
  ·exact below_set (below_set (below_set HB.out GF.out) GG.out) GH.out
 | true =>
  obtain ⟨v1, hv1, hb⟩ := hg rfl
  have HV1 := mk_ hv1
  clear hv1 hg
  cases v1 with
  | false =>
   clear hb
   go_wp2_with (first | (go_at_call 14; (with_reducible refine (piecewise_Valid.calls kf A0 c0 f true _ (Kd.C_below HR0.out HB.out) HC0.out HV0.out).mono ?_); rintro e w9 ⟨rfl, hb_⟩; have n0_ := mk_ (below_step HB.out hb_); have BE := mk_ (blk_below BE.out hb_); clear hcE0 hfE0 hcE1 hfE1; have hcE0 : w9.cell? ⟨g5, 0, none⟩ = some (.int .i64 lo) := (blk_cell BE.out 0).trans rfl; have hfE0 := blk_frozen BE.out 0; have hcE1 : w9.cell? ⟨g5, 1, none⟩ = some (.int .i64 hi) := (blk_cell BE.out 1).trans rfl; have hfE1 := blk_frozen BE.out 1; have BF := mk_ (blk_below BF.out hb_); clear hcF0 hfF0; have hcF0 : w9.cell? ⟨g6, 0, none⟩ = some (.int .i64 0) := (blk_cell BF.out 0).trans rfl; have hfF0 := blk_frozen BF.out 0; have BG := mk_ (blk_below BG.out hb_); clear hcG0 hfG0; have hcG0 : w9.cell? ⟨g7, 0, none⟩ = some (.bool false) := (blk_cell BG.out 0).trans rfl; have hfG0 := blk_frozen BG.out 0; have BH := mk_ (blk_below BH.out hb_); clear hcH0 hfH0; have hcH0 : w9.cell? ⟨g8, 0, none⟩ = some (.int .i64 0) := (blk_cell BH.out 0).trans rfl; have hfH0 := blk_frozen BH.out 0; clear HB hb_; have HB := n0_; clear n0_; have n67 := blk_ne BF.out BG.out (by decide); have n68 := blk_ne BF.out BH.out (by decide); have n78 := blk_ne BG.out BH.out (by decide); have n76 := n67.symm; have n86 := n68.symm; have n87 := n78.symm) | (go_at_call 14; (with_reducible refine (piecewise_Valid.calls kg A1 c1 g false _ (Kd.C_below HR1.out HB.out) HC1.out HV1.out).mono ?_); rintro e w10 ⟨rfl, hb_⟩; have n0_ := mk_ (below_step HB.out hb_); have BE := mk_ (blk_below BE.out hb_); clear hcE0 hfE0 hcE1 hfE1; have hcE0 : w10.cell? ⟨g5, 0, none⟩ = some (.int .i64 lo) := (blk_cell BE.out 0).trans rfl; have hfE0 := blk_frozen BE.out 0; have hcE1 : w10.cell? ⟨g5, 1, none⟩ = some (.int .i64 hi) := (blk_cell BE.out 1).trans rfl; have hfE1 := blk_frozen BE.out 1; have BF := mk_ (blk_below BF.out hb_); clear hcF0 hfF0; have hcF0 : w10.cell? ⟨g6, 0, none⟩ = some (.int .i64 0) := (blk_cell BF.out 0).trans rfl; have hfF0 := blk_frozen BF.out 0; have BG := mk_ (blk_below BG.out hb_); clear hcG0 hfG0; have hcG0 : w10.cell? ⟨g7, 0, none⟩ = some (.bool false) := (blk_cell BG.out 0).trans rfl; have hfG0 := blk_frozen BG.out 0; have BH := mk_ (blk_below BH.out hb_); clear hcH0 hfH0; have hcH0 : w10.cell? ⟨g8, 0, none⟩ = some (.int .i64 0) := (blk_cell BH.out 0).trans rfl; have hfH0 := blk_frozen BH.out 0; clear HB hb_; have HB := n0_; clear n0_))
   show bodyPostM _ _ _ _ _ .ret _ _
   refine postM_ret (results_3s rfl _ _ g6 g7 g8 (.int .i64 0) (.bool false) (.int .i64 1) rfl rfl rfl uInt uBool uErr ?_ ?_ ?_) ⟨rfl, ?_⟩
   ·exact (blk_cell (blk_far (p := ⟨g8, 0, none⟩) (blk_far (p := ⟨g7, 0, none⟩) (blk_put BF.out 0 (.int .i64 0) rfl) (blk_ne BF.out BG.out (by decide)) _) (blk_ne BF.out BH.out (by decide)) _) 0).trans rfl
   ·exact (blk_cell (blk_far (p := ⟨g8, 0, none⟩) (blk_put (blk_far (p := ⟨g6, 0, none⟩) BG.out (blk_ne BG.out BF.out (by decide)) _) 0 (.bool false) rfl) (blk_ne BG.out BH.out (by decide)) _) 0).trans rfl
   ·exact (blk_cell (blk_put (blk_far (p := ⟨g7, 0, none⟩) (blk_far (p := ⟨g6, 0, none⟩) BH.out (blk_ne BH.out BF.out (by decide)) _) (blk_ne BH.out BG.out (by decide)) _) 0 (.int .i64 1) rfl) 0).trans rfl
   ·exact below_set (below_set (below_set HB.out GF.out) GG.out) GH.out
  | true =>
   have hb := hb rfl
   by_cases h1 : lo < 0
   ·have d1 : decide (lo < 0) = true := decide_eq_true h1
    clear hb h1
    go_wp2_with (first | (go_at_call 14; (with_reducible refine (piecewise_Valid.calls kf A0 c0 f true _ (Kd.C_below HR0.out HB.out) HC0.out HV0.out).mono ?_); rintro e w9 ⟨rfl, hb_⟩; have n0_ := mk_ (below_step HB.out hb_); have BE := mk_ (blk_below BE.out hb_); clear hcE0 hfE0 hcE1 hfE1; have hcE0 : w9.cell? ⟨g5, 0, none⟩ = some (.int .i64 lo) := (blk_cell BE.out 0).trans rfl; have hfE0 := blk_frozen BE.out 0; have hcE1 : w9.cell? ⟨g5, 1, none⟩ = some (.int .i64 hi) := (blk_cell BE.out 1).trans rfl; have hfE1 := blk_frozen BE.out 1; have BF := mk_ (blk_below BF.out hb_); clear hcF0 hfF0; have hcF0 : w9.cell? ⟨g6, 0, none⟩ = some (.int .i64 0) := (blk_cell BF.out 0).trans rfl; have hfF0 := blk_frozen BF.out 0; have BG := mk_ (blk_below BG.out hb_); clear hcG0 hfG0; have hcG0 : w9.cell? ⟨g7, 0, none⟩ = some (.bool false) := (blk_cell BG.out 0).trans rfl; have hfG0 := blk_frozen BG.out 0; have BH := mk_ (blk_below BH.out hb_); clear hcH0 hfH0; have hcH0 : w9.cell? ⟨g8, 0, none⟩ = some (.int .i64 0) := (blk_cell BH.out 0).trans rfl; have hfH0 := blk_frozen BH.out 0; clear HB hb_; have HB := n0_; clear n0_; have n67 := blk_ne BF.out BG.out (by decide); have n68 := blk_ne BF.out BH.out (by decide); have n78 := blk_ne BG.out BH.out (by decide); have n76 := n67.symm; have n86 := n68.symm; have n87 := n78.symm) | (go_at_call 14; (with_reducible refine (piecewise_Valid.calls kg A1 c1 g true _ (Kd.C_below HR1.out HB.out) HC1.out HV1.out).mono ?_); rintro e w10 ⟨rfl, hb_⟩; have n0_ := mk_ (below_step HB.out hb_); have BE := mk_ (blk_below BE.out hb_); clear hcE0 hfE0 hcE1 hfE1; have hcE0 : w10.cell? ⟨g5, 0, none⟩ = some (.int .i64 lo) := (blk_cell BE.out 0).trans rfl; have hfE0 := blk_frozen BE.out 0; have hcE1 : w10.cell? ⟨g5, 1, none⟩ = some (.int .i64 hi) := (blk_cell BE.out 1).trans rfl; have hfE1 := blk_frozen BE.out 1; have BF := mk_ (blk_below BF.out hb_); clear hcF0 hfF0; have hcF0 : w10.cell? ⟨g6, 0, none⟩ = some (.int .i64 0) := (blk_cell BF.out 0).trans rfl; have hfF0 := blk_frozen BF.out 0; have BG := mk_ (blk_below BG.out hb_); clear hcG0 hfG0; have hcG0 : w10.cell? ⟨g7, 0, none⟩ = some (.bool false) := (blk_cell BG.out 0).trans rfl; have hfG0 := blk_frozen BG.out 0; have BH := mk_ (blk_below BH.out hb_); clear hcH0 hfH0; have hcH0 : w10.cell? ⟨g8, 0, none⟩ = some (.int .i64 0) := (blk_cell BH.out 0).trans rfl; have hfH0 := blk_frozen BH.out 0; clear HB hb_; have HB := n0_; clear n0_))
    show bodyPostM _ _ _ _ _ .ret _ _
    refine postM_ret (results_3s rfl _ _ g6 g7 g8 (.int .i64 0) (.bool false) (.int .i64 1) rfl rfl rfl uInt uBool uErr ?_ ?_ ?_) ⟨rfl, ?_⟩
    ·exact (blk_cell (blk_far (p := ⟨g8, 0, none⟩) (blk_far (p := ⟨g7, 0, none⟩) (blk_put BF.out 0 (.int .i64 0) rfl) (blk_ne BF.out BG.out (by decide)) _) (blk_ne BF.out BH.out (by decide)) _) 0).trans rfl
    ·exact (blk_cell (blk_far (p := ⟨g8, 0, none⟩) (blk_put (blk_far (p := ⟨g6, 0, none⟩) BG.out (blk_ne BG.out BF.out (by decide)) _) 0 (.bool false) rfl) (blk_ne BG.out BH.out (by decide)) _) 0).trans rfl
    ·exact (blk_cell (blk_put (blk_far (p := ⟨g7, 0, none⟩) (blk_far (p := ⟨g6, 0, none⟩) BH.out (blk_ne BH.out BF.out (by decide)) _) (blk_ne BH.out BG.out (by decide)) _) 0 (.int .i64 1) rfl) 0).trans rfl
    ·exact below_set (below_set (below_set HB.out GF.out) GG.out) GH.out
   ·have d1 : decide (lo < 0) = false := decide_eq_false h1
    by_cases h2 : hi < lo
    ·have d2 : decide (hi < lo) = true := decide_eq_true h2
     clear hb h1 h2
     go_wp2_with (first | (go_at_call 14; (with_reducible refine (piecewise_Valid.calls kf A0 c0 f true _ (Kd.C_below HR0.out HB.out) HC0.out HV0.out).mono ?_); rintro e w9 ⟨rfl, hb_⟩; have n0_ := mk_ (below_step HB.out hb_); have BE := mk_ (blk_below BE.out hb_); clear hcE0 hfE0 hcE1 hfE1; have hcE0 : w9.cell? ⟨g5, 0, none⟩ = some (.int .i64 lo) := (blk_cell BE.out 0).trans rfl; have hfE0 := blk_frozen BE.out 0; have hcE1 : w9.cell? ⟨g5, 1, none⟩ = some (.int .i64 hi) := (blk_cell BE.out 1).trans rfl; have hfE1 := blk_frozen BE.out 1; have BF := mk_ (blk_below BF.out hb_); clear hcF0 hfF0; have hcF0 : w9.cell? ⟨g6, 0, none⟩ = some (.int .i64 0) := (blk_cell BF.out 0).trans rfl; have hfF0 := blk_frozen BF.out 0; have BG := mk_ (blk_below BG.out hb_); clear hcG0 hfG0; have hcG0 : w9.cell? ⟨g7, 0, none⟩ = some (.bool false) := (blk_cell BG.out 0).trans rfl; have hfG0 := blk_frozen BG.out 0; have BH := mk_ (blk_below BH.out hb_); clear hcH0 hfH0; have hcH0 : w9.cell? ⟨g8, 0, none⟩ = some (.int .i64 0) := (blk_cell BH.out 0).trans rfl; have hfH0 := blk_frozen BH.out 0; clear HB hb_; have HB := n0_; clear n0_; have n67 := blk_ne BF.out BG.out (by decide); have n68 := blk_ne BF.out BH.out (by decide); have n78 := blk_ne BG.out BH.out (by decide); have n76 := n67.symm; have n86 := n68.symm; have n87 := n78.symm) | (go_at_call 14; (with_reducible refine (piecewise_Valid.calls kg A1 c1 g true _ (Kd.C_below HR1.out HB.out) HC1.out HV1.out).mono ?_); rintro e w10 ⟨rfl, hb_⟩; have n0_ := mk_ (below_step HB.out hb_); have BE := mk_ (blk_below BE.out hb_); clear hcE0 hfE0 hcE1 hfE1; have hcE0 : w10.cell? ⟨g5, 0, none⟩ = some (.int .i64 lo) := (blk_cell BE.out 0).trans rfl; have hfE0 := blk_frozen BE.out 0; have hcE1 : w10.cell? ⟨g5, 1, none⟩ = some (.int .i64 hi) := (blk_cell BE.out 1).trans rfl; have hfE1 := blk_frozen BE.out 1; have BF := mk_ (blk_below BF.out hb_); clear hcF0 hfF0; have hcF0 : w10.cell? ⟨g6, 0, none⟩ = some (.int .i64 0) := (blk_cell BF.out 0).trans rfl; have hfF0 := blk_frozen BF.out 0; have BG := mk_ (blk_below BG.out hb_); clear hcG0 hfG0; have hcG0 : w10.cell? ⟨g7, 0, none⟩ = some (.bool false) := (blk_cell BG.out 0).trans rfl; have hfG0 := blk_frozen BG.out 0; have BH := mk_ (blk_below BH.out hb_); clear hcH0 hfH0; have hcH0 : w10.cell? ⟨g8, 0, none⟩ = some (.int .i64 0) := (blk_cell BH.out 0).trans rfl; have hfH0 := blk_frozen BH.out 0; clear HB hb_; have HB := n0_; clear n0_))
     show bodyPostM _ _ _ _ _ .ret _ _
     refine postM_ret (results_3s rfl _ _ g6 g7 g8 (.int .i64 0) (.bool false) (.int .i64 1) rfl rfl rfl uInt uBool uErr ?_ ?_ ?_) ⟨rfl, ?_⟩
     ·exact (blk_cell (blk_far (p := ⟨g8, 0, none⟩) (blk_far (p := ⟨g7, 0, none⟩) (blk_put BF.out 0 (.int .i64 0) rfl) (blk_ne BF.out BG.out (by decide)) _) (blk_ne BF.out BH.out (by decide)) _) 0).trans rfl
     ·exact (blk_cell (blk_far (p := ⟨g8, 0, none⟩) (blk_put (blk_far (p := ⟨g6, 0, none⟩) BG.out (blk_ne BG.out BF.out (by decide)) _) 0 (.bool false) rfl) (blk_ne BG.out BH.out (by decide)) _) 0).trans rfl
     ·exact (blk_cell (blk_put (blk_far (p := ⟨g7, 0, none⟩) (blk_far (p := ⟨g6, 0, none⟩) BH.out (blk_ne BH.out BF.out (by decide)) _) (blk_ne BH.out BG.out (by decide)) _) 0 (.int .i64 1) rfl) 0).trans rfl
     ·exact below_set (below_set (below_set HB.out GF.out) GG.out) GH.out
    ·have d2 : decide (hi < lo) = false := decide_eq_false h2
     have d3 : decide (100000 < hi) = true := decide_eq_true (by omega)
     clear hb h1 h2
     go_wp2_with (first | (go_at_call 14; (with_reducible refine (piecewise_Valid.calls kf A0 c0 f true _ (Kd.C_below HR0.out HB.out) HC0.out HV0.out).mono ?_); rintro e w9 ⟨rfl, hb_⟩; have n0_ := mk_ (below_step HB.out hb_); have BE := mk_ (blk_below BE.out hb_); clear hcE0 hfE0 hcE1 hfE1; have hcE0 : w9.cell? ⟨g5, 0, none⟩ = some (.int .i64 lo) := (blk_cell BE.out 0).trans rfl; have hfE0 := blk_frozen BE.out 0; have hcE1 : w9.cell? ⟨g5, 1, none⟩ = some (.int .i64 hi) := (blk_cell BE.out 1).trans rfl; have hfE1 := blk_frozen BE.out 1; have BF := mk_ (blk_below BF.out hb_); clear hcF0 hfF0; have hcF0 : w9.cell? ⟨g6, 0, none⟩ = some (.int .i64 0) := (blk_cell BF.out 0).trans rfl; have hfF0 := blk_frozen BF.out 0; have BG := mk_ (blk_below BG.out hb_); clear hcG0 hfG0; have hcG0 : w9.cell? ⟨g7, 0, none⟩ = some (.bool false) := (blk_cell BG.out 0).trans rfl; have hfG0 := blk_frozen BG.out 0; have BH := mk_ (blk_below BH.out hb_); clear hcH0 hfH0; have hcH0 : w9.cell? ⟨g8, 0, none⟩ = some (.int .i64 0) := (blk_cell BH.out 0).trans rfl; have hfH0 := blk_frozen BH.out 0; clear HB hb_; have HB := n0_; clear n0_; have n67 := blk_ne BF.out BG.out (by decide); have n68 := blk_ne BF.out BH.out (by decide); have n78 := blk_ne BG.out BH.out (by decide); have n76 := n67.symm; have n86 := n68.symm; have n87 := n78.symm) | (go_at_call 14; (with_reducible refine (piecewise_Valid.calls kg A1 c1 g true _ (Kd.C_below HR1.out HB.out) HC1.out HV1.out).mono ?_); rintro e w10 ⟨rfl, hb_⟩; have n0_ := mk_ (below_step HB.out hb_); have BE := mk_ (blk_below BE.out hb_); clear hcE0 hfE0 hcE1 hfE1; have hcE0 : w10.cell? ⟨g5, 0, none⟩ = some (.int .i64 lo) := (blk_cell BE.out 0).trans rfl; have hfE0 := blk_frozen BE.out 0; have hcE1 : w10.cell? ⟨g5, 1, none⟩ = some (.int .i64 hi) := (blk_cell BE.out 1).trans rfl; have hfE1 := blk_frozen BE.out 1; have BF := mk_ (blk_below BF.out hb_); clear hcF0 hfF0; have hcF0 : w10.cell? ⟨g6, 0, none⟩ = some (.int .i64 0) := (blk_cell BF.out 0).trans rfl; have hfF0 := blk_frozen BF.out 0; have BG := mk_ (blk_below BG.out hb_); clear hcG0 hfG0; have hcG0 : w10.cell? ⟨g7, 0, none⟩ = some (.bool false) := (blk_cell BG.out 0).trans rfl; have hfG0 := blk_frozen BG.out 0; have BH := mk_ (blk_below BH.out hb_); clear hcH0 hfH0; have hcH0 : w10.cell? ⟨g8, 0, none⟩ = some (.int .i64 0) := (blk_cell BH.out 0).trans rfl; have hfH0 := blk_frozen BH.out 0; clear HB hb_; have HB := n0_; clear n0_))
     show bodyPostM _ _ _ _ _ .ret _ _
     refine postM_ret (results_3s rfl _ _ g6 g7 g8 (.int .i64 0) (.bool false) (.int .i64 1) rfl rfl rfl uInt uBool uErr ?_ ?_ ?_) ⟨rfl, ?_⟩
     ·exact (blk_cell (blk_far (p := ⟨g8, 0, none⟩) (blk_far (p := ⟨g7, 0, none⟩) (blk_put BF.out 0 (.int .i64 0) rfl) (blk_ne BF.out BG.out (by decide)) _) (blk_ne BF.out BH.out (by decide)) _) 0).trans rfl
     ·exact (blk_cell (blk_far (p := ⟨g8, 0, none⟩) (blk_put (blk_far (p := ⟨g6, 0, none⟩) BG.out (blk_ne BG.out BF.out (by decide)) _) 0 (.bool false) rfl) (blk_ne BG.out BH.out (by decide)) _) 0).trans rfl
     ·exact (blk_cell (blk_put (blk_far (p := ⟨g7, 0, none⟩) (blk_far (p := ⟨g6, 0, none⟩) BH.out (blk_ne BH.out BF.out (by decide)) _) (blk_ne BH.out BG.out (by decide)) _) 0 (.int .i64 1) rfl) 0).trans rfl
     ·exact below_set (below_set (below_set HB.out GF.out) GG.out) GH.out
set_option maxHeartbeats 16000000 in
theorem below_calls (A0 A1 : Option Addr) (c0 c1 : Nat) (f g : List S51) (lo hi : Int) (M : Nat) (hM : StOk f g M) (h64 : M ≤ 1000) (hDs : ∀ s, s ∈ stL f g M → rngST s = true) (w : World) (hr0 : Kd.C k51 w A0 f.length f) (hr1 : Kd.C k51 w A1 g.length g) (hc0 : f.length ≤ c0) (hc1 : g.length ≤ c1) (kf kg : Nat) (hv0 : piecewise_Valid.f kf f = some true) (hv1 : piecewise_Valid.f kg g = some true) (h1 : 0 ≤ lo) (h2 : lo ≤ hi) (h3 : hi ≤ 100000) :
  Calls Try.prog 23 #[.slice A0 f.length c0, .slice A1 g.length c1, .agg #[.int .i64 lo, .int .i64 hi]] w fun e w' => e = .returned (.tuple #[.int .i64 (belowR lo hi (stL f g M)).1, .bool (belowR lo hi (stL f g M)).2.1, .int .i64 (belowR lo hi (stL f g M)).2.2]) ∧ Below w.heap.size w w' := by
 obtain ⟨E, hE⟩ := sub_list (p := fun s => rngST s = true) (stL f g M) hDs
 refine (callsIn_wide (n := 5)).1 ?_
 refine callsIn_of_wp_marks Try.func23 rfl trivial ?_ rfl
 simp only [Try.ntmps23, List.size_toArray, List.length_cons, List.length_nil, Nat.reduceAdd, Nat.reduceSub, Array.replicate_succ, Array.replicate_zero, List.push_toArray, List.append_toArray, List.nil_append, List.cons_append]
 refine wpIn_wide.2 (wp_calmS ?_)
 have hu51 := Try.underlying51
 have hu54 := Try.underlying54
 have hu64 := Try.underlying64
 have hu26 := Try.underlying26
 have HR0 := mk_ hr0
 have HR1 := mk_ hr1
 have HC0 := mk_ hc0
 have HC1 := mk_ hc1
 have HM := mk_ hM
 have H64 := mk_ h64
 have HE := mk_ hE
 have HV0 := mk_ hv0
 have HV1 := mk_ hv1
 have HLH := mk_ (show 0 ≤ lo ∧ lo ≤ hi ∧ hi ≤ 100000 from ⟨h1, h2, h3⟩)
 have d1 : decide (lo < 0) = false := decide_eq_false (by omega)
 have d2 : decide (hi < lo) = false := decide_eq_false (by omega)
 have d3 : decide (100000 < hi) = false := decide_eq_false (by omega)
 clear hr0 hr1 hc0 hc1 hM h64 hE hv0 hv1 hDs h1 h2 h3
 have HB := mk_ (Below.refl w.heap.size w)
 go_wp2_with (first | ((with_reducible refine gate_dst (N := 5) rfl ?_); refine box_event ?hg (N := 5) ?hd (cs := #[.int .i64 lo, .int .i64 hi]) (t := 26) ?hr ?_; (case hd => rfl); (case hg => rfl); (case hr => first | (go_simp; done) | (go_simp; rfl)); intro g5 hg_E w5 hbox_ hb_; have n0_ := mk_ (below_step HB.out hb_); have BE := mk_ hbox_; have GE := mk_ (show w.heap.size ≤ g5 by rw [hg_E]; exact below_size HB.out); have EE := mk_ hg_E; have hcE0 : w5.cell? ⟨g5, 0, none⟩ = some (.int .i64 lo) := (blk_cell hbox_ 0).trans rfl; have hfE0 := blk_frozen hbox_ 0; have hcE1 : w5.cell? ⟨g5, 1, none⟩ = some (.int .i64 hi) := (blk_cell hbox_ 1).trans rfl; have hfE1 := blk_frozen hbox_ 1; clear HB hg_E hbox_ hb_; have HB := n0_; clear n0_) | ((with_reducible refine gate_dst (N := 6) rfl ?_); refine box_event ?hg (N := 6) ?hd (cs := #[.int .i64 0]) (t := 3) ?hr ?_; (case hd => rfl); (case hg => rfl); (case hr => first | (go_simp; done) | (go_simp; rfl)); intro g6 hg_F w6 hbox_ hb_; have n0_ := mk_ (below_step HB.out hb_); have BF := mk_ hbox_; have GF := mk_ (show w.heap.size ≤ g6 by rw [hg_F]; exact below_size HB.out); have EF := mk_ hg_F; have hcF0 : w6.cell? ⟨g6, 0, none⟩ = some (.int .i64 0) := (blk_cell hbox_ 0).trans rfl; have hfF0 := blk_frozen hbox_ 0; have BE := mk_ (blk_below BE.out hb_); clear hcE0 hfE0 hcE1 hfE1; have hcE0 : w6.cell? ⟨g5, 0, none⟩ = some (.int .i64 lo) := (blk_cell BE.out 0).trans rfl; have hfE0 := blk_frozen BE.out 0; have hcE1 : w6.cell? ⟨g5, 1, none⟩ = some (.int .i64 hi) := (blk_cell BE.out 1).trans rfl; have hfE1 := blk_frozen BE.out 1; clear HB hg_F hbox_ hb_; have HB := n0_; clear n0_) | ((with_reducible refine gate_dst (N := 7) rfl ?_); refine box_event ?hg (N := 7) ?hd (cs := #[.bool false]) (t := 4) ?hr ?_; (case hd => rfl); (case hg => rfl); (case hr => first | (go_simp; done) | (go_simp; rfl)); intro g7 hg_G w7 hbox_ hb_; have n0_ := mk_ (below_step HB.out hb_); have BG := mk_ hbox_; have GG := mk_ (show w.heap.size ≤ g7 by rw [hg_G]; exact below_size HB.out); have EG := mk_ hg_G; have hcG0 : w7.cell? ⟨g7, 0, none⟩ = some (.bool false) := (blk_cell hbox_ 0).trans rfl; have hfG0 := blk_frozen hbox_ 0; have BE := mk_ (blk_below BE.out hb_); clear hcE0 hfE0 hcE1 hfE1; have hcE0 : w7.cell? ⟨g5, 0, none⟩ = some (.int .i64 lo) := (blk_cell BE.out 0).trans rfl; have hfE0 := blk_frozen BE.out 0; have hcE1 : w7.cell? ⟨g5, 1, none⟩ = some (.int .i64 hi) := (blk_cell BE.out 1).trans rfl; have hfE1 := blk_frozen BE.out 1; have BF := mk_ (blk_below BF.out hb_); clear hcF0 hfF0; have hcF0 : w7.cell? ⟨g6, 0, none⟩ = some (.int .i64 0) := (blk_cell BF.out 0).trans rfl; have hfF0 := blk_frozen BF.out 0; clear HB hg_G hbox_ hb_; have HB := n0_; clear n0_) | ((with_reducible refine gate_dst (N := 8) rfl ?_); refine box_event ?hg (N := 8) ?hd (cs := #[.int .i64 0]) (t := 29) ?hr ?_; (case hd => rfl); (case hg => rfl); (case hr => first | (go_simp; done) | (go_simp; rfl)); intro g8 hg_H w8 hbox_ hb_; have n0_ := mk_ (below_step HB.out hb_); have BH := mk_ hbox_; have GH := mk_ (show w.heap.size ≤ g8 by rw [hg_H]; exact below_size HB.out); have EH := mk_ hg_H; have hcH0 : w8.cell? ⟨g8, 0, none⟩ = some (.int .i64 0) := (blk_cell hbox_ 0).trans rfl; have hfH0 := blk_frozen hbox_ 0; have BE := mk_ (blk_below BE.out hb_); clear hcE0 hfE0 hcE1 hfE1; have hcE0 : w8.cell? ⟨g5, 0, none⟩ = some (.int .i64 lo) := (blk_cell BE.out 0).trans rfl; have hfE0 := blk_frozen BE.out 0; have hcE1 : w8.cell? ⟨g5, 1, none⟩ = some (.int .i64 hi) := (blk_cell BE.out 1).trans rfl; have hfE1 := blk_frozen BE.out 1; have BF := mk_ (blk_below BF.out hb_); clear hcF0 hfF0; have hcF0 : w8.cell? ⟨g6, 0, none⟩ = some (.int .i64 0) := (blk_cell BF.out 0).trans rfl; have hfF0 := blk_frozen BF.out 0; have BG := mk_ (blk_below BG.out hb_); clear hcG0 hfG0; have hcG0 : w8.cell? ⟨g7, 0, none⟩ = some (.bool false) := (blk_cell BG.out 0).trans rfl; have hfG0 := blk_frozen BG.out 0; clear HB hg_H hbox_ hb_; have HB := n0_; clear n0_) | (go_at_call 14; (with_reducible refine (piecewise_Valid.calls kf A0 c0 f true _ (Kd.C_below HR0.out HB.out) HC0.out HV0.out).mono ?_); rintro e w9 ⟨rfl, hb_⟩; have n0_ := mk_ (below_step HB.out hb_); have BE := mk_ (blk_below BE.out hb_); clear hcE0 hfE0 hcE1 hfE1; have hcE0 : w9.cell? ⟨g5, 0, none⟩ = some (.int .i64 lo) := (blk_cell BE.out 0).trans rfl; have hfE0 := blk_frozen BE.out 0; have hcE1 : w9.cell? ⟨g5, 1, none⟩ = some (.int .i64 hi) := (blk_cell BE.out 1).trans rfl; have hfE1 := blk_frozen BE.out 1; have BF := mk_ (blk_below BF.out hb_); clear hcF0 hfF0; have hcF0 : w9.cell? ⟨g6, 0, none⟩ = some (.int .i64 0) := (blk_cell BF.out 0).trans rfl; have hfF0 := blk_frozen BF.out 0; have BG := mk_ (blk_below BG.out hb_); clear hcG0 hfG0; have hcG0 : w9.cell? ⟨g7, 0, none⟩ = some (.bool false) := (blk_cell BG.out 0).trans rfl; have hfG0 := blk_frozen BG.out 0; have BH := mk_ (blk_below BH.out hb_); clear hcH0 hfH0; have hcH0 : w9.cell? ⟨g8, 0, none⟩ = some (.int .i64 0) := (blk_cell BH.out 0).trans rfl; have hfH0 := blk_frozen BH.out 0; clear HB hb_; have HB := n0_; clear n0_; have n67 := blk_ne BF.out BG.out (by decide); have n68 := blk_ne BF.out BH.out (by decide); have n78 := blk_ne BG.out BH.out (by decide); have n76 := n67.symm; have n86 := n68.symm; have n87 := n78.symm) | (go_at_call 14; (with_reducible refine (piecewise_Valid.calls kg A1 c1 g true _ (Kd.C_below HR1.out HB.out) HC1.out HV1.out).mono ?_); rintro e w10 ⟨rfl, hb_⟩; have n0_ := mk_ (below_step HB.out hb_); have BE := mk_ (blk_below BE.out hb_); clear hcE0 hfE0 hcE1 hfE1; have hcE0 : w10.cell? ⟨g5, 0, none⟩ = some (.int .i64 lo) := (blk_cell BE.out 0).trans rfl; have hfE0 := blk_frozen BE.out 0; have hcE1 : w10.cell? ⟨g5, 1, none⟩ = some (.int .i64 hi) := (blk_cell BE.out 1).trans rfl; have hfE1 := blk_frozen BE.out 1; have BF := mk_ (blk_below BF.out hb_); clear hcF0 hfF0; have hcF0 : w10.cell? ⟨g6, 0, none⟩ = some (.int .i64 0) := (blk_cell BF.out 0).trans rfl; have hfF0 := blk_frozen BF.out 0; have BG := mk_ (blk_below BG.out hb_); clear hcG0 hfG0; have hcG0 : w10.cell? ⟨g7, 0, none⟩ = some (.bool false) := (blk_cell BG.out 0).trans rfl; have hfG0 := blk_frozen BG.out 0; have BH := mk_ (blk_below BH.out hb_); clear hcH0 hfH0; have hcH0 : w10.cell? ⟨g8, 0, none⟩ = some (.int .i64 0) := (blk_cell BH.out 0).trans rfl; have hfH0 := blk_frozen BH.out 0; clear HB hb_; have HB := n0_; clear n0_) | (go_at_call 39; (with_reducible refine (stretches_calls A0 A1 f.length g.length c0 c1 _).mono ?_); rintro e w11 ⟨g1, g2, rfl, hp_, hq_, hg1_, hg2_, hb_⟩; have BP := mk_ hp_; have BQ := mk_ hq_; have n0_ := mk_ (below_step HB.out hb_); have BE := mk_ (blk_below BE.out hb_); clear hcE0 hfE0 hcE1 hfE1; have hcE0 : w11.cell? ⟨g5, 0, none⟩ = some (.int .i64 lo) := (blk_cell BE.out 0).trans rfl; have hfE0 := blk_frozen BE.out 0; have hcE1 : w11.cell? ⟨g5, 1, none⟩ = some (.int .i64 hi) := (blk_cell BE.out 1).trans rfl; have hfE1 := blk_frozen BE.out 1; have BF := mk_ (blk_below BF.out hb_); clear hcF0 hfF0; have hcF0 : w11.cell? ⟨g6, 0, none⟩ = some (.int .i64 0) := (blk_cell BF.out 0).trans rfl; have hfF0 := blk_frozen BF.out 0; have BG := mk_ (blk_below BG.out hb_); clear hcG0 hfG0; have hcG0 : w11.cell? ⟨g7, 0, none⟩ = some (.bool false) := (blk_cell BG.out 0).trans rfl; have hfG0 := blk_frozen BG.out 0; have BH := mk_ (blk_below BH.out hb_); clear hcH0 hfH0; have hcH0 : w11.cell? ⟨g8, 0, none⟩ = some (.int .i64 0) := (blk_cell BH.out 0).trans rfl; have hfH0 := blk_frozen BH.out 0; clear HB hb_ hp_ hq_ hg1_ hg2_; have HB := n0_; clear n0_))
 clear n67 n68 n78 n76 n86 n87
 have hlt1 := blk_lt BP.out
 have hlt2 := blk_lt BQ.out
 have hle := below_size HB.out
 refine (wpIn_wide (n := 4)).1 ?_
 refine at_frameS (fun T0 hT0 => ?_)
 refine wpIn_rangeFunc_ownH rfl (by omega) (gf := 59) (lb := #[.pointer (some ⟨g1, 0, none⟩), .pointer (some ⟨g2, 0, none⟩)]) (by subst hT0; rfl) trivial (enters_fn Try.func59 (by kernel_rfl) rfl)
  (str_stops Subtype.val E 3 (by omega) g1 g2 w.heap.size A0 A1 c0 c1 f g M HM.out HE.out w11 BP.out BQ.out (fun W' h => Kd.C_below HR0.out (HB.out.trans h)) (fun W' h => Kd.C_below HR1.out (HB.out.trans h)) hle) keep2_t (keep2_b hle hlt1 hlt2) (Below.refl _ _) (fun _ => rfl)
  (fun pre W => (W.heap[g5]? = some (.cells #[.int .i64 lo, .int .i64 hi] 26 (0, 0)) ∧ W.heap[g6]? = some (.cells #[.int .i64 0] 3 (0, 0)) ∧ W.heap[g7]? = some (.cells #[.bool false] 4 (0, 0)) ∧ W.heap[g8]? = some (.cells #[.int .i64 0] 29 (0, 0))) ∧ (∀ y, y ∈ pre → belowO lo hi y.val = none) ∧ W.heap[g1]? = some (.cells #[.slice A0 f.length c0] 22 (0, 0)) ∧ W.heap[g2]? = some (.cells #[.slice A1 g.length c1] 22 (0, 0)) ∧ Below w.heap.size w W)
  (fun c pre W => c = .ret ∧ ∃ (pre' : List {s : ST // rngST s = true}) (x : {s : ST // rngST s = true}) (v : Int), pre = pre' ++ [x] ∧ (∀ y, y ∈ pre' → belowO lo hi y.val = none) ∧ belowO lo hi x.val = some v ∧ W.heap[g6]? = some (.cells #[.int .i64 v] 3 (0, 0)) ∧ W.heap[g7]? = some (.cells #[.bool true] 4 (0, 0)) ∧ W.heap[g8]? = some (.cells #[.int .i64 0] 29 (0, 0)) ∧ Below w.heap.size w W)
  (fun st A B row hs hg hr => by
   have hr' : ∀ r, row = some r → ∃ o : Obj, A.heap[r]? = some o ∧ o.isCells = false := fun r e => (hr r e).2
   obtain ⟨⟨i1, i2, i3, i4⟩, i5, i6, i7, i8⟩ := hs
   exact ⟨⟨blk_objs i1 hg hr', blk_objs i2 hg hr', blk_objs i3 hg hr', blk_objs i4 hg hr'⟩, i5, blk_objs i6 hg hr', blk_objs i7 hg hr', grown_below i8 hg (fun r e => by have := (hr r e).1; omega)⟩)
  (fun c st A B row hs hg hr => by
   have hr' : ∀ r, row = some r → ∃ o : Obj, A.heap[r]? = some o ∧ o.isCells = false := fun r e => (hr r e).2
   obtain ⟨hc, pre', x, v, e, hn, hx, q1, q2, q3, hb⟩ := hs
   exact ⟨hc, pre', x, v, e, hn, hx, blk_objs q1 hg hr', blk_objs q2 hg hr', blk_objs q3 hg hr', grown_below hb hg (fun r e => by have := (hr r e).1; omega)⟩)
  ⟨⟨BE.out, BF.out, BG.out, BH.out⟩, (fun y hy => by cases hy), BP.out, BQ.out, HB.out⟩
  (fun x a' W => ∃ gx, a' = { tmps := (T0.setIfInBounds 41 (.agg (cST x.val))).setIfInBounds 9 (.pointer (some ⟨gx, 0, none⟩)), defers := [] } ∧ W.heap[gx]? = some (.cells (cST x.val) 64 (0, 0)))
  (fun x a' s A B row hs hg hr => by
   obtain ⟨gx, e, hb⟩ := hs
   exact ⟨gx, e, blk_objs hb hg (fun r e => (hr r e).2)⟩) ?assign ?body ?done ?stop
 case assign =>
  rintro lr pre ⟨p, hp⟩ W K ⟨⟨i1, i2, i3, i4⟩, i5, i6, i7, i8⟩ hK
  subst hT0
  simp only [sI_, s0_, sS_] at hK
  simp only [encST]
  gi_wp2
  exact hK _ _ ((KeepsOthers.alloc W _).from _) (keep2_below (below_size i8) (blk_lt i6) (blk_lt i7) (below_alloc (Below.refl _ _) _)) ⟨⟨blk_alloc i1 _, blk_alloc i2 _, blk_alloc i3 _, blk_alloc i4 _⟩, i5, blk_alloc i6 _, blk_alloc i7 _, below_alloc i8 _⟩ ⟨W.heap.size, rfl, blk_new W _⟩
 case done =>
  rintro D ys W hD rfl ⟨⟨q1, q2, q3, q4⟩, q5, q6, q7, hBW⟩ hDD
  have hE := belowR_none (lo := lo) (hi := hi) (xs := stL f g M) (fun s hs => by
   rw [← HE.out] at hs
   obtain ⟨z, hz, rfl⟩ := List.mem_map.1 hs
   exact q5 z hz)
  have BF := mk_ q2
  have BG := mk_ q3
  have BH := mk_ q4
  have HBV := mk_ hBW
  have HDV := mk_ hDD
  have HDL := mk_ (show w.heap.size ≤ D from Nat.le_trans hle hD)
  have HEV := mk_ hE
  have hcF0 : W.cell? ⟨g6, 0, none⟩ = some (.int .i64 0) := (blk_cell q2 0).trans rfl
  have hcG0 : W.cell? ⟨g7, 0, none⟩ = some (.bool false) := (blk_cell q3 0).trans rfl
  have hcH0 : W.cell? ⟨g8, 0, none⟩ = some (.int .i64 0) := (blk_cell q4 0).trans rfl
  have hfF0 := blk_frozen q2 0
  have hfG0 := blk_frozen q3 0
  have hfH0 := blk_frozen q4 0
  have n67 := blk_ne BF.out BG.out (by decide)
  have n68 := blk_ne BF.out BH.out (by decide)
  have n78 := blk_ne BG.out BH.out (by decide)
  have n76 := n67.symm
  have n86 := n68.symm
  have n87 := n78.symm
  clear q1 q2 q3 q4 q5 q6 q7 hBW hDD hD hE
  go_wp2_with (fail)
  obtain ⟨W9, hW9⟩ : ∃ W9, W9 = ((W.setCell ⟨g6, 0, none⟩ (.int .i64 0)).setCell ⟨g7, 0, none⟩ (.bool false)).setCell ⟨g8, 0, none⟩ (.int .i64 0) := ⟨_, rfl⟩
  rw [← hW9]
  have r6 : W9.heap[g6]? = some (.cells #[.int .i64 0] 3 (0, 0)) := by rw [hW9]; exact blk_far (p := ⟨g8, 0, none⟩) (blk_far (p := ⟨g7, 0, none⟩) (blk_put BF.out 0 _ rfl) (blk_ne BF.out BG.out (by decide)) _) (blk_ne BF.out BH.out (by decide)) _
  have r7 : W9.heap[g7]? = some (.cells #[.bool false] 4 (0, 0)) := by rw [hW9]; exact blk_far (p := ⟨g8, 0, none⟩) (blk_put (blk_far (p := ⟨g6, 0, none⟩) BG.out (blk_ne BG.out BF.out (by decide)) _) 0 _ rfl) (blk_ne BG.out BH.out (by decide)) _
  have r8 : W9.heap[g8]? = some (.cells #[.int .i64 0] 29 (0, 0)) := by rw [hW9]; exact blk_put (blk_far (p := ⟨g7, 0, none⟩) (blk_far (p := ⟨g6, 0, none⟩) BH.out (blk_ne BH.out BF.out (by decide)) _) (blk_ne BH.out BG.out (by decide)) _) 0 _ rfl
  have rD : W9.heap[D]? = some (.deferred (some [])) := by rw [hW9]; exact (Below.heap_setCell _ _ _ _ (dne HDV.out BH.out)).trans ((Below.heap_setCell _ _ _ _ (dne HDV.out BG.out)).trans ((Below.heap_setCell _ _ _ _ (dne HDV.out BF.out)).trans HDV.out))
  have rB : Below w.heap.size w W9 := by rw [hW9]; exact below_set (below_set (below_set HBV.out GF.out) GG.out) GH.out
  show bodyPostM _ _ _ _ _ .ret _ _
  refine postM_done (D := D) rD (results_3s rfl _ _ g6 g7 g8 (.int .i64 0) (.bool false) (.int .i64 0) rfl rfl rfl uInt uBool uErr ((blk_cell (cells_put r6 rD rfl rfl _) 0).trans rfl) ((blk_cell (cells_put r7 rD rfl rfl _) 0).trans rfl) ((blk_cell (cells_put r8 rD rfl rfl _) 0).trans rfl)) ⟨?_, ?_⟩
  ·rw [HEV.out]
  ·exact rB.trans (belowK_b (w := w) (Nat.le_refl _) _ D _ _ HDL.out rD rfl rfl)
 case stop =>
  rintro D c pre W hD ⟨k, hk⟩ ⟨rfl, pre', x, v, e, hn, hx, q1, q2, q3, hBW⟩ hDD
  have hE : belowR lo hi (stL f g M) = (v, true, 0) := by
   have e1 : stL f g M = pre'.map Subtype.val ++ x.val :: (E.drop k).map Subtype.val := by
    have h1 := congrArg (List.map Subtype.val) (List.take_append_drop k E)
    rw [HE.out, ← hk, e] at h1
    rw [← h1]
    simp
   rw [e1]
   exact belowR_some (fun y hy => by
    obtain ⟨z, hz, rfl⟩ := List.mem_map.1 hy
    exact hn z hz) hx
  gi_wp2
  show bodyPostM _ _ _ _ _ .ret _ _
  refine postM_done (D := D) hDD (results_3s rfl _ _ g6 g7 g8 (.int .i64 v) (.bool true) (.int .i64 0) (by subst hT0; rfl) (by subst hT0; rfl) (by subst hT0; rfl) uInt uBool uErr ((blk_cell (cells_put q1 hDD rfl rfl _) 0).trans rfl) ((blk_cell (cells_put q2 hDD rfl rfl _) 0).trans rfl) ((blk_cell (cells_put q3 hDD rfl rfl _) 0).trans rfl)) ⟨?_, ?_⟩
  ·rw [hE]
  ·exact hBW.trans (belowK_b (w := w) (Nat.le_refl _) _ D _ _ (Nat.le_trans hle hD) hDD rfl rfl)
 case body =>
  rintro lr pre ⟨p, hp⟩ a' W _ _ ⟨⟨i1, i2, i3, i4⟩, i5, i6, i7, hBW⟩ ⟨gx, rfl, hb⟩ hlen
  subst hT0
  simp only [sI_, s0_, sS_]
  have hpr := of_decide_eq_true hp
  have BX := mk_ hb
  have B5 := mk_ i1
  have B6 := mk_ i2
  have B7 := mk_ i3
  have B8 := mk_ i4
  have HN := mk_ i5
  have Q1 := mk_ i6
  have Q2 := mk_ i7
  have HBW := mk_ hBW
  have hz1 : hi + 1 ≤ 9223372036854775807 := by have := HLH.out; omega
  have hz2 : -9223372036854775808 ≤ hi + 1 := by have := HLH.out; omega
  have HWR := mk_ (show wrap64 (hi + 1) = hi + 1 by have := HLH.out; unfold wrap64; omega)
  have KP := mk_ (show 0 ≤ p.x ∧ p.x ≤ p.u ∧ p.u ≤ 1000000 from hpr)
  clear hb i1 i2 i3 i4 i5 i6 i7 hBW hlen hpr
  gi_upto_region 5 with (fail)
  gi_cut [10, 11] from 42 (fun v10 v11 wc => ∃ n10 : Nat, v10 = .pointer (some ⟨n10, 0, none⟩) ∧ v11 = .int .i64 (bUntil hi p) ∧ Aside0 (wc.heap[gx]? = some (.cells (cST p) 64 (0, 0)) ∧ wc.heap[n10]? = some (.cells #[.int .i64 (bFrom lo p)] 3 (0, 0)) ∧ Below W.heap.size W wc))
  case first =>
   clear HB BF BG BH hlt1 hlt2 hle
   refine start_R (m := 14) (S := fun w' => w'.cell? ⟨gx, 0, none⟩ = some (.int .i64 p.x) ∧ w'.cell? ⟨gx, 1, none⟩ = some (.int .i64 p.u) ∧ w'.cell? ⟨g5, 0, none⟩ = some (.int .i64 lo) ∧ w'.cell? ⟨g5, 1, none⟩ = some (.int .i64 hi)) (ds := []) (by kernel_rfl) (by rintro ⟨_, _, h⟩; exact h) #[n_, n_, n_, n_, n_, n_, n_, n_, n_, n_, n_, n_, n_, n_] (by kernel_rfl) rfl rfl ⟨(blk_cell (show W.drew.heap[gx]? = _ from BX.out) 0).trans rfl, (blk_cell (show W.drew.heap[gx]? = _ from BX.out) 1).trans rfl, (blk_cell (show W.drew.heap[g5]? = _ from B5.out) 0).trans rfl, (blk_cell (show W.drew.heap[g5]? = _ from B5.out) 1).trans rfl⟩ (fun hHeld => ?_)
   refine pv_ 0 42 (w_ 14 1) rfl ?_
   refine pv_ 2 44 (w_ 14 5) rfl ?_
   refine pv_ 5 47 (w_ 14 37) rfl ?_
   refine pv_ 7 49 (w_ 14 165) rfl ?_
   refine tb_ 1 43 (w_ 14 167) rfl hHeld (by rintro w' ⟨s0, s1, s2, s3⟩; go_simp; with_reducible rfl) ?_
   refine tb_ 3 45 (w_ 14 175) rfl hHeld (by rintro w' ⟨s0, s1, s2, s3⟩; go_simp; with_reducible rfl) ?_
   refine pv_ 4 46 (w_ 14 191) rfl ?_
   refine tb_ 6 48 (w_ 14 255) rfl hHeld (by rintro w' ⟨s0, s1, s2, s3⟩; go_simp; with_reducible rfl) ?_
   refine tb_ 8 50 (w_ 14 511) rfl hHeld (by rintro w' ⟨s0, s1, s2, s3⟩; go_simp; with_reducible rfl) ?_
   refine pv_ 9 51 (w_ 14 1023) rfl ?_
   refine pv_ 10 52 (w_ 14 2047) rfl ?_
   refine one_ (i := 11) (N := some 10) (w_ 14 4095) rfl rfl (by kernel_rfl) (by decide) (fun K hK => ?_)
   refine box_step ?hw (N := 10) ?hd (cs := #[.int .i64 0]) (t := 3) ?hr ?_
   (case hw => rfl)
   (case hd => rfl)
   (case hr => first | (go_simp; done) | (go_simp; rfl))
   intro n10 hn10 wA hbx_ hb_
   have BXA := mk_ (blk_below (show W.drew.heap[gx]? = _ from BX.out) hb_)
   have B5A := mk_ (blk_below (show W.drew.heap[g5]? = _ from B5.out) hb_)
   have HWA := mk_ (below_step (below_drew (Below.refl W.heap.size W)) hb_)
   have GN := mk_ (show W.heap.size ≤ n10 by rw [hn10]; exact below_size (below_drew (Below.refl W.heap.size W)))
   have NXA := mk_ (show gx ≠ n10 ∧ g5 ≠ n10 by have h1 := blk_lt BX.out; have h2 := blk_lt B5.out; have := GN.out; omega)
   have BNA := mk_ hbx_
   have zn : wA.cell? ⟨n10, 0, none⟩ = some (.int .i64 0) := (blk_cell hbx_ 0).trans rfl
   have fn := blk_frozen hbx_ 0
   clear hn10 hbx_ hb_
   refine hK.out _ _ ⟨(blk_cell (BXA.out) 0).trans rfl, (blk_cell (BXA.out) 1).trans rfl, (blk_cell (B5A.out) 0).trans rfl, (blk_cell (B5A.out) 1).trans rfl⟩ (fun hHeld => ?_)
   clear hK K
   refine norm_ (a' := ?_) ?_ ?_
   rotate_left
   ·show Act.put _ (some 10) _ = _
    simp only [Act.put, sI_, s0_, sS_, i64_w, i32_w]
    rfl
   refine one_ (i := 12) (N := none) (w_ 14 8191) rfl rfl (by kernel_rfl) (by decide) (fun K hK => ?_)
   refine skip_ (w1 := ?_) (by rfl) rfl ?_ ?_
   rotate_left
   ·go_simp
    rfl
   obtain ⟨wB, hwB⟩ : ∃ w_, w_ = wA.setCell ⟨n10, 0, none⟩ (.int .i64 (bFrom lo p)) := ⟨_, rfl⟩
   have hwB' : wA.setCell ⟨n10, 0, none⟩ (.int .i64 (if p.x < lo then lo else p.x)) = wB := hwB.symm
   rw [hwB']
   have BXB := mk_ (show wB.heap[gx]? = some (.cells (cST p) 64 (0, 0)) by rw [hwB]; exact blk_far (p := ⟨n10, 0, none⟩) BXA.out NXA.out.1 _)
   have B5B := mk_ (show wB.heap[g5]? = some (.cells #[.int .i64 lo, .int .i64 hi] 26 (0, 0)) by rw [hwB]; exact blk_far (p := ⟨n10, 0, none⟩) B5A.out NXA.out.2 _)
   have BNB := mk_ (show wB.heap[n10]? = some (.cells #[.int .i64 (bFrom lo p)] 3 (0, 0)) by rw [hwB]; exact blk_put BNA.out 0 _ rfl)
   have HWB := mk_ (show Below W.heap.size W wB by rw [hwB]; exact below_set HWA.out GN.out)
   clear hwB hwB'
   refine hK.out _ _ ⟨(blk_cell (BXB.out) 0).trans rfl, (blk_cell (BXB.out) 1).trans rfl, (blk_cell (B5B.out) 0).trans rfl, (blk_cell (B5B.out) 1).trans rfl⟩ (fun hHeld => ?_)
   clear hK K
   refine pv_ 13 11 (w_ 14 16383) rfl ?_
   refine done_ (by kernel_rfl) ?_
   first | gi_step | go_step
   first | gi_step | go_step
   gi_meet
   case rel => exact ⟨n10, rfl, by rw [HWR.out]; rfl, ⟨BXB.out, BNB.out, HWB.out⟩⟩
  case rest =>
   obtain ⟨n10, rfl, rfl, H10⟩ := hcut
   obtain ⟨bx, bn, hw⟩ := H10.out
   have nK := mk_ (show bFrom lo p = (if p.x < lo then lo else p.x) ∧ bUntil hi p = (if hi + 1 < p.u then hi + 1 else p.u) from ⟨rfl, rfl⟩)
   have KF := mk_ (show (0 ≤ bFrom lo p ∧ bFrom lo p ≤ 1000000) ∧ 0 ≤ bUntil hi p ∧ bUntil hi p ≤ 1000000 by
    obtain ⟨k1, k2⟩ := nK.out
    have := KP.out
    have := HLH.out
    rw [k1, k2]
    constructor <;> constructor <;> split <;> omega)
   obtain ⟨fr, hfr⟩ : ∃ z, z = bFrom lo p := ⟨_, rfl⟩
   obtain ⟨un, hun⟩ : ∃ z, z = bUntil hi p := ⟨_, rfl⟩
   have HBO := mk_ (show belowO lo hi p = (if fr < un then (if lessB p.f p.g fr = true then some fr else if fr + bK p fr un < un then some (fr + bK p fr un) else none) else none) by rw [hfr, hun]; rfl)
   rw [← hfr, ← hun] at nK KF
   rw [← hfr] at bn
   rw [← hun]
   have BX9 := mk_ bx
   have BN9 := mk_ bn
   have HW9 := mk_ hw
   have q9 : wc.cell? ⟨n10, 0, none⟩ = some (.int .i64 fr) := (blk_cell bn 0).trans rfl
   have hx0 : wc.cell? ⟨gx, 0, none⟩ = some (.int .i64 p.x) := (blk_cell bx 0).trans rfl
   have hx1 : wc.cell? ⟨gx, 1, none⟩ = some (.int .i64 p.u) := (blk_cell bx 1).trans rfl
   have hx2 : wc.cell? ⟨gx, 2, none⟩ = some (.int .i64 p.f.n) := (blk_cell bx 2).trans rfl
   have hx3 : wc.cell? ⟨gx, 3, none⟩ = some (.int .i64 p.f.s) := (blk_cell bx 3).trans rfl
   have hx4 : wc.cell? ⟨gx, 4, none⟩ = some (.int .i64 p.f.d) := (blk_cell bx 4).trans rfl
   have hx5 : wc.cell? ⟨gx, 5, none⟩ = some (.int .i64 p.f.fr) := (blk_cell bx 5).trans rfl
   have hx6 : wc.cell? ⟨gx, 6, none⟩ = some (.int .i64 p.g.n) := (blk_cell bx 6).trans rfl
   have hx7 : wc.cell? ⟨gx, 7, none⟩ = some (.int .i64 p.g.s) := (blk_cell bx 7).trans rfl
   have hx8 : wc.cell? ⟨gx, 8, none⟩ = some (.int .i64 p.g.d) := (blk_cell bx 8).trans rfl
   have hx9 : wc.cell? ⟨gx, 9, none⟩ = some (.int .i64 p.g.fr) := (blk_cell bx 9).trans rfl
   clear nK H10 hfr hun bx bn hw BX HB BF BG BH hlt1 hlt2 hle hz1 hz2 HV1 H64 HWR
   by_cases hlt : fr < un
   case neg =>
    have c1 : decide (un ≤ fr) = true := decide_eq_true (by omega)
    have HO := mk_ (show belowO lo hi p = none by rw [HBO.out, if_neg hlt])
    clear hlt
    gi_wp2
    have hW := HW9.out
    refine ⟨(KeepsOthers.of_grownBy (grown_of_below hW none) (by simp)).from _, keep2_below (below_size HBW.out) (blk_lt Q1.out) (blk_lt Q2.out) hW, ⟨blk_below B5.out hW, blk_below B6.out hW, blk_below B7.out hW, blk_below B8.out hW⟩, ?_, blk_below Q1.out hW, blk_below Q2.out hW, below_step HBW.out hW⟩
    intro y hy
    rcases List.mem_append.1 hy with h | h
    ·exact HN.out y h
    ·rw [List.mem_singleton.1 h]; exact HO.out
   case pos =>
    have c1 : decide (un ≤ fr) = false := decide_eq_false (by omega)
    have HLT := mk_ hlt
    cases hls : lessB p.f p.g fr with
    | true =>
     have HO := mk_ (show belowO lo hi p = some fr by rw [HBO.out, if_pos hlt, if_pos hls])
     have HLS := mk_ hls
     clear hlt hls
     gi_upto_region 7 with (fail)
     refine round_region (by kernel_rfl) (by rintro ⟨_, _, h⟩; exact h) ?_
     go_wp2_with (first | (go_at_call 49; (with_reducible refine (lessB_calls p.f p.g fr _).mono ?_); rintro e w12 ⟨rfl, hb_⟩; rw [HLS.out]; replace q9 := (hb_.cell (World.block_lt_of_cell? _ _ q9)).trans q9; have n0_ := mk_ (below_step HW9.out hb_); have n1_ := mk_ (blk_below BX9.out hb_); have n2_ := mk_ (blk_below BN9.out hb_); clear HW9 BX9 BN9 hb_; have HW9 := n0_; have BX9 := n1_; have BN9 := n2_; clear n0_ n1_ n2_))
     have C6 := mk_ (blk_below B6.out HW9.out)
     have C7 := mk_ (blk_below B7.out HW9.out)
     have C8 := mk_ (blk_below B8.out HW9.out)
     have hc6 : w12.cell? ⟨g6, 0, none⟩ = some (.int .i64 0) := (blk_cell C6.out 0).trans rfl
     have hc7 : w12.cell? ⟨g7, 0, none⟩ = some (.bool false) := (blk_cell C7.out 0).trans rfl
     have hc8 : w12.cell? ⟨g8, 0, none⟩ = some (.int .i64 0) := (blk_cell C8.out 0).trans rfl
     have hf6 := blk_frozen C6.out 0
     have hf7 := blk_frozen C7.out 0
     have hf8 := blk_frozen C8.out 0
     have q9 : w12.cell? ⟨n10, 0, none⟩ = some (.int .i64 fr) := (blk_cell BN9.out 0).trans rfl
     have n67 := blk_ne C6.out C7.out (by decide)
     have n68 := blk_ne C6.out C8.out (by decide)
     have n78 := blk_ne C7.out C8.out (by decide)
     have n76 := n67.symm
     have n86 := n68.symm
     have n87 := n78.symm
     gi_wp2
     obtain ⟨wE, hwE⟩ : ∃ w_, w_ = ((w12.setCell ⟨g6, 0, none⟩ (.int .i64 fr)).setCell ⟨g7, 0, none⟩ (.bool true)).setCell ⟨g8, 0, none⟩ (.int .i64 0) := ⟨_, rfl⟩
     rw [← hwE]
     have r6 : wE.heap[g6]? = some (.cells #[.int .i64 fr] 3 (0, 0)) := by rw [hwE]; exact blk_far (p := ⟨g8, 0, none⟩) (blk_far (p := ⟨g7, 0, none⟩) (blk_put C6.out 0 _ rfl) (blk_ne C6.out C7.out (by decide)) _) (blk_ne C6.out C8.out (by decide)) _
     have r7 : wE.heap[g7]? = some (.cells #[.bool true] 4 (0, 0)) := by rw [hwE]; exact blk_far (p := ⟨g8, 0, none⟩) (blk_put (blk_far (p := ⟨g6, 0, none⟩) C7.out (blk_ne C7.out C6.out (by decide)) _) 0 _ rfl) (blk_ne C7.out C8.out (by decide)) _
     have r8 : wE.heap[g8]? = some (.cells #[.int .i64 0] 29 (0, 0)) := by rw [hwE]; exact blk_put (blk_far (p := ⟨g7, 0, none⟩) (blk_far (p := ⟨g6, 0, none⟩) C8.out (blk_ne C8.out C6.out (by decide)) _) (blk_ne C8.out C7.out (by decide)) _) 0 _ rfl
     have hB : Below w.heap.size w wE := by rw [hwE]; exact below_set (below_set (below_set (below_step HBW.out HW9.out) GF.out) GG.out) GH.out
     refine ⟨?_, rfl, pre, ⟨p, hp⟩, fr, rfl, HN.out, HO.out, r6, r7, r8, hB⟩
     rw [hwE]
     exact ((KeepsOthers.of_grownBy (grown_of_below HW9.out none) (by simp)).trans (((KeepsOthers.setCell _ _ _).trans (KeepsOthers.setCell _ _ _)).trans (KeepsOthers.setCell _ _ _))).from _
    | false =>
     have HLS := mk_ hls
     obtain ⟨kk, hkk⟩ : ∃ z, z = bK p fr un := ⟨_, rfl⟩
     have KB := mk_ (show 0 ≤ kk ∧ fr + kk ≤ un by
      have := bsearch_le (belowP p fr) (un - fr).toNat 0 (un - fr) (by omega)
      rw [hkk]
      unfold bK
      omega)
     have HKK := mk_ (show bsearch (belowP p fr) (un - fr).toNat 0 (un - fr) = kk by rw [hkk]; rfl)
     have HO := mk_ (show belowO lo hi p = (if fr + kk < un then some (fr + kk) else none) by rw [HBO.out, if_pos hlt, if_neg (by rw [hls]; decide), hkk])
     have hz3 : un - fr ≤ 9223372036854775807 := by have := KF.out; omega
     have hz4 : -9223372036854775808 ≤ un - fr := by have := KF.out; omega
     have hz5 : fr + kk ≤ 9223372036854775807 := by have := KF.out; have := KB.out; omega
     have hz6 : -9223372036854775808 ≤ fr + kk := by have := KF.out; have := KB.out; omega
     clear hlt hls hkk
     by_cases hlt : fr + kk < un
     case neg =>
      have e1 : decide (fr + kk < un) = false := decide_eq_false hlt
      have HO2 := mk_ (show belowO lo hi p = none by rw [HO.out, if_neg hlt])
      clear HO hlt
      have HO := HO2
      clear HO2
      gi_upto_region 7 with (fail)
      refine round_region (by kernel_rfl) (by rintro ⟨_, _, h⟩; exact h) ?_
      go_wp2_with (first | (go_at_call 49; (with_reducible refine (lessB_calls p.f p.g fr _).mono ?_); rintro e w12 ⟨rfl, hb_⟩; rw [HLS.out]; replace q9 := (hb_.cell (World.block_lt_of_cell? _ _ q9)).trans q9; have n0_ := mk_ (below_step HW9.out hb_); have n1_ := mk_ (blk_below BX9.out hb_); have n2_ := mk_ (blk_below BN9.out hb_); clear HW9 BX9 BN9 hb_; have HW9 := n0_; have BX9 := n1_; have BN9 := n2_; clear n0_ n1_ n2_))
      gi_upto_region 9 with (fail)
      refine round_region (by kernel_rfl) (by rintro ⟨_, _, h⟩; exact h) ?_
      go_wp2_with (first | (go_at_call 50; (with_reducible refine (below_search (un - fr) gx n10 (belowP p fr) _ (by have := HLT.out; omega) (by have := KF.out; omega) (fun h_ W_ h0_ hh_ hW_ => below1_calls gx n10 p fr h_ W_ (blk_below BX9.out hW_) (blk_below BN9.out hW_))).mono ?_); rintro e w13 ⟨rfl, hb_⟩; rw [HKK.out]; replace q9 := (hb_.cell (World.block_lt_of_cell? _ _ q9)).trans q9; have n0_ := mk_ (below_step HW9.out hb_); have n1_ := mk_ (blk_below BX9.out hb_); have n2_ := mk_ (blk_below BN9.out hb_); clear HW9 BX9 BN9 hb_; have HW9 := n0_; have BX9 := n1_; have BN9 := n2_; clear n0_ n1_ n2_))
      gi_wp2
      have hW := HW9.out
      refine ⟨(KeepsOthers.of_grownBy (grown_of_below hW none) (by simp)).from _, keep2_below (below_size HBW.out) (blk_lt Q1.out) (blk_lt Q2.out) hW, ⟨blk_below B5.out hW, blk_below B6.out hW, blk_below B7.out hW, blk_below B8.out hW⟩, ?_, blk_below Q1.out hW, blk_below Q2.out hW, below_step HBW.out hW⟩
      intro y hy
      rcases List.mem_append.1 hy with h | h
      ·exact HN.out y h
      ·rw [List.mem_singleton.1 h]; exact HO.out
     case pos =>
      have e1 : decide (fr + kk < un) = true := decide_eq_true hlt
      have HO2 := mk_ (show belowO lo hi p = some (fr + kk) by rw [HO.out, if_pos hlt])
      clear HO hlt
      have HO := HO2
      clear HO2
      gi_upto_region 7 with (fail)
      refine round_region (by kernel_rfl) (by rintro ⟨_, _, h⟩; exact h) ?_
      go_wp2_with (first | (go_at_call 49; (with_reducible refine (lessB_calls p.f p.g fr _).mono ?_); rintro e w12 ⟨rfl, hb_⟩; rw [HLS.out]; replace q9 := (hb_.cell (World.block_lt_of_cell? _ _ q9)).trans q9; have n0_ := mk_ (below_step HW9.out hb_); have n1_ := mk_ (blk_below BX9.out hb_); have n2_ := mk_ (blk_below BN9.out hb_); clear HW9 BX9 BN9 hb_; have HW9 := n0_; have BX9 := n1_; have BN9 := n2_; clear n0_ n1_ n2_))
      gi_upto_region 9 with (fail)
      refine round_region (by kernel_rfl) (by rintro ⟨_, _, h⟩; exact h) ?_
      go_wp2_with (first | (go_at_call 50; (with_reducible refine (below_search (un - fr) gx n10 (belowP p fr) _ (by have := HLT.out; omega) (by have := KF.out; omega) (fun h_ W_ h0_ hh_ hW_ => below1_calls gx n10 p fr h_ W_ (blk_below BX9.out hW_) (blk_below BN9.out hW_))).mono ?_); rintro e w13 ⟨rfl, hb_⟩; rw [HKK.out]; replace q9 := (hb_.cell (World.block_lt_of_cell? _ _ q9)).trans q9; have n0_ := mk_ (below_step HW9.out hb_); have n1_ := mk_ (blk_below BX9.out hb_); have n2_ := mk_ (blk_below BN9.out hb_); clear HW9 BX9 BN9 hb_; have HW9 := n0_; have BX9 := n1_; have BN9 := n2_; clear n0_ n1_ n2_))
      have C6 := mk_ (blk_below B6.out HW9.out)
      have C7 := mk_ (blk_below B7.out HW9.out)
      have C8 := mk_ (blk_below B8.out HW9.out)
      have hc6 : w13.cell? ⟨g6, 0, none⟩ = some (.int .i64 0) := (blk_cell C6.out 0).trans rfl
      have hc7 : w13.cell? ⟨g7, 0, none⟩ = some (.bool false) := (blk_cell C7.out 0).trans rfl
      have hc8 : w13.cell? ⟨g8, 0, none⟩ = some (.int .i64 0) := (blk_cell C8.out 0).trans rfl
      have hf6 := blk_frozen C6.out 0
      have hf7 := blk_frozen C7.out 0
      have hf8 := blk_frozen C8.out 0
      have q9 : w13.cell? ⟨n10, 0, none⟩ = some (.int .i64 fr) := (blk_cell BN9.out 0).trans rfl
      have n67 := blk_ne C6.out C7.out (by decide)
      have n68 := blk_ne C6.out C8.out (by decide)
      have n78 := blk_ne C7.out C8.out (by decide)
      have n76 := n67.symm
      have n86 := n68.symm
      have n87 := n78.symm
      gi_wp2
      obtain ⟨wE, hwE⟩ : ∃ w_, w_ = ((w13.setCell ⟨g6, 0, none⟩ (.int .i64 (fr + kk))).setCell ⟨g7, 0, none⟩ (.bool true)).setCell ⟨g8, 0, none⟩ (.int .i64 0) := ⟨_, rfl⟩
      rw [← hwE]
      have r6 : wE.heap[g6]? = some (.cells #[.int .i64 (fr + kk)] 3 (0, 0)) := by rw [hwE]; exact blk_far (p := ⟨g8, 0, none⟩) (blk_far (p := ⟨g7, 0, none⟩) (blk_put C6.out 0 _ rfl) (blk_ne C6.out C7.out (by decide)) _) (blk_ne C6.out C8.out (by decide)) _
      have r7 : wE.heap[g7]? = some (.cells #[.bool true] 4 (0, 0)) := by rw [hwE]; exact blk_far (p := ⟨g8, 0, none⟩) (blk_put (blk_far (p := ⟨g6, 0, none⟩) C7.out (blk_ne C7.out C6.out (by decide)) _) 0 _ rfl) (blk_ne C7.out C8.out (by decide)) _
      have r8 : wE.heap[g8]? = some (.cells #[.int .i64 0] 29 (0, 0)) := by rw [hwE]; exact blk_put (blk_far (p := ⟨g7, 0, none⟩) (blk_far (p := ⟨g6, 0, none⟩) C8.out (blk_ne C8.out C6.out (by decide)) _) (blk_ne C8.out C7.out (by decide)) _) 0 _ rfl
      have hB : Below w.heap.size w wE := by rw [hwE]; exact below_set (below_set (below_set (below_step HBW.out HW9.out) GF.out) GG.out) GH.out
      refine ⟨?_, rfl, pre, ⟨p, hp⟩, (fr + kk), rfl, HN.out, HO.out, r6, r7, r8, hB⟩
      rw [hwE]
      exact ((KeepsOthers.of_grownBy (grown_of_below HW9.out none) (by simp)).trans (((KeepsOthers.setCell _ _ _).trans (KeepsOthers.setCell _ _ _)).trans (KeepsOthers.setCell _ _ _))).from _
def piecewise_Below.f (l0 l1 : List S51) (a2_0 a2_1 : Int) : Option (Int × Bool × Int) :=
 (piecewise_Valid.f kV l0).bind fun v0 => if v0 = true then ((piecewise_Valid.f kV l1).bind fun v1 => if v1 = true ∧ 0 ≤ a2_0 ∧ a2_0 ≤ a2_1 ∧ a2_1 ≤ 100000 then ((stM l0 l1).bind fun M => if (stL l0 l1 M).all rngST = true then some (belowR a2_0 a2_1 (stL l0 l1 M)) else none) else some (0, false, 1)) else some (0, false, 1)
theorem piecewise_Below.calls (A0 : Option Addr) (c0 : Nat) (l0 : List (S51)) (A1 : Option Addr) (c1 : Nat) (l1 : List (S51)) (a2_0 : Int) (a2_1 : Int) (r1 : Int) (r2 : Bool) (r3 : Int) (w : World) (hr0 : Kd.C k51 w A0 l0.length l0) (hc0 : l0.length ≤ c0) (hr1 : Kd.C k51 w A1 l1.length l1) (hc1 : l1.length ≤ c1) (h : piecewise_Below.f l0 l1 a2_0 a2_1 = some (r1, r2, r3)) :
  Calls Try.prog 23 #[.slice A0 l0.length c0, .slice A1 l1.length c1, .agg #[.int .i64 a2_0, .int .i64 a2_1]] w fun e w' => e = .returned (.tuple #[.int .i64 r1, .bool r2, .int .i64 r3]) ∧ Below w.heap.size w w' := by
 unfold piecewise_Below.f at h
 obtain ⟨v0, hv0, h⟩ := Option.bind_eq_some_iff.1 h
 cases v0 with
 | false =>
  rw [if_neg (by decide)] at h
  simp only [Option.some.injEq, Prod.mk.injEq] at h
  obtain ⟨rfl, rfl, rfl⟩ := h
  exact below_bad A0 A1 c0 c1 l0 l1 a2_0 a2_1 w hr0 hr1 hc0 hc1 kV kV false hv0 (fun e => by cases e)
 | true =>
  rw [if_pos rfl] at h
  obtain ⟨v1, hv1, h⟩ := Option.bind_eq_some_iff.1 h
  by_cases hc : v1 = true ∧ 0 ≤ a2_0 ∧ a2_0 ≤ a2_1 ∧ a2_1 ≤ 100000
  ·rw [if_pos hc] at h
   obtain ⟨e1, b1, b2, b3⟩ := hc
   subst e1
   obtain ⟨M, hM, h⟩ := Option.bind_eq_some_iff.1 h
   by_cases hall : (stL l0 l1 M).all rngST = true
   case neg => rw [if_neg hall] at h; cases h
   rw [if_pos hall] at h
   obtain ⟨hS, hM1⟩ := stM_at hM
   have h' := Option.some.inj h
   have e1 : (belowR a2_0 a2_1 (stL l0 l1 M)).1 = r1 := congrArg (fun x => x.1) h'
   have e2 : (belowR a2_0 a2_1 (stL l0 l1 M)).2.1 = r2 := congrArg (fun x => x.2.1) h'
   have e3 : (belowR a2_0 a2_1 (stL l0 l1 M)).2.2 = r3 := congrArg (fun x => x.2.2) h'
   subst e1
   subst e2
   subst e3
   exact below_calls A0 A1 c0 c1 l0 l1 a2_0 a2_1 M hS hM1 (List.all_eq_true.1 hall) w hr0 hr1 hc0 hc1 kV kV hv0 hv1 b1 b2 b3
  ·rw [if_neg hc] at h
   simp only [Option.some.injEq, Prod.mk.injEq] at h
   obtain ⟨rfl, rfl, rfl⟩ := h
   exact below_bad A0 A1 c0 c1 l0 l1 a2_0 a2_1 w hr0 hr1 hc0 hc1 kV kV true hv0 (fun _ => ⟨v1, hv1, fun e => by
    have h1 : ¬ (0 ≤ a2_0 ∧ a2_0 ≤ a2_1 ∧ a2_1 ≤ 100000) := fun h2 => hc ⟨e, h2⟩
    omega⟩)
end
section
def cohousinglaw05_piece.f (a0 : Int) (a1 : Int) (a2 : Int) : Option (Int × Int × Int × Int × Int) := some (a0, a1, 1, a2, 1)
theorem cohousinglaw05_piece.calls (a0 : Int) (a1 : Int) (a2 : Int) (r1 : Int) (r2 : Int) (r3 : Int) (r4 : Int) (r5 : Int) (w : World) (h : cohousinglaw05_piece.f a0 a1 a2 = some (r1, r2, r3, r4, r5)) :
  Calls Try.prog 33 #[.int .i64 a0, .int .i64 a1, .int .i64 a2] w fun e w' => e = .returned (.agg #[.int .i64 r1, .int .i64 r2, .int .i64 r3, .int .i64 r4, .int .i64 r5]) ∧ Below w.heap.size w w' := by
 have hu51 := Try.underlying51
 have hu24 := Try.underlying24
 have HB := mk_ (Below.refl w.heap.size w)
 have H : (some (a0, a1, 1, a2, 1)) = some (r1, r2, r3, r4, r5) := h
 clear h
 simp only [Option.some.injEq, Prod.mk.injEq] at H
 obtain ⟨rfl, rfl, rfl, rfl, rfl⟩ := H
 go_enter Try.func33, Try.ntmps33
 go_wp2_with (first | ((with_reducible refine gate_dst (N := 6) rfl ?_); refine box_event ?hg (N := 6) ?hd (cs := #[.int .i64 0, .int .i64 0, .int .i64 0, .int .i64 0, .int .i64 0]) (t := 51) ?hr ?_; (case hd => rfl); (case hg => rfl); (case hr => first | (go_simp; done) | (go_simp; rfl)); intro gb168 hg w4 hbox hb; have BK168 := mk_ (hbox); have GW168 := mk_ (bz_ hg (bb_ HB)); have GE168 := mk_ (bz_ hg (bb_ HB)); replace HB := mk_ (below_step (bb_ HB) hb); clear hb hbox hg; have hcz5_0 := bc0_ BK168.out; have hcz5_1 := bc1_ BK168.out; have hcz5_2 := bc2_ BK168.out; have hcz5_3 : w4.cell? ⟨gb168, 3, none⟩ = some (.int .i64 0) := (blk_cell BK168.out 3).trans rfl; have hcz5_4 : w4.cell? ⟨gb168, 4, none⟩ = some (.int .i64 0) := (blk_cell BK168.out 4).trans rfl; have hfz5_0 := blk_frozen BK168.out 0; have hfz5_1 := blk_frozen BK168.out 1; have hfz5_2 := blk_frozen BK168.out 2; have hfz5_3 := blk_frozen BK168.out 3; have hfz5_4 := blk_frozen BK168.out 4))
 refine bodyPost_ret (results_cell_row rfl _ _ gb168 51 #[.int .i64 a0, .int .i64 a1, .int .i64 1, .int .i64 a2, .int .i64 1] (0, 0) _ rfl (by (with_reducible repeat (first | refine blk_drewN ?_ _ | refine blk_drew ?_ | refine blk_alloc ?_ _)); refine blk_put (cs := #[.int .i64 a0, .int .i64 a1, .int .i64 1, .int .i64 a2, .int .i64 0]) ?_ 4 _ rfl; (with_reducible repeat (first | refine blk_drewN ?_ _ | refine blk_drew ?_ | refine blk_alloc ?_ _)); refine blk_put (cs := #[.int .i64 a0, .int .i64 a1, .int .i64 1, .int .i64 0, .int .i64 0]) ?_ 3 _ rfl; (with_reducible repeat (first | refine blk_drewN ?_ _ | refine blk_drew ?_ | refine blk_alloc ?_ _)); refine blk_put (cs := #[.int .i64 a0, .int .i64 a1, .int .i64 0, .int .i64 0, .int .i64 0]) ?_ 2 _ rfl; (with_reducible repeat (first | refine blk_drewN ?_ _ | refine blk_drew ?_ | refine blk_alloc ?_ _)); refine blk_put (cs := #[.int .i64 a0, .int .i64 0, .int .i64 0, .int .i64 0, .int .i64 0]) ?_ 1 _ rfl; (with_reducible repeat (first | refine blk_drewN ?_ _ | refine blk_drew ?_ | refine blk_alloc ?_ _)); refine blk_put (cs := #[.int .i64 0, .int .i64 0, .int .i64 0, .int .i64 0, .int .i64 0]) ?_ 0 _ rfl; (with_reducible repeat (first | refine blk_drewN ?_ _ | refine blk_drew ?_ | refine blk_alloc ?_ _)); exact BK168.out) Try.underlying51 rfl (by kernel_rfl)) rfl ?_
 exact ⟨ew_, bs1_ HB GE168⟩
end
end Go.Proofs.Ytmhimmodigeeiaa.P
end
