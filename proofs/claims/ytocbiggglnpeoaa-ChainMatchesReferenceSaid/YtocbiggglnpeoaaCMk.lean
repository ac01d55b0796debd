/- Part 11 of the base that the seat's proofs share: words, walks and plain laws. -/
import Derived.Test.YtocbiggglnpeoaaCMj
set_option linter.unusedVariables false
set_option linter.unusedSimpArgs false
section
namespace Go.Proofs.Ytocbiggglnpeoaa.M
open Go.RowKit Go.Proofs.YtocbiggglnpeoaaW.PrintWords Go.Proofs.YtocbiggglnpeoaaW.PrintLast Go.Proofs.YtocbiggglnpeoaaW.PrintMore
attribute [local go_sem] max2_int min2_int max_two min_two max_three min_three max_four min_four
set_option linter.unusedVariables false
set_option linter.unusedSimpArgs false
theorem eqA84 (d : Nat) (w : World) (x0 y0 : Int) (x1 y1 : Int) :
  (Op.equalIn (d + 2) 84 (.agg #[.int .i64 x0, .int .i64 x1]) (.agg #[.int .i64 y0, .int .i64 y1])).run Try.prog w = .ok (x0 == y0 && (x1 == y1)) w := by
 refine eqA_of Try.underlying84 (by kernel_rfl) ?_
 refine eqf_cons (by rfl) (by go_simp; rfl) (by go_simp; rfl) (by go_simp) ?_
 exact eqf_last (by rfl) (by go_simp; rfl) (by go_simp; rfl) (by go_simp)
end Go.Proofs.Ytocbiggglnpeoaa.M
end
section
namespace Go.Proofs.Ytocbiggglnpeoaa.M
open Go.RowKit Go.Proofs.YtocbiggglnpeoaaW.PrintWords Go.Proofs.YtocbiggglnpeoaaW.PrintLast Go.Proofs.YtocbiggglnpeoaaW.PrintMore
attribute [local go_sem] max2_int min2_int max_two min_two max_three min_three max_four min_four
set_option linter.unusedVariables false
set_option linter.unusedSimpArgs false
attribute [local go_sem high] eqA84
mutual
def cohousingref23_Same.j0 : Nat → Bool → List (S84) → List (S46) → List (S84) → List (S46) → Option (Bool)
 | 0, _, _, _, _, _ => none
 | k + 1, x23, x343000, x343001, x344000, x344001 => if x23 = true then (some false) else (cohousingref23_Same.l0 k 0 x343000 x343001 x344000 x344001)
def cohousingref23_Same.l0 : Nat → Int → List (S84) → List (S46) → List (S84) → List (S46) → Option (Bool)
 | 0, _, _, _, _, _ => none
 | k + 1, x5, x343000, x343001, x344000, x344001 => if x5 < (x343000.length : Int) then (if 0 ≤ x5 then (if x5 < (x344000.length : Int) then (if (!(((rd_T84 x343000 x5).f0) == ((rd_T84 x344000 x5).f0)) || (!(((rd_T84 x343000 x5).f1) == ((rd_T84 x344000 x5).f1)))) = true then (some false) else (cohousingref23_Same.l0 k (wrap64 (x5 + 1)) x343000 x343001 x344000 x344001)) else (none)) else (none)) else (cohousingref23_Same.l1 k 0 x343000 x343001 x344000 x344001)
def cohousingref23_Same.l1 : Nat → Int → List (S84) → List (S46) → List (S84) → List (S46) → Option (Bool)
 | 0, _, _, _, _, _ => none
 | k + 1, x6, x343000, x343001, x344000, x344001 => if x6 < (x343001.length : Int) then (if 0 ≤ x6 then (if x6 < (x344001.length : Int) then ((cohousingref23_SameInts.f k ((rd_T46 x343001 x6).f2) ((rd_T46 x344001 x6).f2)).bind fun t348 => (if t348 = true then (if ((rd_T46 x343001 x6).f0) = ((rd_T46 x344001 x6).f0) then (if ((rd_T46 x343001 x6).f1) = ((rd_T46 x344001 x6).f1) then (cohousingref23_Same.l1 k (wrap64 (x6 + 1)) x343000 x343001 x344000 x344001) else (some false)) else (some false)) else (some false))) else (none)) else (none)) else (some true)
end
def cohousingref23_Same.f (k : Nat) (l0_0 : List (S84)) (l0_1 : List (S46)) (l1_0 : List (S84)) (l1_1 : List (S46)) : Option (Bool) := if (l0_0.length : Int) = (l1_0.length : Int) then (cohousingref23_Same.j0 k ((l0_1.length : Int) != (l1_1.length : Int)) l0_0 l0_1 l1_0 l1_1) else (cohousingref23_Same.j0 k true l0_0 l0_1 l1_0 l1_1)
set_option maxHeartbeats 8000000 in
set_option maxRecDepth 100000 in
theorem cohousingref23_Same.calls (k : Nat) (A0_0 : Option Addr) (c0_0 : Nat) (l0_0 : List (S84)) (A0_1 : Option Addr) (c0_1 : Nat) (l0_1 : List (S46)) (A1_0 : Option Addr) (c1_0 : Nat) (l1_0 : List (S84)) (A1_1 : Option Addr) (c1_1 : Nat) (l1_1 : List (S46)) (r : Bool) (w : World) (hr0_0 : Kd.C k84 w A0_0 l0_0.length l0_0) (hc0_0 : l0_0.length ≤ c0_0) (hr0_1 : Kd.C k46 w A0_1 l0_1.length l0_1) (hc0_1 : l0_1.length ≤ c0_1) (hr1_0 : Kd.C k84 w A1_0 l1_0.length l1_0) (hc1_0 : l1_0.length ≤ c1_0) (hr1_1 : Kd.C k46 w A1_1 l1_1.length l1_1) (hc1_1 : l1_1.length ≤ c1_1) (h : cohousingref23_Same.f k l0_0 l0_1 l1_0 l1_1 = some r) :
  Calls Try.prog 19 #[.agg #[.slice A0_0 l0_0.length c0_0, .slice A0_1 l0_1.length c0_1], .agg #[.slice A1_0 l1_0.length c1_0, .slice A1_1 l1_1.length c1_1]] w fun e w' => e = .returned (.bool r) ∧ Below w.heap.size w w' := by
 have hu25 := Try.underlying25
 have hu84 := Try.underlying84
 have HR0_0 := mk_ hr0_0
 have HC0_0 := mk_ hc0_0
 clear hr0_0 hc0_0
 have HR0_1 := mk_ hr0_1
 have HC0_1 := mk_ hc0_1
 clear hr0_1 hc0_1
 have HR1_0 := mk_ hr1_0
 have HC1_0 := mk_ hc1_0
 clear hr1_0 hc1_0
 have HR1_1 := mk_ hr1_1
 have HC1_1 := mk_ hc1_1
 clear hr1_1 hc1_1
 have HB := mk_ (Below.refl w.heap.size w)
 have H : (if (l0_0.length : Int) = (l1_0.length : Int) then (cohousingref23_Same.j0 k ((l0_1.length : Int) != (l1_1.length : Int)) l0_0 l0_1 l1_0 l1_1) else (cohousingref23_Same.j0 k true l0_0 l0_1 l1_0 l1_1)) = some r := h
 clear h
 have HC3 := mk_ H
 clear H
 go_enter Try.func19, Try.ntmps19
 go_upto_region 1 with (first | ((with_reducible refine gate_dst (N := 2) rfl ?_); (try (refine gate_guard (by rfl) ?_; dsimp only)); refine box_event ?hg (N := 2) ?hd (cs := #[.slice A0_0 l0_0.length c0_0, .slice A0_1 l0_1.length c0_1]) (t := 25) ?hr ?_; (case hd => rfl); (case hg => rfl); (case hr => first | (go_simp; done) | (go_simp; rfl)); intro gb342 hg w4 hbox hb; have n0_ := mk_ (below_step (bb_ HB) hb); have n1_ := mk_ (hbox); have n2_ := mk_ (bz_ hg (bb_ HB)); have n3_ := mk_ (bz_ hg (bb_ HB)); clear HB; revert n0_ n1_ n2_ n3_; intro HB BK342 GW342 GE342; clear hb hbox hg) | ((with_reducible refine gate_dst (N := 3) rfl ?_); (try (refine gate_guard (by rfl) ?_; dsimp only)); refine box_event ?hg (N := 3) ?hd (cs := #[.slice A1_0 l1_0.length c1_0, .slice A1_1 l1_1.length c1_1]) (t := 25) ?hr ?_; (case hd => rfl); (case hg => rfl); (case hr => first | (go_simp; done) | (go_simp; rfl)); intro gb343 hg w5 hbox hb; have n0_ := mk_ (blk_below (kk_ BK342) hb); have n1_ := mk_ (below_step (bs_ HB GE342.out) hb); have n2_ := mk_ (hbox); have n3_ := mk_ (bz_ hg (bs_ HB GE342.out)); have n4_ := mk_ (bz_ hg (bs_ HB GE342.out)); have n5_ := mk_ (bl_ hg (kk_ BK342)); have n6_ := mk_ (bg_ hg (kk_ BK342)); clear BK342 HB; revert n0_ n1_ n2_ n3_ n4_ n5_ n6_; intro BK342 HB BK343 GW343 GE343 NB342_343 NB343_342; clear hb hbox hg))
 repeat (go_quiet (first | fail); go_upto_region 1 with (first | fail))
 (try simp only [Act.put, sI_, s0_, sS_])
 go_cut [23] (fun v23 wc => ∃ (kq : Nat) (x23_2 : Bool), v23 = .bool x23_2 ∧ Aside0 (cohousingref23_Same.j0 kq x23_2 l0_0 l0_1 l1_0 l1_1 = some r) ∧ Aside0 (kq ≤ k) ∧ Aside0 (wc.heap[gb342]? = some (.cells #[(.slice A0_0 l0_0.length c0_0), (.slice A0_1 l0_1.length c0_1)] 25 (0, 0))) ∧ Aside0 (wc.heap[gb343]? = some (.cells #[(.slice A1_0 l1_0.length c1_0), (.slice A1_1 l1_1.length c1_1)] 25 (0, 0))) ∧ Aside0 (Below w.heap.size w wc))
 case first =>
  have H := HC3.out
  clear HC3
  by_cases c6 : (l0_0.length : Int) = (l1_0.length : Int)
  rotate_left
  ·rw [if_neg c6] at H
   have c6b0 : ((l0_0.length : Int) == (l1_0.length : Int)) = false := beq_eq_false_iff_ne.mpr c6
   have c6b1 : ((l0_0.length : Int) != (l1_0.length : Int)) = true := bne_iff_ne.mpr c6
   have c6b2 : (l0_0.length == l1_0.length) = false := by first | simpa using c6 | (simp at c6 ⊢; omega)
   (first | rw [c6b0] | (simp only [i64_w, i32_w]; rw [c6b0]) | skip)
   have H' := mk_ H
   clear H
   have hnb10 := NB342_343.out
   have hnc10 := NB343_342.out
   have hcz11_0 := bc0_ BK342.out
   have hcz11_1 := bc1_ BK342.out
   have hfz11_0 := blk_frozen BK342.out 0
   have hfz11_1 := blk_frozen BK342.out 1
   have hcz12_0 := bc0_ BK343.out
   have hcz12_1 := bc1_ BK343.out
   have hfz12_0 := blk_frozen BK343.out 0
   have hfz12_1 := blk_frozen BK343.out 1
   go_wp2
   repeat (go_quiet (fail); try go_wp2)
   go_meet
   case rel => exact ⟨_, (true), sd_, H', ⟨by first | omega | exact Nat.le_refl _⟩, ⟨kk_ BK342⟩, ⟨kk_ BK343⟩, ⟨bs2_ HB GE342 GE343⟩⟩
  rw [if_pos c6] at H
  have c6b0 : ((l0_0.length : Int) == (l1_0.length : Int)) = true := beq_iff_eq.mpr c6
  have c6b1 : ((l0_0.length : Int) != (l1_0.length : Int)) = false := bne_eq_false_iff_eq.mpr c6
  have c6b2 : (l0_0.length == l1_0.length) = true := by first | simpa using c6 | (simp at c6 ⊢; omega)
  clear c6
  (first | rw [c6b0] | (simp only [i64_w, i32_w]; rw [c6b0]) | skip)
  have H' := mk_ H
  clear H
  have hnb7 := NB342_343.out
  have hnc7 := NB343_342.out
  have hcz8_0 := bc0_ BK342.out
  have hcz8_1 := bc1_ BK342.out
  have hfz8_0 := blk_frozen BK342.out 0
  have hfz8_1 := blk_frozen BK342.out 1
  have hcz9_0 := bc0_ BK343.out
  have hcz9_1 := bc1_ BK343.out
  have hfz9_0 := blk_frozen BK343.out 0
  have hfz9_1 := blk_frozen BK343.out 1
  go_wp2
  repeat (go_quiet (fail); try go_wp2)
  go_meet
  case rel => exact ⟨_, (((l0_1.length : Int) != (l1_1.length : Int))), sd_, H', ⟨by first | omega | exact Nat.le_refl _⟩, ⟨kk_ BK342⟩, ⟨kk_ BK343⟩, ⟨bs2_ HB GE342 GE343⟩⟩
 case rest =>
  clear HC3
  try clear c1; try clear p2; try clear c6; try clear c6b0; try clear c6b1; try clear c6b2; try clear c7; try clear c10; try clear hcz11_0; try clear hcz11_1; try clear hcz12_0; try clear hcz12_1; try clear hcz8_0; try clear hcz8_1; try clear hcz9_0; try clear hcz9_1; try clear hfz11_0; try clear hfz11_1; try clear hfz12_0; try clear hfz12_1; try clear hfz8_0; try clear hfz8_1; try clear hfz9_0; try clear hfz9_1
  obtain ⟨kq, x23_2, rfl, HA, HJ2, BK342, BK343, HB⟩ := hcut
  cases kq with
  | zero => exact absurd HA.out (by simp [cohousingref23_Same.j0])
  | succ kj2 =>
   have H := HA.out
   clear HA
   simp only [cohousingref23_Same.j0] at H
   by_cases c13 : x23_2 = true
   ·subst c13
    have H1 : (some false) = some r := by rw [if_pos rfl] at H; exact H
    clear H
    have H := H1
    clear H1
    obtain rfl := Option.some.inj H
    go_wp2
    repeat (go_quiet (fail); try go_wp2)
    go_ret
    exact ⟨ew_, bs2_ HB GE342 GE343⟩
   replace c13 := Bool.eq_false_iff.mpr c13
   subst c13
   have H1 : (cohousingref23_Same.l0 kj2 0 l0_0 l0_1 l1_0 l1_1) = some r := by rw [if_neg (show ¬ (false = true) by decide)] at H; exact H
   clear H
   have H := H1
   clear H1
   have H' := mk_ H
   clear H
   go_wp2
   repeat (go_quiet (fail); try go_wp2)
   go_loopg [5] kj2 (fun kq v5 w' => ∃ (x5_2 : Int), v5 = .int .i64 x5_2 ∧ Aside0 (cohousingref23_Same.l0 kq x5_2 l0_0 l0_1 l1_0 l1_1 = some r) ∧ Aside0 (kq ≤ kj2) ∧ Aside0 (w'.heap[gb342]? = some (.cells #[(.slice A0_0 l0_0.length c0_0), (.slice A0_1 l0_1.length c0_1)] 25 (0, 0))) ∧ Aside0 (w'.heap[gb343]? = some (.cells #[(.slice A1_0 l1_0.length c1_0), (.slice A1_1 l1_1.length c1_1)] 25 (0, 0))) ∧ Aside0 (Below w.heap.size w w'))
   case atStart => exact ⟨(0), sd_, H', ⟨Nat.le_refl _⟩, ⟨kk_ BK342⟩, ⟨kk_ BK343⟩, ⟨bs2_ HB GE342 GE343⟩⟩
   case round =>
    clear H'
    try clear c1; try clear p2; try clear c6; try clear c6b0; try clear c6b1; try clear c6b2; try clear c7; try clear c10; try clear c13; try clear hcz11_0; try clear hcz11_1; try clear hcz12_0; try clear hcz12_1; try clear hcz8_0; try clear hcz8_1; try clear hcz9_0; try clear hcz9_1; try clear hfz11_0; try clear hfz11_1; try clear hfz12_0; try clear hfz12_1; try clear hfz8_0; try clear hfz8_1; try clear hfz9_0; try clear hfz9_1; try clear p2
    obtain ⟨x5_2, rfl, HA, HK2, BK342, BK343, HB⟩ := hrel
    cases gk with
    | zero => exact absurd HA.out (by simp [cohousingref23_Same.l0])
    | succ k2 =>
     have H := HA.out
     clear HA
     simp only [cohousingref23_Same.l0] at H
     by_cases c14 : x5_2 < (l0_0.length : Int)
     ·rw [if_pos c14] at H
      have c14b0 : decide (x5_2 < (l0_0.length : Int)) = true := decide_eq_true c14
      clear c14
      by_cases c15 : 0 ≤ x5_2
      rotate_left
      ·rw [if_neg c15] at H
       exact absurd H (by simp)
      rw [if_pos c15] at H
      have c15b0 : decide (0 ≤ x5_2) = true := decide_eq_true c15
      clear c15
      by_cases c16 : x5_2 < (l1_0.length : Int)
      rotate_left
      ·rw [if_neg c16] at H
       exact absurd H (by simp)
      rw [if_pos c16] at H
      have c16b0 : decide (x5_2 < (l1_0.length : Int)) = true := decide_eq_true c16
      clear c16
      by_cases c17 : (!(((rd_T84 l0_0 x5_2).f0) == ((rd_T84 l1_0 x5_2).f0)) || (!(((rd_T84 l0_0 x5_2).f1) == ((rd_T84 l1_0 x5_2).f1)))) = true
      ·rw [if_pos c17] at H
       have c17b0 : (!(((rd_T84 l0_0 x5_2).f0) == ((rd_T84 l1_0 x5_2).f0)) || (!(((rd_T84 l0_0 x5_2).f1) == ((rd_T84 l1_0 x5_2).f1)))) = true := c17
       clear c17
       obtain rfl := Option.some.inj H
       have hnb18 := NB342_343.out
       have hnc18 := NB343_342.out
       have hcz19_0 := bc0_ BK342.out
       have hcz19_1 := bc1_ BK342.out
       have hfz19_0 := blk_frozen BK342.out 0
       have hfz19_1 := blk_frozen BK342.out 1
       have p344 : 0 ≤ (x5_2 : Int) := od_
       have q344 : x5_2 < (l0_0.length : Int) := od_
       obtain ⟨ad344, e344, hx344_0, hx344_1⟩ := at_T84 HR0_0.out x5_2 p344 q344
       cases e344
       replace hx344_0 := cb_ HB hx344_0
       replace hx344_1 := cb_ HB hx344_1
       replace p344 := eq_true p344
       replace q344 := eq_true q344
       have hcz20_0 := bc0_ BK343.out
       have hcz20_1 := bc1_ BK343.out
       have hfz20_0 := blk_frozen BK343.out 0
       have hfz20_1 := blk_frozen BK343.out 1
       have p345 : 0 ≤ (x5_2 : Int) := od_
       have q345 : x5_2 < (l1_0.length : Int) := od_
       obtain ⟨ad345, e345, hx345_0, hx345_1⟩ := at_T84 HR1_0.out x5_2 p345 q345
       cases e345
       replace hx345_0 := cb_ HB hx345_0
       replace hx345_1 := cb_ HB hx345_1
       replace p345 := eq_true p345
       replace q345 := eq_true q345
       go_wp2
       repeat (go_quiet (fail); try go_wp2)
       go_ret
       exact ⟨ew_, bs2_ HB GE342 GE343⟩
      rw [if_neg c17] at H
      have c17b0 : (!(((rd_T84 l0_0 x5_2).f0) == ((rd_T84 l1_0 x5_2).f0)) || (!(((rd_T84 l0_0 x5_2).f1) == ((rd_T84 l1_0 x5_2).f1)))) = false := by simpa using c17
      clear c17
      have H' := mk_ H
      clear H
      have hnb21 := NB342_343.out
      have hnc21 := NB343_342.out
      have hcz22_0 := bc0_ BK342.out
      have hcz22_1 := bc1_ BK342.out
      have hfz22_0 := blk_frozen BK342.out 0
      have hfz22_1 := blk_frozen BK342.out 1
      have p344 : 0 ≤ (x5_2 : Int) := od_
      have q344 : x5_2 < (l0_0.length : Int) := od_
      obtain ⟨ad344, e344, hx344_0, hx344_1⟩ := at_T84 HR0_0.out x5_2 p344 q344
      cases e344
      replace hx344_0 := cb_ HB hx344_0
      replace hx344_1 := cb_ HB hx344_1
      replace p344 := eq_true p344
      replace q344 := eq_true q344
      have hcz23_0 := bc0_ BK343.out
      have hcz23_1 := bc1_ BK343.out
      have hfz23_0 := blk_frozen BK343.out 0
      have hfz23_1 := blk_frozen BK343.out 1
      have p345 : 0 ≤ (x5_2 : Int) := od_
      have q345 : x5_2 < (l1_0.length : Int) := od_
      obtain ⟨ad345, e345, hx345_0, hx345_1⟩ := at_T84 HR1_0.out x5_2 p345 q345
      cases e345
      replace hx345_0 := cb_ HB hx345_0
      replace hx345_1 := cb_ HB hx345_1
      replace p345 := eq_true p345
      replace q345 := eq_true q345
      go_wp2
      repeat (go_quiet (fail); try go_wp2)
      go_roundg k2
      case measure => have := HJ2.out; have := HK2.out; omega
      case rel => exact ⟨(wrap64 (x5_2 + 1)), sd_, H', ⟨by have := HJ2.out; have := HK2.out; omega⟩, ⟨kk_ BK342⟩, ⟨kk_ BK343⟩, ⟨bs2_ HB GE342 GE343⟩⟩
     rw [if_neg c14] at H
     have c14b0 : decide (x5_2 < (l0_0.length : Int)) = false := decide_eq_false c14
     clear c14
     have H' := mk_ H
     clear H
     have hnb24 := NB342_343.out
     have hnc24 := NB343_342.out
     have hcz25_0 := bc0_ BK342.out
     have hcz25_1 := bc1_ BK342.out
     have hfz25_0 := blk_frozen BK342.out 0
     have hfz25_1 := blk_frozen BK342.out 1
     go_wp2
     repeat (go_quiet (fail); try go_wp2)
     go_loopg [6] k2 (fun kq v6 w' => ∃ (x6_3 : Int), v6 = .int .i64 x6_3 ∧ Aside0 (cohousingref23_Same.l1 kq x6_3 l0_0 l0_1 l1_0 l1_1 = some r) ∧ Aside0 (kq ≤ k2) ∧ Aside0 (w'.heap[gb342]? = some (.cells #[(.slice A0_0 l0_0.length c0_0), (.slice A0_1 l0_1.length c0_1)] 25 (0, 0))) ∧ Aside0 (w'.heap[gb343]? = some (.cells #[(.slice A1_0 l1_0.length c1_0), (.slice A1_1 l1_1.length c1_1)] 25 (0, 0))) ∧ Aside0 (Below w.heap.size w w'))
     case atStart => exact ⟨(0), sd_, H', ⟨Nat.le_refl _⟩, ⟨kk_ BK342⟩, ⟨kk_ BK343⟩, ⟨bs2_ HB GE342 GE343⟩⟩
     case round =>
      clear H'
      try clear c1; try clear c2; try clear p2; try clear p3; try clear q3; try clear hx3; try clear c6; try clear c6b0; try clear c6b1; try clear c6b2; try clear p6; try clear c7; try clear c10; try clear c13; try clear c14; try clear c14b0; try clear c15; try clear c15b0; try clear c16; try clear c16b0; try clear c17; try clear c17b0; try clear c18; try clear c19; try clear c21; try clear c24; try clear hcz11_0; try clear hcz11_1; try clear hcz12_0; try clear hcz12_1; try clear hcz19_0; try clear hcz19_1; try clear hcz20_0; try clear hcz20_1; try clear hcz22_0; try clear hcz22_1; try clear hcz23_0; try clear hcz23_1; try clear hcz25_0; try clear hcz25_1; try clear hcz8_0; try clear hcz8_1; try clear hcz9_0; try clear hcz9_1; try clear hfz11_0; try clear hfz11_1; try clear hfz12_0; try clear hfz12_1; try clear hfz19_0; try clear hfz19_1; try clear hfz20_0; try clear hfz20_1; try clear hfz22_0; try clear hfz22_1; try clear hfz23_0; try clear hfz23_1; try clear hfz25_0; try clear hfz25_1; try clear hfz8_0; try clear hfz8_1; try clear hfz9_0; try clear hfz9_1; try clear hx344_0; try clear hx344_1; try clear hx345_0; try clear hx345_1; try clear p2; try clear p344; try clear p345; try clear q344; try clear q345
      obtain ⟨x6_3, rfl, HA, HK3, BK342, BK343, HB⟩ := hrel
      cases gk with
      | zero => exact absurd HA.out (by simp [cohousingref23_Same.l1])
      | succ k3 =>
       have H := HA.out
       clear HA
       simp only [cohousingref23_Same.l1] at H
       by_cases c26 : x6_3 < (l0_1.length : Int)
       rotate_left
       ·rw [if_neg c26] at H
        have c26b0 : decide (x6_3 < (l0_1.length : Int)) = false := decide_eq_false c26
        clear c26
        obtain rfl := Option.some.inj H
        have hnb45 := NB342_343.out
        have hnc45 := NB343_342.out
        have hcz46_0 := bc0_ BK342.out
        have hcz46_1 := bc1_ BK342.out
        have hfz46_0 := blk_frozen BK342.out 0
        have hfz46_1 := blk_frozen BK342.out 1
        go_wp2
        repeat (go_quiet (fail); try go_wp2)
        go_ret
        exact ⟨ew_, bs2_ HB GE342 GE343⟩
       rw [if_pos c26] at H
       have c26b0 : decide (x6_3 < (l0_1.length : Int)) = true := decide_eq_true c26
       clear c26
       by_cases c27 : 0 ≤ x6_3
       rotate_left
       ·rw [if_neg c27] at H
        exact absurd H (by simp)
       rw [if_pos c27] at H
       have c27b0 : decide (0 ≤ x6_3) = true := decide_eq_true c27
       clear c27
       by_cases c28 : x6_3 < (l1_1.length : Int)
       rotate_left
       ·rw [if_neg c28] at H
        exact absurd H (by simp)
       rw [if_pos c28] at H
       have c28b0 : decide (x6_3 < (l1_1.length : Int)) = true := decide_eq_true c28
       clear c28
       replace H := Option.bind_eq_some_iff.mp H
       obtain ⟨t348, A290, H⟩ := H
       replace H : (if t348 = true then (if ((rd_T46 l0_1 x6_3).f0) = ((rd_T46 l1_1 x6_3).f0) then (if ((rd_T46 l0_1 x6_3).f1) = ((rd_T46 l1_1 x6_3).f1) then (cohousingref23_Same.l1 k3 (wrap64 (x6_3 + 1)) l0_0 l0_1 l1_0 l1_1) else (some false)) else (some false)) else (some false)) = some r := H
       have A29 := mk_ A290
       clear A290
       by_cases c30 : t348 = true
       rotate_left
       ·replace c30 := Bool.eq_false_iff.mpr c30
        subst c30
        have H1 : (some false) = some r := by rw [if_neg (show ¬ (false = true) by decide)] at H; exact H
        clear H
        have H := H1
        clear H1
        obtain rfl := Option.some.inj H
        have hnb42 := NB342_343.out
        have hnc42 := NB343_342.out
        have hcz43_0 := bc0_ BK342.out
        have hcz43_1 := bc1_ BK342.out
        have hfz43_0 := blk_frozen BK342.out 0
        have hfz43_1 := blk_frozen BK342.out 1
        have p346 : 0 ≤ (x6_3 : Int) := od_
        have q346 : x6_3 < (l0_1.length : Int) := od_
        obtain ⟨ad346, A346_2, c346_2, e346, hx346_0, hx346_1, hx346_2, hl346_2, hi346_2⟩ := at_T46 HR0_1.out x6_3 p346 q346
        cases e346
        replace hx346_0 := cb_ HB hx346_0
        replace hx346_1 := cb_ HB hx346_1
        replace hx346_2 := cb_ HB hx346_2
        have HR346_2 := mk_ hi346_2
        have HC346_2 := mk_ hl346_2
        clear hi346_2 hl346_2
        replace p346 := eq_true p346
        replace q346 := eq_true q346
        have hcz44_0 := bc0_ BK343.out
        have hcz44_1 := bc1_ BK343.out
        have hfz44_0 := blk_frozen BK343.out 0
        have hfz44_1 := blk_frozen BK343.out 1
        have p347 : 0 ≤ (x6_3 : Int) := od_
        have q347 : x6_3 < (l1_1.length : Int) := od_
        obtain ⟨ad347, A347_2, c347_2, e347, hx347_0, hx347_1, hx347_2, hl347_2, hi347_2⟩ := at_T46 HR1_1.out x6_3 p347 q347
        cases e347
        replace hx347_0 := cb_ HB hx347_0
        replace hx347_1 := cb_ HB hx347_1
        replace hx347_2 := cb_ HB hx347_2
        have HR347_2 := mk_ hi347_2
        have HC347_2 := mk_ hl347_2
        clear hi347_2 hl347_2
        replace p347 := eq_true p347
        replace q347 := eq_true q347
        go_wp2_with (first | fail)
        repeat (go_quiet (first | (go_at_call 18; (with_reducible refine (cohousingref23_SameInts.calls k3 _ _ ((rd_T46 l0_1 x6_3).f2) _ _ ((rd_T46 l1_1 x6_3).f2) false _ ?side1 ?side2 ?side3 ?side4 A29.out).mono ?_); (case side1 => exact cc_ ((Kd.C_below HR346_2.out HB.out))); (case side2 => exact HC346_2.out); (case side3 => exact cc_ ((Kd.C_below HR347_2.out HB.out))); (case side4 => exact HC347_2.out); rintro e w' ⟨rfl, ⟨nd, rfl⟩⟩; (try first | exact ⟨rfl, _, World.drewN_drewN _ _ _⟩ | exact ⟨rfl, _, Eq.trans (World.drewN_drewN _ _ _) (congrArg (World.drewN _) (Nat.add_assoc _ _ _))⟩))); try go_wp2_with (first | fail))
        go_ret
        exact ⟨ew_, bs2_ HB GE342 GE343⟩
       subst c30
       have H1 : (if ((rd_T46 l0_1 x6_3).f0) = ((rd_T46 l1_1 x6_3).f0) then (if ((rd_T46 l0_1 x6_3).f1) = ((rd_T46 l1_1 x6_3).f1) then (cohousingref23_Same.l1 k3 (wrap64 (x6_3 + 1)) l0_0 l0_1 l1_0 l1_1) else (some false)) else (some false)) = some r := by rw [if_pos rfl] at H; exact H
       clear H
       have H := H1
       clear H1
       by_cases c31 : ((rd_T46 l0_1 x6_3).f0) = ((rd_T46 l1_1 x6_3).f0)
       rotate_left
       ·rw [if_neg c31] at H
        have c31b0 : (((rd_T46 l0_1 x6_3).f0) == ((rd_T46 l1_1 x6_3).f0)) = false := beq_eq_false_iff_ne.mpr c31
        have c31b1 : (((rd_T46 l0_1 x6_3).f0) != ((rd_T46 l1_1 x6_3).f0)) = true := bne_iff_ne.mpr c31
        obtain rfl := Option.some.inj H
        have hnb39 := NB342_343.out
        have hnc39 := NB343_342.out
        have hcz40_0 := bc0_ BK342.out
        have hcz40_1 := bc1_ BK342.out
        have hfz40_0 := blk_frozen BK342.out 0
        have hfz40_1 := blk_frozen BK342.out 1
        have p346 : 0 ≤ (x6_3 : Int) := od_
        have q346 : x6_3 < (l0_1.length : Int) := od_
        obtain ⟨ad346, A346_2, c346_2, e346, hx346_0, hx346_1, hx346_2, hl346_2, hi346_2⟩ := at_T46 HR0_1.out x6_3 p346 q346
        cases e346
        replace hx346_0 := cb_ HB hx346_0
        replace hx346_1 := cb_ HB hx346_1
        replace hx346_2 := cb_ HB hx346_2
        have HR346_2 := mk_ hi346_2
        have HC346_2 := mk_ hl346_2
        clear hi346_2 hl346_2
        replace p346 := eq_true p346
        replace q346 := eq_true q346
        have hcz41_0 := bc0_ BK343.out
        have hcz41_1 := bc1_ BK343.out
        have hfz41_0 := blk_frozen BK343.out 0
        have hfz41_1 := blk_frozen BK343.out 1
        have p347 : 0 ≤ (x6_3 : Int) := od_
        have q347 : x6_3 < (l1_1.length : Int) := od_
        obtain ⟨ad347, A347_2, c347_2, e347, hx347_0, hx347_1, hx347_2, hl347_2, hi347_2⟩ := at_T46 HR1_1.out x6_3 p347 q347
        cases e347
        replace hx347_0 := cb_ HB hx347_0
        replace hx347_1 := cb_ HB hx347_1
        replace hx347_2 := cb_ HB hx347_2
        have HR347_2 := mk_ hi347_2
        have HC347_2 := mk_ hl347_2
        clear hi347_2 hl347_2
        replace p347 := eq_true p347
        replace q347 := eq_true q347
        go_wp2_with (first | fail)
        repeat (go_quiet (first | (go_at_call 18; (with_reducible refine (cohousingref23_SameInts.calls k3 _ _ ((rd_T46 l0_1 x6_3).f2) _ _ ((rd_T46 l1_1 x6_3).f2) true _ ?side1 ?side2 ?side3 ?side4 A29.out).mono ?_); (case side1 => exact cc_ ((Kd.C_below HR346_2.out HB.out))); (case side2 => exact HC346_2.out); (case side3 => exact cc_ ((Kd.C_below HR347_2.out HB.out))); (case side4 => exact HC347_2.out); rintro e w' ⟨rfl, ⟨nd, rfl⟩⟩; (try first | exact ⟨rfl, _, World.drewN_drewN _ _ _⟩ | exact ⟨rfl, _, Eq.trans (World.drewN_drewN _ _ _) (congrArg (World.drewN _) (Nat.add_assoc _ _ _))⟩); have p349 : 0 ≤ (x6_3 : Int) := od_; have q349 : x6_3 < (l0_1.length : Int) := od_; obtain ⟨ad349, A349_2, c349_2, e349, hx349_0, hx349_1, hx349_2, hl349_2, hi349_2⟩ := at_T46 HR0_1.out x6_3 p349 q349; obtain rfl : ad346 = ad349 := (by injection e349); replace hx349_0 := cb_ HB hx349_0; replace hx349_1 := cb_ HB hx349_1; replace hx349_2 := cb_ HB hx349_2; have HR349_2 := mk_ hi349_2; have HC349_2 := mk_ hl349_2; clear hi349_2 hl349_2; replace p349 := eq_true p349; replace q349 := eq_true q349; have ea_ := Option.some.inj (hx346_2.symm.trans hx349_2); injection ea_ with ea_ en_ ec_; subst ea_; subst ec_; clear en_; have p350 : 0 ≤ (x6_3 : Int) := od_; have q350 : x6_3 < (l1_1.length : Int) := od_; obtain ⟨ad350, A350_2, c350_2, e350, hx350_0, hx350_1, hx350_2, hl350_2, hi350_2⟩ := at_T46 HR1_1.out x6_3 p350 q350; obtain rfl : ad347 = ad350 := (by injection e350); replace hx350_0 := cb_ HB hx350_0; replace hx350_1 := cb_ HB hx350_1; replace hx350_2 := cb_ HB hx350_2; have HR350_2 := mk_ hi350_2; have HC350_2 := mk_ hl350_2; clear hi350_2 hl350_2; replace p350 := eq_true p350; replace q350 := eq_true q350; have ea_ := Option.some.inj (hx347_2.symm.trans hx350_2); injection ea_ with ea_ en_ ec_; subst ea_; subst ec_; clear en_)); try go_wp2_with (first | fail))
        go_ret
        exact ⟨ew_, bs2_ HB GE342 GE343⟩
       rw [if_pos c31] at H
       have c31b0 : (((rd_T46 l0_1 x6_3).f0) == ((rd_T46 l1_1 x6_3).f0)) = true := beq_iff_eq.mpr c31
       have c31b1 : (((rd_T46 l0_1 x6_3).f0) != ((rd_T46 l1_1 x6_3).f0)) = false := bne_eq_false_iff_eq.mpr c31
       clear c31
       by_cases c32 : ((rd_T46 l0_1 x6_3).f1) = ((rd_T46 l1_1 x6_3).f1)
       rotate_left
       ·rw [if_neg c32] at H
        have c32b0 : (((rd_T46 l0_1 x6_3).f1) == ((rd_T46 l1_1 x6_3).f1)) = false := beq_eq_false_iff_ne.mpr c32
        have c32b1 : (((rd_T46 l0_1 x6_3).f1) != ((rd_T46 l1_1 x6_3).f1)) = true := bne_iff_ne.mpr c32
        obtain rfl := Option.some.inj H
        have hnb36 := NB342_343.out
        have hnc36 := NB343_342.out
        have hcz37_0 := bc0_ BK342.out
        have hcz37_1 := bc1_ BK342.out
        have hfz37_0 := blk_frozen BK342.out 0
        have hfz37_1 := blk_frozen BK342.out 1
        have p346 : 0 ≤ (x6_3 : Int) := od_
        have q346 : x6_3 < (l0_1.length : Int) := od_
        obtain ⟨ad346, A346_2, c346_2, e346, hx346_0, hx346_1, hx346_2, hl346_2, hi346_2⟩ := at_T46 HR0_1.out x6_3 p346 q346
        cases e346
        replace hx346_0 := cb_ HB hx346_0
        replace hx346_1 := cb_ HB hx346_1
        replace hx346_2 := cb_ HB hx346_2
        have HR346_2 := mk_ hi346_2
        have HC346_2 := mk_ hl346_2
        clear hi346_2 hl346_2
        replace p346 := eq_true p346
        replace q346 := eq_true q346
        have hcz38_0 := bc0_ BK343.out
        have hcz38_1 := bc1_ BK343.out
        have hfz38_0 := blk_frozen BK343.out 0
        have hfz38_1 := blk_frozen BK343.out 1
        have p347 : 0 ≤ (x6_3 : Int) := od_
        have q347 : x6_3 < (l1_1.length : Int) := od_
        obtain ⟨ad347, A347_2, c347_2, e347, hx347_0, hx347_1, hx347_2, hl347_2, hi347_2⟩ := at_T46 HR1_1.out x6_3 p347 q347
        cases e347
        replace hx347_0 := cb_ HB hx347_0
        replace hx347_1 := cb_ HB hx347_1
        replace hx347_2 := cb_ HB hx347_2
        have HR347_2 := mk_ hi347_2
        have HC347_2 := mk_ hl347_2
        clear hi347_2 hl347_2
        replace p347 := eq_true p347
        replace q347 := eq_true q347
        go_wp2_with (first | fail)
        repeat (go_quiet (first | (go_at_call 18; (with_reducible refine (cohousingref23_SameInts.calls k3 _ _ ((rd_T46 l0_1 x6_3).f2) _ _ ((rd_T46 l1_1 x6_3).f2) true _ ?side1 ?side2 ?side3 ?side4 A29.out).mono ?_); (case side1 => exact cc_ ((Kd.C_below HR346_2.out HB.out))); (case side2 => exact HC346_2.out); (case side3 => exact cc_ ((Kd.C_below HR347_2.out HB.out))); (case side4 => exact HC347_2.out); rintro e w' ⟨rfl, ⟨nd, rfl⟩⟩; (try first | exact ⟨rfl, _, World.drewN_drewN _ _ _⟩ | exact ⟨rfl, _, Eq.trans (World.drewN_drewN _ _ _) (congrArg (World.drewN _) (Nat.add_assoc _ _ _))⟩); have p349 : 0 ≤ (x6_3 : Int) := od_; have q349 : x6_3 < (l0_1.length : Int) := od_; obtain ⟨ad349, A349_2, c349_2, e349, hx349_0, hx349_1, hx349_2, hl349_2, hi349_2⟩ := at_T46 HR0_1.out x6_3 p349 q349; obtain rfl : ad346 = ad349 := (by injection e349); replace hx349_0 := cb_ HB hx349_0; replace hx349_1 := cb_ HB hx349_1; replace hx349_2 := cb_ HB hx349_2; have HR349_2 := mk_ hi349_2; have HC349_2 := mk_ hl349_2; clear hi349_2 hl349_2; replace p349 := eq_true p349; replace q349 := eq_true q349; have ea_ := Option.some.inj (hx346_2.symm.trans hx349_2); injection ea_ with ea_ en_ ec_; subst ea_; subst ec_; clear en_; have p350 : 0 ≤ (x6_3 : Int) := od_; have q350 : x6_3 < (l1_1.length : Int) := od_; obtain ⟨ad350, A350_2, c350_2, e350, hx350_0, hx350_1, hx350_2, hl350_2, hi350_2⟩ := at_T46 HR1_1.out x6_3 p350 q350; obtain rfl : ad347 = ad350 := (by injection e350); replace hx350_0 := cb_ HB hx350_0; replace hx350_1 := cb_ HB hx350_1; replace hx350_2 := cb_ HB hx350_2; have HR350_2 := mk_ hi350_2; have HC350_2 := mk_ hl350_2; clear hi350_2 hl350_2; replace p350 := eq_true p350; replace q350 := eq_true q350; have ea_ := Option.some.inj (hx347_2.symm.trans hx350_2); injection ea_ with ea_ en_ ec_; subst ea_; subst ec_; clear en_; have p351 : 0 ≤ (x6_3 : Int) := od_; have q351 : x6_3 < (l0_1.length : Int) := od_; obtain ⟨ad351, A351_2, c351_2, e351, hx351_0, hx351_1, hx351_2, hl351_2, hi351_2⟩ := at_T46 HR0_1.out x6_3 p351 q351; obtain rfl : ad346 = ad351 := (by injection e351); replace hx351_0 := cb_ HB hx351_0; replace hx351_1 := cb_ HB hx351_1; replace hx351_2 := cb_ HB hx351_2; have HR351_2 := mk_ hi351_2; have HC351_2 := mk_ hl351_2; clear hi351_2 hl351_2; replace p351 := eq_true p351; replace q351 := eq_true q351; have ea_ := Option.some.inj (hx346_2.symm.trans hx351_2); injection ea_ with ea_ en_ ec_; subst ea_; subst ec_; clear en_; have p352 : 0 ≤ (x6_3 : Int) := od_; have q352 : x6_3 < (l1_1.length : Int) := od_; obtain ⟨ad352, A352_2, c352_2, e352, hx352_0, hx352_1, hx352_2, hl352_2, hi352_2⟩ := at_T46 HR1_1.out x6_3 p352 q352; obtain rfl : ad347 = ad352 := (by injection e352); replace hx352_0 := cb_ HB hx352_0; replace hx352_1 := cb_ HB hx352_1; replace hx352_2 := cb_ HB hx352_2; have HR352_2 := mk_ hi352_2; have HC352_2 := mk_ hl352_2; clear hi352_2 hl352_2; replace p352 := eq_true p352; replace q352 := eq_true q352; have ea_ := Option.some.inj (hx347_2.symm.trans hx352_2); injection ea_ with ea_ en_ ec_; subst ea_; subst ec_; clear en_)); try go_wp2_with (first | fail))
        go_ret
        exact ⟨ew_, bs2_ HB GE342 GE343⟩
       rw [if_pos c32] at H
       have c32b0 : (((rd_T46 l0_1 x6_3).f1) == ((rd_T46 l1_1 x6_3).f1)) = true := beq_iff_eq.mpr c32
       have c32b1 : (((rd_T46 l0_1 x6_3).f1) != ((rd_T46 l1_1 x6_3).f1)) = false := bne_eq_false_iff_eq.mpr c32
       clear c32
       have H' := mk_ H
       clear H
       have hnb33 := NB342_343.out
       have hnc33 := NB343_342.out
       have hcz34_0 := bc0_ BK342.out
       have hcz34_1 := bc1_ BK342.out
       have hfz34_0 := blk_frozen BK342.out 0
       have hfz34_1 := blk_frozen BK342.out 1
       have p346 : 0 ≤ (x6_3 : Int) := od_
       have q346 : x6_3 < (l0_1.length : Int) := od_
       obtain ⟨ad346, A346_2, c346_2, e346, hx346_0, hx346_1, hx346_2, hl346_2, hi346_2⟩ := at_T46 HR0_1.out x6_3 p346 q346
       cases e346
       replace hx346_0 := cb_ HB hx346_0
       replace hx346_1 := cb_ HB hx346_1
       replace hx346_2 := cb_ HB hx346_2
       have HR346_2 := mk_ hi346_2
       have HC346_2 := mk_ hl346_2
       clear hi346_2 hl346_2
       replace p346 := eq_true p346
       replace q346 := eq_true q346
       have hcz35_0 := bc0_ BK343.out
       have hcz35_1 := bc1_ BK343.out
       have hfz35_0 := blk_frozen BK343.out 0
       have hfz35_1 := blk_frozen BK343.out 1
       have p347 : 0 ≤ (x6_3 : Int) := od_
       have q347 : x6_3 < (l1_1.length : Int) := od_
       obtain ⟨ad347, A347_2, c347_2, e347, hx347_0, hx347_1, hx347_2, hl347_2, hi347_2⟩ := at_T46 HR1_1.out x6_3 p347 q347
       cases e347
       replace hx347_0 := cb_ HB hx347_0
       replace hx347_1 := cb_ HB hx347_1
       replace hx347_2 := cb_ HB hx347_2
       have HR347_2 := mk_ hi347_2
       have HC347_2 := mk_ hl347_2
       clear hi347_2 hl347_2
       replace p347 := eq_true p347
       replace q347 := eq_true q347
       go_wp2_with (first | fail)
       repeat (go_quiet (first | (go_at_call 18; (with_reducible refine (cohousingref23_SameInts.calls k3 _ _ ((rd_T46 l0_1 x6_3).f2) _ _ ((rd_T46 l1_1 x6_3).f2) true _ ?side1 ?side2 ?side3 ?side4 A29.out).mono ?_); (case side1 => exact cc_ ((Kd.C_below HR346_2.out HB.out))); (case side2 => exact HC346_2.out); (case side3 => exact cc_ ((Kd.C_below HR347_2.out HB.out))); (case side4 => exact HC347_2.out); rintro e w' ⟨rfl, ⟨nd, rfl⟩⟩; (try first | exact ⟨rfl, _, World.drewN_drewN _ _ _⟩ | exact ⟨rfl, _, Eq.trans (World.drewN_drewN _ _ _) (congrArg (World.drewN _) (Nat.add_assoc _ _ _))⟩); have p349 : 0 ≤ (x6_3 : Int) := od_; have q349 : x6_3 < (l0_1.length : Int) := od_; obtain ⟨ad349, A349_2, c349_2, e349, hx349_0, hx349_1, hx349_2, hl349_2, hi349_2⟩ := at_T46 HR0_1.out x6_3 p349 q349; obtain rfl : ad346 = ad349 := (by injection e349); replace hx349_0 := cb_ HB hx349_0; replace hx349_1 := cb_ HB hx349_1; replace hx349_2 := cb_ HB hx349_2; have HR349_2 := mk_ hi349_2; have HC349_2 := mk_ hl349_2; clear hi349_2 hl349_2; replace p349 := eq_true p349; replace q349 := eq_true q349; have ea_ := Option.some.inj (hx346_2.symm.trans hx349_2); injection ea_ with ea_ en_ ec_; subst ea_; subst ec_; clear en_; have p350 : 0 ≤ (x6_3 : Int) := od_; have q350 : x6_3 < (l1_1.length : Int) := od_; obtain ⟨ad350, A350_2, c350_2, e350, hx350_0, hx350_1, hx350_2, hl350_2, hi350_2⟩ := at_T46 HR1_1.out x6_3 p350 q350; obtain rfl : ad347 = ad350 := (by injection e350); replace hx350_0 := cb_ HB hx350_0; replace hx350_1 := cb_ HB hx350_1; replace hx350_2 := cb_ HB hx350_2; have HR350_2 := mk_ hi350_2; have HC350_2 := mk_ hl350_2; clear hi350_2 hl350_2; replace p350 := eq_true p350; replace q350 := eq_true q350; have ea_ := Option.some.inj (hx347_2.symm.trans hx350_2); injection ea_ with ea_ en_ ec_; subst ea_; subst ec_; clear en_; have p351 : 0 ≤ (x6_3 : Int) := od_; have q351 : x6_3 < (l0_1.length : Int) := od_; obtain ⟨ad351, A351_2, c351_2, e351, hx351_0, hx351_1, hx351_2, hl351_2, hi351_2⟩ := at_T46 HR0_1.out x6_3 p351 q351; obtain rfl : ad346 = ad351 := (by injection e351); replace hx351_0 := cb_ HB hx351_0; replace hx351_1 := cb_ HB hx351_1; replace hx351_2 := cb_ HB hx351_2; have HR351_2 := mk_ hi351_2; have HC351_2 := mk_ hl351_2; clear hi351_2 hl351_2; replace p351 := eq_true p351; replace q351 := eq_true q351; have ea_ := Option.some.inj (hx346_2.symm.trans hx351_2); injection ea_ with ea_ en_ ec_; subst ea_; subst ec_; clear en_; have p352 : 0 ≤ (x6_3 : Int) := od_; have q352 : x6_3 < (l1_1.length : Int) := od_; obtain ⟨ad352, A352_2, c352_2, e352, hx352_0, hx352_1, hx352_2, hl352_2, hi352_2⟩ := at_T46 HR1_1.out x6_3 p352 q352; obtain rfl : ad347 = ad352 := (by injection e352); replace hx352_0 := cb_ HB hx352_0; replace hx352_1 := cb_ HB hx352_1; replace hx352_2 := cb_ HB hx352_2; have HR352_2 := mk_ hi352_2; have HC352_2 := mk_ hl352_2; clear hi352_2 hl352_2; replace p352 := eq_true p352; replace q352 := eq_true q352; have ea_ := Option.some.inj (hx347_2.symm.trans hx352_2); injection ea_ with ea_ en_ ec_; subst ea_; subst ec_; clear en_)); try go_wp2_with (first | fail))
       go_roundg k3
       case measure => have := HJ2.out; have := HK2.out; have := HK3.out; omega
       case rel => exact ⟨(wrap64 (x6_3 + 1)), sd_, H', ⟨by have := HJ2.out; have := HK2.out; have := HK3.out; omega⟩, ⟨kk_ BK342⟩, ⟨kk_ BK343⟩, ⟨bs2_ HB GE342 GE343⟩⟩
end Go.Proofs.Ytocbiggglnpeoaa.M
end
section
namespace Go.Proofs.Ytocbiggglnpeoaa.M
open Go.RowKit Go.Proofs.YtocbiggglnpeoaaW.PrintWords Go.Proofs.YtocbiggglnpeoaaW.PrintLast Go.Proofs.YtocbiggglnpeoaaW.PrintMore Go.Proofs.YtocbiggglnpeoaaH
open Classical
def Ev {α : Type} (f : Nat → Option α) (r : α) : Prop := ∃ k0, ∀ k, k0 ≤ k → f k = some r
theorem Ev.step {α : Type} {f : Nat → Option α} {r : α} (h : Ev (fun k => f (k + 1)) r) : Ev f r := by
 obtain ⟨k0, hk⟩ := h
 refine ⟨k0 + 1, fun k h1 => ?_⟩
 obtain ⟨m, rfl⟩ : ∃ m, k = m + 1 := ⟨k - 1, by omega⟩
 exact hk m (by omega)
theorem Ev.pure {α : Type} (r : α) : Ev (fun _ => some r) r := ⟨0, fun _ _ => rfl⟩
theorem Ev.bnd {α β : Type} {f : Nat → Option β} {g : β → Nat → Option α} {b : β} {r : α} (hf : Ev f b) (hg : Ev (g b) r) : Ev (fun k => (f k).bind fun t => g t k) r := by
 obtain ⟨k0, h0⟩ := hf
 obtain ⟨k1, h1⟩ := hg
 refine ⟨max k0 k1, fun k hk => ?_⟩
 show (f k).bind _ = _
 rw [h0 k (by omega)]
 exact h1 k (by omega)
theorem Ev.congr {α : Type} {f g : Nat → Option α} {r : α} (h : ∀ k, f k = g k) (hg : Ev g r) : Ev f r := by
 obtain ⟨k0, hk⟩ := hg
 exact ⟨k0, fun k h1 => by rw [h k]; exact hk k h1⟩
theorem Ev.of_mono {α : Type} {f : Nat → Option α} {r : α} (k0 : Nat) (h0 : f k0 = some r) (h : ∀ k, LeO (f k) (f (k + 1))) : Ev f r := by
 refine ⟨k0, fun k hk => ?_⟩
 obtain ⟨d, rfl⟩ : ∃ d, k = k0 + d := ⟨k - k0, by omega⟩
 induction d with
 | zero => exact h0
 | succ d ih => exact h _ _ (ih (by omega))
theorem wrap_nat {i : Nat} (h : i ≤ 140737488355328) : wrap64 ((i : Int) + 1) = ((i + 1 : Nat) : Int) := by unfold wrap64; omega
abbrev FT := S84
abbrev PT := S46
abbrev MT := S51
abbrev GT := S49
abbrev YT := S55
abbrev fid (l : List FT) (i : Nat) : Int := (rd_T84 l (i : Int)).f0
abbrev pid (l : List PT) (i : Nat) : Int := (rd_T46 l (i : Int)).f0
abbrev pfl (l : List PT) (i : Nat) : Int := (rd_T46 l (i : Int)).f1
abbrev pwt (l : List PT) (i : Nat) : List Int := (rd_T46 l (i : Int)).f2
abbrev mv (l : List MT) (i : Nat) : MT := rd_T51 l (i : Int)
abbrev rg (l : List GT) (i : Nat) : GT := rd_T49 l (i : Int)
abbrev ry (l : List YT) (i : Nat) : YT := rd_T55 l (i : Int)
theorem fl_get (l : List FT) (j : Nat) (h : j < l.length) : rd_T84 l (j : Int) = l[j] := by simp [rd_T84, List.getD_eq_getElem?_getD, h]
theorem pa_get (l : List PT) (j : Nat) (h : j < l.length) : rd_T46 l (j : Int) = l[j] := by simp [rd_T46, List.getD_eq_getElem?_getD, h]
theorem mv_get (l : List MT) (j : Nat) (h : j < l.length) : mv l j = l[j] := by simp [mv, rd_T51, List.getD_eq_getElem?_getD, h]
theorem rg_get (l : List GT) (j : Nat) (h : j < l.length) : rg l j = l[j] := by simp [rg, rd_T49, List.getD_eq_getElem?_getD, h]
theorem rd_get (l : List Int) (j : Nat) (h : j < l.length) : rd l (j : Int) = l[j] := by simp [rd, List.getD_eq_getElem?_getD, h]
theorem asc_adj (g : Nat → Int) (q : Int) (m : Nat) : (∀ n, n < m → (if n = 0 then q else g (n - 1)) < g n) ↔ (∀ n, n < m → q < g n) ∧ (∀ i j, i < j → j < m → g i < g j) := by
 constructor
 ·intro h
  have h2 : ∀ i d, i + d + 1 < m → g i < g (i + d + 1) := by
   intro i d
   induction d with
   | zero => intro hm; have := h (i + 1) hm; rwa [if_neg (by omega)] at this
   | succ d ih =>
    intro hm
    have h1 := ih (by omega)
    have h3 := h (i + (d + 1) + 1) hm
    rw [if_neg (by omega), show i + (d + 1) + 1 - 1 = i + d + 1 by omega] at h3
    omega
  have h1 : ∀ i j, i < j → j < m → g i < g j := fun i j hij hj => by
   have := h2 i (j - i - 1) (by omega)
   rwa [show i + (j - i - 1) + 1 = j by omega] at this
  refine ⟨fun n hn => ?_, h1⟩
  have h0 := h 0 (by omega)
  rw [if_pos rfl] at h0
  by_cases e : n = 0
  ·subst e; exact h0
  ·have := h1 0 n (by omega) hn; omega
 ·rintro ⟨h1, h2⟩ n hn
  by_cases e : n = 0
  ·rw [if_pos e]; exact h1 n hn
  ·rw [if_neg e]; exact h2 (n - 1) n (by omega) hn
theorem foldM_key {α : Type} (g : Int → α) (ks : Nat → Int) (k : Int) : ∀ n, foldM ks (fun j => g (ks j)) n k = if ∃ j, j < n ∧ ks j = k then some (g k) else none
 | 0 => by rw [if_neg (fun ⟨j, hj, _⟩ => absurd hj (Nat.not_lt_zero _))]; rfl
 | n + 1 => by
  rw [foldM_succ]
  unfold upd
  by_cases h : k = ks n
  ·rw [if_pos h, if_pos ⟨n, by omega, h.symm⟩, h]
  ·rw [if_neg h, foldM_key g ks k n]
   by_cases h2 : ∃ j, j < n ∧ ks j = k
   ·obtain ⟨j, hj, e⟩ := h2
    rw [if_pos ⟨j, hj, e⟩, if_pos ⟨j, by omega, e⟩]
   ·rw [if_neg h2, if_neg]
    rintro ⟨j, hj, e⟩
    rcases Nat.lt_succ_iff_lt_or_eq.1 hj with h' | h'
    ·exact h2 ⟨j, h', e⟩
    ·subst h'; exact h e.symm
theorem foldM_const {α : Type} (v : α) (ks : Nat → Int) (k : Int) (n : Nat) : foldM ks (fun _ => v) n k = if ∃ j, j < n ∧ ks j = k then some v else none := foldM_key (fun _ => v) ks k n
theorem foldM_inj {α : Type} (ks : Nat → Int) (vs : Nat → α) : ∀ n, (∀ i j, i < j → j < n → ks i ≠ ks j) → ∀ j, j < n → foldM ks vs n (ks j) = some (vs j)
 | 0 => fun _ j hj => absurd hj (Nat.not_lt_zero _)
 | n + 1 => fun h j hj => by
  rw [foldM_succ]
  unfold upd
  by_cases e : j = n
  ·subst e; rw [if_pos rfl]
  ·rw [if_neg (h j n (by omega) (by omega))]
   exact foldM_inj ks vs n (fun i j h1 h2 => h i j h1 (by omega)) j (by omega)
theorem foldM_has {α : Type} (ks : Nat → Int) (vs : Nat → α) (k : Int) (v : α) : ∀ n, foldM ks vs n k = some v → ∃ j, j < n ∧ ks j = k ∧ vs j = v
 | 0 => fun h => by cases h
 | n + 1 => fun h => by
  rw [foldM_succ] at h
  unfold upd at h
  by_cases e : k = ks n
  ·rw [if_pos e] at h
   exact ⟨n, by omega, e.symm, Option.some.inj h⟩
  ·rw [if_neg e] at h
   obtain ⟨j, hj, h1, h2⟩ := foldM_has ks vs k v n h
   exact ⟨j, by omega, h1, h2⟩
theorem foldM_no {α : Type} (ks : Nat → Int) (vs : Nat → α) (k : Int) (n : Nat) (h : foldM ks vs n k = none) : ∀ j, j < n → ks j ≠ k := fun j hj e => by
 have := (foldM_isSome ks vs k n).2 ⟨j, hj, e⟩
 rw [h] at this
 cases this
def HasF (fl : List FT) (x : Int) : Prop := ∃ j, j < fl.length ∧ fid fl j = x
structure FlatsV (fl : List FT) : Prop where
 asc : ∀ i j, i < j → j < fl.length → fid fl i < fid fl j
 rng : ∀ i, i < fl.length → 1 ≤ fid fl i ∧ fid fl i ≤ 64 ∧ 1 ≤ (rd_T84 fl (i : Int)).f1 ∧ (rd_T84 fl (i : Int)).f1 ≤ 10
theorem flatsOk_iff (fl : List FT) : flatsOk fl = true ↔ FlatsV fl := by
 have h := asc_adj (fid fl) 0 fl.length
 have e : ∀ n, (if n = 0 then (0 : Int) else fid fl (n - 1)) = lastF fl n := fun n => rfl
 simp only [e] at h
 unfold flatsOk flatAt
 simp only [List.all_eq_true, List.mem_range, decide_eq_true_iff]
 constructor
 ·intro hh
  obtain ⟨h1, h2⟩ := h.1 (fun n hn => (hh n hn).1)
  exact ⟨h2, fun i hi => ⟨by have := h1 i hi; omega, (hh i hi).2⟩⟩
 ·intro hv n hn
  exact ⟨h.2 ⟨fun n hn => by have := (hv.rng n hn).1; omega, hv.asc⟩ n hn, (hv.rng n hn).2⟩
theorem asc_count (g : Nat → Int) (m : Nat) (h1 : ∀ i, i < m → 1 ≤ g i) (h2 : ∀ i j, i < j → j < m → g i < g j) : ∀ i, i < m → (i : Int) + 1 ≤ g i := by
 intro i
 induction i with
 | zero => intro h; have := h1 0 h; omega
 | succ i ih => intro h; have := ih (by omega); have := h2 i (i + 1) (by omega) h; omega
theorem FlatsV.len {fl : List FT} (h : FlatsV fl) : fl.length ≤ 64 := by
 rcases Nat.eq_zero_or_pos fl.length with e | e
 ·omega
 ·have h1 := asc_count (fid fl) fl.length (fun i hi => (h.rng i hi).1) h.asc (fl.length - 1) (by omega)
  have h2 := (h.rng (fl.length - 1) (by omega)).2.1
  omega
structure Market (fl : List FT) (pa : List PT) : Prop where
 flv : FlatsV fl
 asc : ∀ i j, i < j → j < pa.length → pid pa i < pid pa j
 rng : ∀ i, i < pa.length → 1 ≤ pid pa i ∧ pid pa i ≤ 64
 own : ∀ i, i < pa.length → pfl pa i ≠ 0 → HasF fl (pfl pa i)
 dis : ∀ i j, i < j → j < pa.length → pfl pa j ≠ 0 → pfl pa i ≠ pfl pa j
 wnt : ∀ i, i < pa.length → ∀ k, k < (pwt pa i).length → HasF fl (rd (pwt pa i) (k : Int))
 wdis : ∀ i, i < pa.length → ∀ j k, j < k → k < (pwt pa i).length → rd (pwt pa i) (j : Int) ≠ rd (pwt pa i) (k : Int)
theorem rooms_iff {fl : List FT} (h : FlatsV fl) (x : Int) : (roomsM fl fl.length x).getD 0 ≠ 0 ↔ HasF fl x := by
 unfold roomsM
 constructor
 ·intro hh
  cases hx : foldM (fun j : Nat => (rd_T84 fl (j : Int)).f0) (fun j : Nat => (rd_T84 fl (j : Int)).f1) fl.length x with
  | none => rw [hx] at hh; exact absurd rfl hh
  | some v =>
   obtain ⟨j, hj, e, _⟩ := foldM_has _ _ _ _ _ hx
   exact ⟨j, hj, e⟩
 ·rintro ⟨j, hj, rfl⟩
  rw [foldM_inj (fun j : Nat => (rd_T84 fl (j : Int)).f0) _ fl.length (fun i j h1 h2 => Int.ne_of_lt (h.asc i j h1 h2)) j hj]
  have := (h.rng j hj).2.2.1
  show (rd_T84 fl (j : Int)).f1 ≠ 0
  omega
theorem getD_ite {c : Prop} [Decidable c] : ((if c then some true else none : Option Bool).getD false) = decide c := by
 by_cases h : c <;> simp [h]
theorem marketOk_iff (fl : List FT) (pa : List PT) : marketOk fl pa = true ↔ Market fl pa := by
 have ha := asc_adj (pid pa) 0 pa.length
 have e : ∀ n, (if n = 0 then (0 : Int) else pid pa (n - 1)) = lastP pa n := fun n => rfl
 simp only [e] at ha
 have hw : FlatsV fl → ∀ l : List Int, (wantsOk (roomsM fl fl.length) l = true ↔ (∀ k, k < l.length → HasF fl (rd l (k : Int))) ∧ (∀ j k, j < k → k < l.length → rd l (j : Int) ≠ rd l (k : Int))) := by
  intro hf l
  unfold wantsOk wantAt seenM
  simp only [List.all_eq_true, List.mem_range, Bool.and_eq_true, decide_eq_true_iff, Bool.not_eq_true', foldM_const, getD_ite, decide_eq_false_iff_not, rooms_iff hf]
  constructor
  ·intro hh
   exact ⟨fun k hk => (hh k hk).1, fun j k hj hk e => (hh k hk).2 ⟨j, hj, e⟩⟩
  ·rintro ⟨h1, h2⟩ k hk
   exact ⟨h1 k hk, fun ⟨j, hj, e⟩ => h2 j k hj hk e⟩
 have hp : FlatsV fl → ∀ n, (partyAt fl pa n = true ↔ (lastP pa n < pid pa n ∧ pid pa n ≤ 64) ∧ (pfl pa n = 0 ∨ HasF fl (pfl pa n) ∧ ∀ j, j < n → pfl pa j ≠ pfl pa n) ∧ (∀ k, k < (pwt pa n).length → HasF fl (rd (pwt pa n) (k : Int))) ∧ (∀ j k, j < k → k < (pwt pa n).length → rd (pwt pa n) (j : Int) ≠ rd (pwt pa n) (k : Int))) := by
  intro hf n
  unfold partyAt partyOk takenM
  simp only [Bool.and_eq_true, Bool.or_eq_true, decide_eq_true_iff, Bool.not_eq_true', foldM_const, getD_ite, decide_eq_false_iff_not, rooms_iff hf, hw hf, and_assoc]
  constructor
  ·rintro ⟨h1, h2, h3, h4, h5⟩
   refine ⟨h1, h2, ?_, h4, h5⟩
   rcases h3 with h3 | ⟨h3, h6⟩
   ·exact .inl h3
   ·exact .inr ⟨h3, fun j hj e => h6 ⟨j, hj, e⟩⟩
  ·rintro ⟨h1, h2, h3, h4, h5⟩
   refine ⟨h1, h2, ?_, h4, h5⟩
   rcases h3 with h3 | ⟨h3, h6⟩
   ·exact .inl h3
   ·exact .inr ⟨h3, fun ⟨j, hj, e⟩ => h6 j hj e⟩
 unfold marketOk
 rw [Bool.and_eq_true, flatsOk_iff, List.all_eq_true]
 simp only [List.mem_range]
 constructor
 ·rintro ⟨hf, hh⟩
  have hh' := fun n hn => (hp hf n).1 (hh n hn)
  obtain ⟨h1, h2⟩ := ha.1 (fun n hn => (hh' n hn).1.1)
  refine ⟨hf, h2, fun i hi => ⟨by have := h1 i hi; omega, (hh' i hi).1.2⟩, fun i hi h0 => ?_, fun i j hij hj h0 => ?_, fun i hi => (hh' i hi).2.2.1, fun i hi => (hh' i hi).2.2.2⟩
  ·rcases (hh' i hi).2.1 with h | h
   ·exact absurd h h0
   ·exact h.1
  ·rcases (hh' j hj).2.1 with h | h
   ·exact absurd h h0
   ·exact h.2 i hij
 ·intro hv
  refine ⟨hv.flv, fun n hn => (hp hv.flv n).2 ⟨⟨ha.2 ⟨fun n hn => by have := (hv.rng n hn).1; omega, hv.asc⟩ n hn, (hv.rng n hn).2⟩, ?_, hv.wnt n hn, hv.wdis n hn⟩⟩
  by_cases h0 : pfl pa n = 0
  ·exact .inl h0
  ·exact .inr ⟨hv.own n hn h0, fun j hj => hv.dis j n hj hn h0⟩
theorem Market.len {fl : List FT} {pa : List PT} (h : Market fl pa) : pa.length ≤ 64 := by
 rcases Nat.eq_zero_or_pos pa.length with e | e
 ·omega
 ·have h1 := asc_count (pid pa) pa.length (fun i hi => (h.rng i hi).1) h.asc (pa.length - 1) (by omega)
  have h2 := (h.rng (pa.length - 1) (by omega)).2
  omega
theorem Market.inj {fl : List FT} {pa : List PT} (h : Market fl pa) {i j : Nat} (hi : i < pa.length) (hj : j < pa.length) (e : pid pa i = pid pa j) : i = j := by
 rcases Nat.lt_trichotomy i j with h1 | h1 | h1
 ·have := h.asc i j h1 hj; omega
 ·exact h1
 ·have := h.asc j i h1 hi; omega
def Fits (fl : List FT) (pa : List PT) (x : MT) : Prop := ∃ i, i < pa.length ∧ pid pa i = x.f0 ∧ pfl pa i = x.f1 ∧ HasF fl x.f2
def Free (pa : List PT) (x : Int) : Prop := ∀ i, i < pa.length → pfl pa i ≠ x
theorem known_eq (fl : List FT) (x : Int) : (knownM fl fl.length x).getD false = decide (HasF fl x) := by
 unfold knownM
 rw [foldM_const, getD_ite]
 exact decide_eq_decide.2 Iff.rfl
theorem occ_eq (pa : List PT) (x : Int) (hx : x ≠ 0) : (occM pa pa.length x).getD false = !decide (Free pa x) := by
 unfold occM
 rw [foldM_key (fun k => k != 0)]
 by_cases h : ∃ j, j < pa.length ∧ (rd_T46 pa (j : Int)).f1 = x
 ·rw [if_pos h, decide_eq_false (show ¬ Free pa x from fun hf => by obtain ⟨j, hj, e⟩ := h; exact hf j hj e)]
  simpa using hx
 ·rw [if_neg h, decide_eq_true (show Free pa x from fun j hj e => h ⟨j, hj, e⟩)]
  rfl
section
variable {fl : List FT} {pa : List PT} (hM : Market fl pa)
include hM
theorem homes_at {i : Nat} (hi : i < pa.length) : homesM pa pa.length (pid pa i) = some (pfl pa i) :=
 foldM_inj (fun j : Nat => (rd_T46 pa (j : Int)).f0) (fun j : Nat => (rd_T46 pa (j : Int)).f1) pa.length (fun i j h1 h2 => Int.ne_of_lt (hM.asc i j h1 h2)) i hi
theorem fits_iff (x : MT) : fitsB (homesM pa pa.length) (knownM fl fl.length) x = true ↔ Fits fl pa x := by
 unfold fitsB
 rw [Bool.and_eq_true, Bool.and_eq_true, known_eq, decide_eq_true_iff]
 constructor
 ·rintro ⟨⟨h1, h2⟩, h3⟩
  cases hx : homesM pa pa.length x.f0 with
  | none => rw [hx] at h1; cases h1
  | some v =>
   obtain ⟨j, hj, e1, e2⟩ := foldM_has _ _ _ _ _ hx
   rw [hx] at h2
   exact ⟨j, hj, e1, by rw [show pfl pa j = v from e2]; exact eq_of_beq h2, h3⟩
 ·rintro ⟨i, hi, e1, e2, h3⟩
  have := homes_at hM hi
  rw [e1, e2] at this
  rw [this]
  exact ⟨⟨rfl, beq_self_eq_true _⟩, h3⟩
end
theorem HasF.pos {fl : List FT} (h : FlatsV fl) {x : Int} (hx : HasF fl x) : 1 ≤ x := by
 obtain ⟨j, hj, rfl⟩ := hx
 exact (h.rng j hj).1
end Go.Proofs.Ytocbiggglnpeoaa.M
end
section
namespace Go.Proofs.Ytocbiggglnpeoaa.M
open Go.RowKit Go.Proofs.YtocbiggglnpeoaaW.PrintWords Go.Proofs.YtocbiggglnpeoaaW.PrintLast Go.Proofs.YtocbiggglnpeoaaW.PrintMore Go.Proofs.YtocbiggglnpeoaaH
open Classical
theorem loopUp (n : Nat) (P : Nat → Prop) (h0 : P n) (hs : ∀ i, i < n → P (i + 1) → P i) : ∀ i, i ≤ n → P i := by
 have key : ∀ d i, i + d = n → P i := by
  intro d
  induction d with
  | zero => intro i hi; rw [show i = n by omega]; exact h0
  | succ d ih => intro i hi; exact hs i (by omega) (ih (i + 1) (by omega))
 exact fun i hi => key (n - i) i (by omega)
def firstI (p : Nat → Bool) : Nat → Nat → Int
 | 0, _ => -1
 | d + 1, i => if p i = true then (i : Int) else firstI p d (i + 1)
theorem firstI_is (p : Nat → Bool) : ∀ d i, (firstI p d i = -1 ∧ ∀ j, i ≤ j → j < i + d → p j = false) ∨ ∃ j, i ≤ j ∧ j < i + d ∧ p j = true ∧ (∀ m, i ≤ m → m < j → p m = false) ∧ firstI p d i = j := by
 intro d
 induction d with
 | zero => intro i; exact .inl ⟨rfl, fun j h1 h2 => absurd h2 (by omega)⟩
 | succ d ih =>
  intro i
  unfold firstI
  by_cases h : p i = true
  ·rw [if_pos h]
   exact .inr ⟨i, Nat.le_refl _, by omega, h, fun m h1 h2 => absurd h2 (by omega), rfl⟩
  ·rw [if_neg h]
   have hf : p i = false := by cases hx : p i with | false => rfl | true => exact absurd hx h
   rcases ih (i + 1) with ⟨e, ha⟩ | ⟨j, h1, h2, h3, h4, e⟩
   ·refine .inl ⟨e, fun j h1 h2 => ?_⟩
    by_cases hj : j = i
    ·rw [hj]; exact hf
    ·exact ha j (by omega) (by omega)
   ·refine .inr ⟨j, by omega, by omega, h3, fun m hm1 hm2 => ?_, e⟩
    by_cases hj : m = i
    ·rw [hj]; exact hf
    ·exact h4 m (by omega) hm2
def inR (l : List Int) (x : Int) : Int := firstI (fun j => rd l (j : Int) == x) l.length 0
theorem inR_is (l : List Int) (x : Int) : (inR l x = -1 ∧ ∀ j, j < l.length → rd l (j : Int) ≠ x) ∨ ∃ j : Nat, j < l.length ∧ rd l (j : Int) = x ∧ (∀ m : Nat, m < j → rd l (m : Int) ≠ x) ∧ inR l x = j := by
 rcases firstI_is (fun j => rd l (j : Int) == x) l.length 0 with ⟨e, h⟩ | ⟨j, _, h2, h3, h4, e⟩
 ·exact .inl ⟨e, fun j hj => beq_eq_false_iff_ne.1 (h j (by omega) (by omega))⟩
 ·exact .inr ⟨j, by omega, eq_of_beq h3, fun m hm => beq_eq_false_iff_ne.1 (h4 m (by omega) hm), e⟩
theorem inR_pos (l : List Int) (x : Int) : inR l x ≥ 0 ↔ x ∈ l := by
 rcases inR_is l x with ⟨e, h⟩ | ⟨j, h1, h2, _, e⟩
 ·rw [e]
  constructor
  ·intro h; omega
  ·intro hm
   obtain ⟨j, hj, e2⟩ := List.mem_iff_getElem.1 hm
   exact absurd ((rd_get l j hj).trans e2) (h j hj)
 ·rw [e]
  exact ⟨fun _ => by rw [← h2, rd_get l j h1]; exact List.getElem_mem h1, fun _ => by omega⟩
theorem In_f (l : List Int) (x : Int) (hB : l.length ≤ 140737488355328) : Ev (fun k => cohousingref23_In.f k l x) (inR l x) := by
 have key : ∀ d i, i + d = l.length → Ev (fun k => cohousingref23_In.l0 k l x (i : Int)) (firstI (fun j => rd l (j : Int) == x) d i) := by
  intro d
  induction d with
  | zero =>
   intro i hi
   have h1 : ¬ ((i : Int) < (l.length : Int)) := by omega
   refine Ev.step ?_
   simp only [cohousingref23_In.l0, h1, if_false]
   exact Ev.pure _
  | succ d ih =>
   intro i hi
   have h1 : (i : Int) < (l.length : Int) := by omega
   have h2 : (0 : Int) ≤ (i : Int) := by omega
   refine Ev.step ?_
   unfold firstI
   by_cases h : rd l (i : Int) = x
   ·simp only [cohousingref23_In.l0, h1, h2, h, if_true, beq_self_eq_true]
    exact Ev.pure _
   ·have hb : (rd l (i : Int) == x) = false := beq_eq_false_iff_ne.2 h
    simp only [cohousingref23_In.l0, h1, h2, h, if_true, if_false, hb, Bool.false_eq_true, wrap_nat (show i ≤ 140737488355328 by omega)]
    exact ih (i + 1) (by omega)
 exact key l.length 0 (by omega)
theorem Has_f (l : List FT) (x : Int) (hB : l.length ≤ 140737488355328) : Ev (fun k => cohousingref23_Has.f k l x) (decide (HasF l x)) := by
 have key : ∀ i, i ≤ l.length → ((∀ j, j < i → fid l j ≠ x) → Ev (fun k => cohousingref23_Has.l0 k l x (i : Int)) (decide (HasF l x))) := by
  refine loopUp l.length _ ?_ ?_
  ·intro hn
   have h1 : ¬ (((l.length : Nat) : Int) < (l.length : Int)) := by omega
   refine Ev.step ?_
   simp only [cohousingref23_Has.l0, h1, if_false]
   rw [decide_eq_false (fun ⟨j, hj, e⟩ => hn j hj e)]
   exact Ev.pure _
  ·intro i hi ih hn
   have h1 : (i : Int) < (l.length : Int) := by omega
   have h2 : (0 : Int) ≤ (i : Int) := by omega
   refine Ev.step ?_
   by_cases h : (rd_T84 l (i : Int)).f0 = x
   ·simp only [cohousingref23_Has.l0, h1, h2, h, if_true]
    rw [decide_eq_true ⟨i, hi, h⟩]
    exact Ev.pure _
   ·simp only [cohousingref23_Has.l0, h1, h2, h, if_true, if_false, wrap_nat (show i ≤ 140737488355328 by omega)]
    refine ih (fun j hj => ?_)
    by_cases e : j = i
    ·rw [e]; exact h
    ·exact hn j (by omega)
 exact key 0 (by omega) (fun j hj => absurd hj (Nat.not_lt_zero _))
theorem wrap_pred {i : Nat} (h0 : 0 < i) (h : i ≤ 140737488355328) : wrap64 ((i : Int) - 1) = ((i - 1 : Nat) : Int) := by unfold wrap64; omega
theorem Flats_f (l : List FT) : Ev (fun k => cohousingref23_Flats.f k l) (decide (FlatsV l)) := by
 unfold cohousingref23_Flats.f
 by_cases hl : (l.length : Int) > 64
 ·simp only [hl, if_true]
  rw [decide_eq_false (fun h => by have := h.len; omega)]
  exact Ev.pure _
 simp only [hl, if_false]
 have hB : l.length ≤ 64 := by omega
 have key : ∀ i, i ≤ l.length → ((∀ j, j < i → flatAt l j = true) → Ev (fun k => cohousingref23_Flats.l0 k l (i : Int)) (decide (FlatsV l))) := by
  refine loopUp l.length _ ?_ ?_
  ·intro hn
   have h1 : ¬ (((l.length : Nat) : Int) < (l.length : Int)) := by omega
   refine Ev.step ?_
   simp only [cohousingref23_Flats.l0, h1, if_false]
   rw [decide_eq_true ((flatsOk_iff l).1 (flatsOk_true hn))]
   exact Ev.pure _
  ·intro i hi ih hn
   have h1 : (i : Int) < (l.length : Int) := by omega
   have h2 : (0 : Int) ≤ (i : Int) := by omega
   have bad : flatAt l i = false → decide (FlatsV l) = false := fun h => decide_eq_false (fun hv => by
    have := (flatsOk_iff l).2 hv
    rw [flatsOk_false hi h] at this
    cases this)
   have fa : ∀ P : Prop, (P → ¬ (lastF l i < (rd_T84 l (i : Int)).f0 ∧ (rd_T84 l (i : Int)).f0 ≤ 64 ∧ 1 ≤ (rd_T84 l (i : Int)).f1 ∧ (rd_T84 l (i : Int)).f1 ≤ 10)) → P → decide (FlatsV l) = false := fun P h hP => bad (decide_eq_false (h hP))
   have lo : 0 ≤ lastF l i := by
    unfold lastF
    by_cases e : i = 0
    ·rw [if_pos e]; exact Int.le_refl _
    ·rw [if_neg e]
     have := of_decide_eq_true (hn (i - 1) (by omega))
     have h3 : 0 ≤ lastF l (i - 1) ∨ True := .inr trivial
     have : ∀ m, m < i → 0 < (rd_T84 l (m : Int)).f0 := by
      intro m
      induction m with
      | zero => intro hm; have := (of_decide_eq_true (hn 0 hm)).1; simpa [lastF] using this
      | succ m ihm => intro hm; have h4 := ihm (by omega); have h5 := (of_decide_eq_true (hn (m + 1) hm)).1; rw [lastF_succ] at h5; omega
     have := this (i - 1) (by omega)
     omega
   refine Ev.step ?_
   by_cases c1 : (rd_T84 l (i : Int)).f0 < 1
   ·simp only [cohousingref23_Flats.l0, h1, h2, c1, if_true]
    rw [fa _ (fun h => by omega) c1]
    exact Ev.pure _
   by_cases c2 : (rd_T84 l (i : Int)).f0 > 64
   ·simp only [cohousingref23_Flats.l0, h1, h2, c1, c2, if_true, if_false]
    rw [fa _ (fun h => by omega) c2]
    exact Ev.pure _
   have tail : lastF l i < (rd_T84 l (i : Int)).f0 → Ev (fun k => if ((rd_T84 l (i : Int)).f1) < 1 then (some false) else (if ((rd_T84 l (i : Int)).f1) > 10 then (some false) else (cohousingref23_Flats.l0 k l (wrap64 ((i : Int) + 1))))) (decide (FlatsV l)) := by
    intro hlast
    by_cases c3 : (rd_T84 l (i : Int)).f1 < 1
    ·simp only [c3, if_true]
     rw [fa _ (fun h => by omega) c3]
     exact Ev.pure _
    by_cases c4 : (rd_T84 l (i : Int)).f1 > 10
    ·simp only [c3, c4, if_true, if_false]
     rw [fa _ (fun h => by omega) c4]
     exact Ev.pure _
    simp only [c3, c4, if_false, wrap_nat (show i ≤ 140737488355328 by omega)]
    refine ih (fun j hj => ?_)
    by_cases e : j = i
    ·rw [e]; exact decide_eq_true ⟨hlast, by omega, by omega, by omega⟩
    ·exact hn j (by omega)
   by_cases c5 : 0 < i
   ·have h3 : (i : Int) > 0 := by omega
    have h4 : (0 : Int) ≤ ((i - 1 : Nat) : Int) := by omega
    have h5 : ((i - 1 : Nat) : Int) < (l.length : Int) := by omega
    have hla : lastF l i = (rd_T84 l ((i - 1 : Nat) : Int)).f0 := by unfold lastF; rw [if_neg (by omega)]
    by_cases c6 : (rd_T84 l (i : Int)).f0 ≤ (rd_T84 l ((i - 1 : Nat) : Int)).f0
    ·simp only [cohousingref23_Flats.l0, h1, h2, c1, c2, h3, wrap_pred c5 (show i ≤ 140737488355328 by omega), h4, h5, c6, if_true, if_false]
     rw [fa _ (fun h => by omega) c6]
     exact Ev.pure _
    ·simp only [cohousingref23_Flats.l0, h1, h2, c1, c2, h3, wrap_pred c5 (show i ≤ 140737488355328 by omega), h4, h5, c6, if_true, if_false]
     exact tail (by omega)
   ·have h3 : ¬ ((i : Int) > 0) := by omega
    simp only [cohousingref23_Flats.l0, h1, h2, c1, c2, h3, if_true, if_false]
    exact tail (by unfold lastF; rw [if_pos (by omega)]; omega)
 exact key 0 (by omega) (fun j hj => absurd hj (Nat.not_lt_zero _))
def PartyV (fl : List FT) (pa : List PT) (n : Nat) : Prop :=
 (1 ≤ pid pa n ∧ pid pa n ≤ 64 ∧ (0 < n → pid pa (n - 1) < pid pa n)) ∧ (pfl pa n ≠ 0 → HasF fl (pfl pa n) ∧ ∀ j, j < n → pfl pa j ≠ pfl pa n) ∧ (∀ k, k < (pwt pa n).length → HasF fl (rd (pwt pa n) (k : Int))) ∧ (∀ j k, j < k → k < (pwt pa n).length → rd (pwt pa n) (j : Int) ≠ rd (pwt pa n) (k : Int))
theorem market_party {fl : List FT} {pa : List PT} (hf : FlatsV fl) (h : ∀ n, n < pa.length → PartyV fl pa n) : Market fl pa := by
 have ha := asc_adj (pid pa) 0 pa.length
 obtain ⟨h1, h2⟩ := ha.1 (fun n hn => by
  have := (h n hn).1
  by_cases e : n = 0
  ·rw [if_pos e]; omega
  ·rw [if_neg e]; exact this.2.2 (by omega))
 exact ⟨hf, h2, fun i hi => ⟨(h i hi).1.1, (h i hi).1.2.1⟩, fun i hi h0 => ((h i hi).2.1 h0).1, fun i j hij hj h0 => ((h j hj).2.1 h0).2 i hij, fun i hi => (h i hi).2.2.1, fun i hi => (h i hi).2.2.2⟩
theorem party_market {fl : List FT} {pa : List PT} (h : Market fl pa) {n : Nat} (hn : n < pa.length) : PartyV fl pa n :=
 ⟨⟨(h.rng n hn).1, (h.rng n hn).2, fun h0 => h.asc (n - 1) n (by omega) hn⟩, fun h0 => ⟨h.own n hn h0, fun j hj => h.dis j n hj hn h0⟩, h.wnt n hn, h.wdis n hn⟩
def WB (pa : List PT) : Prop := ∀ i, i < pa.length → (pwt pa i).length ≤ 140737488355328
theorem Valid_f (fl : List FT) (pa : List PT) (hF : fl.length ≤ 140737488355328) (hW : WB pa) : Ev (fun k => cohousingref23_Valid.f k fl pa) (decide (Market fl pa)) := by
 unfold cohousingref23_Valid.f
 refine Ev.bnd (Flats_f fl) ?_
 have out : ¬ Market fl pa → Ev (fun k => cohousingref23_Valid.j0 k true fl pa) (decide (Market fl pa)) := fun h => by
  rw [decide_eq_false h]
  refine Ev.step ?_
  simp only [cohousingref23_Valid.j0, if_true]
  exact Ev.pure _
 by_cases hf : FlatsV fl
 ·simp only [decide_eq_true hf, if_true]
  by_cases hl : (pa.length : Int) > 64
  ·rw [decide_eq_true hl]
   exact out (fun h => by have := h.len; omega)
  ·rw [decide_eq_false hl]
   have hB : pa.length ≤ 64 := by omega
   refine Ev.step ?_
   simp only [cohousingref23_Valid.j0, Bool.false_eq_true, if_false]
   have key : ∀ i, i ≤ pa.length → ((∀ j, j < i → PartyV fl pa j) → Ev (fun k => cohousingref23_Valid.l0 k (i : Int) fl pa) (decide (Market fl pa))) := by
    refine loopUp pa.length _ ?_ ?_
    ·intro hn
     have h1 : ¬ (((pa.length : Nat) : Int) < (pa.length : Int)) := by omega
     refine Ev.step ?_
     simp only [cohousingref23_Valid.l0, h1, if_false]
     rw [decide_eq_true (market_party hf hn)]
     exact Ev.pure _
    ·intro i hi ih hn
     have h1 : (i : Int) < (pa.length : Int) := by omega
     have h2 : (0 : Int) ≤ (i : Int) := by omega
     have bad : ¬ PartyV fl pa i → decide (Market fl pa) = false := fun h => decide_eq_false (fun hm => h (party_market hm hi))
     have hwi := hW i hi
     have l2 : (1 ≤ pid pa i ∧ pid pa i ≤ 64 ∧ (0 < i → pid pa (i - 1) < pid pa i)) → (pfl pa i ≠ 0 → HasF fl (pfl pa i) ∧ ∀ j, j < i → pfl pa j ≠ pfl pa i) →
       ∀ m, m ≤ (pwt pa i).length → ((∀ k, k < m → HasF fl (rd (pwt pa i) (k : Int)) ∧ ∀ j, j < k → rd (pwt pa i) (j : Int) ≠ rd (pwt pa i) (k : Int)) → Ev (fun k => cohousingref23_Valid.l2 k (i : Int) (m : Int) fl pa (pid pa i) (pfl pa i) (pwt pa i)) (decide (Market fl pa))) := by
      intro g1 g2
      refine loopUp (pwt pa i).length _ ?_ ?_
      ·intro hk
       have c1 : ¬ ((((pwt pa i).length : Nat) : Int) < ((pwt pa i).length : Int)) := by omega
       refine Ev.step ?_
       simp only [cohousingref23_Valid.l2, c1, if_false, wrap_nat (show i ≤ 140737488355328 by omega)]
       refine ih (fun j hj => ?_)
       by_cases e : j = i
       ·rw [e]; exact ⟨g1, g2, fun k hk' => (hk k hk').1, fun a b hab hb => (hk b hb).2 a hab⟩
       ·exact hn j (by omega)
      ·intro m hm ihm hk
       have c1 : (m : Int) < ((pwt pa i).length : Int) := by omega
       have c2 : (0 : Int) ≤ (m : Int) := by omega
       refine Ev.step ?_
       simp only [cohousingref23_Valid.l2, c1, c2, if_true]
       refine Ev.bnd (Has_f fl _ hF) ?_
       by_cases c3 : HasF fl (rd (pwt pa i) (m : Int))
       ·simp only [decide_eq_true c3, if_true]
        refine Ev.bnd (In_f (pwt pa i) _ hwi) ?_
        rcases inR_is (pwt pa i) (rd (pwt pa i) (m : Int)) with ⟨e, hno⟩ | ⟨j, hj, e1, e2, e3⟩
        ·exact absurd rfl (hno m hm)
        ·rw [e3]
         have hjm : j ≤ m := by
          rcases Nat.lt_or_ge m j with h | h
          ·exact absurd rfl (e2 m h)
          ·exact h
         by_cases c4 : j = m
         ·subst c4
          simp only [if_true, wrap_nat (show j ≤ 140737488355328 by omega)]
          refine ihm (fun k hk' => ?_)
          by_cases e : k = j
          ·subst e; exact ⟨c3, e2⟩
          ·exact hk k (by omega)
         ·have c5 : ¬ ((j : Int) = (m : Int)) := by omega
          simp only [c5, if_false]
          rw [bad (fun h => h.2.2.2 j m (by omega) hm e1)]
          exact Ev.pure _
       ·simp only [decide_eq_false c3, Bool.false_eq_true, if_false]
        rw [bad (fun h => c3 (h.2.2.1 m hm))]
        exact Ev.pure _
     have l1 : (1 ≤ pid pa i ∧ pid pa i ≤ 64 ∧ (0 < i → pid pa (i - 1) < pid pa i)) → (pfl pa i ≠ 0 → HasF fl (pfl pa i)) →
       ∀ m, m ≤ i → ((pfl pa i ≠ 0 → ∀ j, j < m → pfl pa j ≠ pfl pa i) → Ev (fun k => cohousingref23_Valid.l1 k (i : Int) (m : Int) fl pa (pid pa i) (pfl pa i) (pwt pa i)) (decide (Market fl pa))) := by
      intro g1 g2
      refine loopUp i _ ?_ ?_
      ·intro hk
       have c1 : ¬ ((i : Int) < (i : Int)) := by omega
       refine Ev.step ?_
       simp only [cohousingref23_Valid.l1, c1, if_false]
       exact l2 g1 (fun h0 => ⟨g2 h0, hk h0⟩) 0 (by omega) (fun k hk => absurd hk (Nat.not_lt_zero _))
      ·intro m hm ihm hk
       have c1 : (m : Int) < (i : Int) := by omega
       have c2 : (0 : Int) ≤ (m : Int) := by omega
       have c3 : (m : Int) < (pa.length : Int) := by omega
       refine Ev.step ?_
       by_cases c4 : pfl pa i = 0
       ·have c4' : (rd_T46 pa (i : Int)).f1 = 0 := c4
        simp only [cohousingref23_Valid.l1, c1, c4', if_true, wrap_nat (show m ≤ 140737488355328 by omega)]
        rw [← c4']
        exact ihm (fun h0 => absurd c4 h0)
       ·have c4' : ¬ ((rd_T46 pa (i : Int)).f1 = 0) := c4
        by_cases c5 : (rd_T46 pa (m : Int)).f1 = (rd_T46 pa (i : Int)).f1
        ·simp only [cohousingref23_Valid.l1, c1, c2, c3, c4', c5, if_true, if_false]
         rw [bad (fun h => (h.2.1 c4).2 m hm c5)]
         exact Ev.pure _
        ·simp only [cohousingref23_Valid.l1, c1, c2, c3, c4', c5, if_true, if_false, wrap_nat (show m ≤ 140737488355328 by omega)]
         refine ihm (fun h0 j hj => ?_)
         by_cases e : j = m
         ·rw [e]; exact c5
         ·exact hk h0 j (by omega)
     have j2t : ¬ (1 ≤ pid pa i ∧ pid pa i ≤ 64 ∧ (0 < i → pid pa (i - 1) < pid pa i)) → Ev (fun k => cohousingref23_Valid.j2 k (i : Int) true fl pa (pid pa i) (pfl pa i) (pwt pa i)) (decide (Market fl pa)) := by
      intro g
      refine Ev.step ?_
      simp only [cohousingref23_Valid.j2, if_true]
      rw [bad (fun h => g h.1)]
      exact Ev.pure _
     have j2f : (1 ≤ pid pa i ∧ pid pa i ≤ 64 ∧ (0 < i → pid pa (i - 1) < pid pa i)) → Ev (fun k => cohousingref23_Valid.j2 k (i : Int) false fl pa (pid pa i) (pfl pa i) (pwt pa i)) (decide (Market fl pa)) := by
      intro g
      refine Ev.step ?_
      simp only [cohousingref23_Valid.j2, Bool.false_eq_true, if_false]
      refine Ev.bnd (Has_f fl _ hF) ?_
      have j3f : (pfl pa i ≠ 0 → HasF fl (pfl pa i)) → Ev (fun k => cohousingref23_Valid.j3 k (i : Int) false fl pa (pid pa i) (pfl pa i) (pwt pa i)) (decide (Market fl pa)) := fun g2 => by
       refine Ev.step ?_
       simp only [cohousingref23_Valid.j3, Bool.false_eq_true, if_false]
       exact l1 g g2 0 (by omega) (fun _ j hj => absurd hj (Nat.not_lt_zero _))
      by_cases c4 : pfl pa i = 0
      ·have c4' : (rd_T46 pa (i : Int)).f1 = 0 := c4
       simp only [c4', if_true]
       have := j3f (fun h => absurd c4 h)
       simp only [pfl, c4'] at this
       exact this
      ·have c4' : ¬ ((rd_T46 pa (i : Int)).f1 = 0) := c4
       simp only [c4', if_false]
       by_cases c5 : HasF fl (pfl pa i)
       ·rw [decide_eq_true c5]
        exact j3f (fun _ => c5)
       ·rw [decide_eq_false c5]
        refine Ev.step ?_
        simp only [cohousingref23_Valid.j3, Bool.not_false, if_true]
        rw [bad (fun h => c5 (h.2.1 c4).1)]
        exact Ev.pure _
     refine Ev.step ?_
     by_cases c1 : (rd_T46 pa (i : Int)).f0 < 1
     ·simp only [cohousingref23_Valid.l0, h1, h2, c1, if_true]
      exact j2t (fun h => by have := h.1; simp only [pid] at this; omega)
     by_cases c2 : (rd_T46 pa (i : Int)).f0 > 64
     ·simp only [cohousingref23_Valid.l0, h1, h2, c1, c2, if_true, if_false]
      exact j2t (fun h => by have := h.2.1; simp only [pid] at this; omega)
     by_cases c5 : 0 < i
     ·have h3 : (i : Int) > 0 := by omega
      have h4 : (0 : Int) ≤ ((i - 1 : Nat) : Int) := by omega
      have h5 : ((i - 1 : Nat) : Int) < (pa.length : Int) := by omega
      simp only [cohousingref23_Valid.l0, h1, h2, c1, c2, h3, wrap_pred c5 (show i ≤ 140737488355328 by omega), h4, h5, if_true, if_false]
      by_cases c6 : (rd_T46 pa (i : Int)).f0 ≤ (rd_T46 pa ((i - 1 : Nat) : Int)).f0
      ·rw [decide_eq_true c6]
       exact j2t (fun h => by have := h.2.2 c5; simp only [pid] at this; omega)
      ·rw [decide_eq_false c6]
       exact j2f ⟨by simp only [pid]; omega, by simp only [pid]; omega, fun _ => by simp only [pid]; omega⟩
     ·have h3 : ¬ ((i : Int) > 0) := by omega
      simp only [cohousingref23_Valid.l0, h1, h2, c1, c2, h3, if_true, if_false]
      exact j2f ⟨by simp only [pid]; omega, by simp only [pid]; omega, fun h => absurd h c5⟩
   exact key 0 (by omega) (fun j hj => absurd hj (Nat.not_lt_zero _))
 ·simp only [decide_eq_false hf, Bool.false_eq_true, if_false]
  exact out (fun h => hf h.flv)
structure FewM (fl : List FT) (pa : List PT) : Prop where
 f : fl.length ≤ 20
 p : pa.length ≤ 20
 w : ∀ i, i < pa.length → (pwt pa i).length ≤ 30
theorem FewM_f (fl : List FT) (pa : List PT) : Ev (fun k => cohousingref23_Few.f k fl pa) (decide (FewM fl pa)) := by
 unfold cohousingref23_Few.f
 have out : ¬ FewM fl pa → Ev (fun k => cohousingref23_Few.j0 k true fl pa) (decide (FewM fl pa)) := fun h => by
  rw [decide_eq_false h]
  refine Ev.step ?_
  simp only [cohousingref23_Few.j0, if_true]
  exact Ev.pure _
 by_cases h1 : (fl.length : Int) > 20
 ·simp only [h1, if_true]
  exact out (fun h => by have := h.f; omega)
 simp only [h1, if_false]
 by_cases h2 : (pa.length : Int) > 20
 ·rw [decide_eq_true h2]
  exact out (fun h => by have := h.p; omega)
 rw [decide_eq_false h2]
 refine Ev.step ?_
 simp only [cohousingref23_Few.j0, Bool.false_eq_true, if_false]
 have key : ∀ i, i ≤ pa.length → ((∀ j, j < i → (pwt pa j).length ≤ 30) → Ev (fun k => cohousingref23_Few.l0 k (i : Int) fl pa) (decide (FewM fl pa))) := by
  refine loopUp pa.length _ ?_ ?_
  ·intro hn
   have c1 : ¬ (((pa.length : Nat) : Int) < (pa.length : Int)) := by omega
   refine Ev.step ?_
   simp only [cohousingref23_Few.l0, c1, if_false]
   rw [decide_eq_true ⟨by omega, by omega, hn⟩]
   exact Ev.pure _
  ·intro i hi ih hn
   have c1 : (i : Int) < (pa.length : Int) := by omega
   have c2 : (0 : Int) ≤ (i : Int) := by omega
   refine Ev.step ?_
   by_cases c3 : ((rd_T46 pa (i : Int)).f2.length : Int) > 30
   ·simp only [cohousingref23_Few.l0, c1, c2, c3, if_true]
    rw [decide_eq_false (fun h => by have := h.w i hi; simp only [pwt] at this; omega)]
    exact Ev.pure _
   ·simp only [cohousingref23_Few.l0, c1, c2, c3, if_true, if_false, wrap_nat (show i ≤ 140737488355328 by omega)]
    refine ih (fun j hj => ?_)
    by_cases e : j = i
    ·rw [e]; simp only [pwt]; omega
    ·exact hn j (by omega)
 exact key 0 (by omega) (fun j hj => absurd hj (Nat.not_lt_zero _))
theorem FewM.wb {fl : List FT} {pa : List PT} (h : FewM fl pa) : WB pa := fun i hi => by have := h.w i hi; omega
structure FewR (l : List GT) (rs : List YT) : Prop where
 len : l.length ≤ 20
 r : rs.length ≤ 60
 m : ∀ i, i < l.length → (rg l i).f1.length ≤ 30
theorem FewR_f (l : List GT) (rs : List YT) : Ev (fun k => cohousingref26_Few.f k l rs) (decide (FewR l rs)) := by
 unfold cohousingref26_Few.f
 have out : ¬ FewR l rs → Ev (fun k => cohousingref26_Few.j0 k l true) (decide (FewR l rs)) := fun h => by
  rw [decide_eq_false h]
  refine Ev.step ?_
  simp only [cohousingref26_Few.j0, if_true]
  exact Ev.pure _
 by_cases h1 : (l.length : Int) > 20
 ·simp only [h1, if_true]
  exact out (fun h => by have := h.len; omega)
 simp only [h1, if_false]
 by_cases h2 : (rs.length : Int) > 60
 ·rw [decide_eq_true h2]
  exact out (fun h => by have := h.r; omega)
 rw [decide_eq_false h2]
 refine Ev.step ?_
 simp only [cohousingref26_Few.j0, Bool.false_eq_true, if_false]
 have key : ∀ i, i ≤ l.length → ((∀ j, j < i → (rg l j).f1.length ≤ 30) → Ev (fun k => cohousingref26_Few.l0 k l (i : Int)) (decide (FewR l rs))) := by
  refine loopUp l.length _ ?_ ?_
  ·intro hn
   have c1 : ¬ (((l.length : Nat) : Int) < (l.length : Int)) := by omega
   refine Ev.step ?_
   simp only [cohousingref26_Few.l0, c1, if_false]
   rw [decide_eq_true ⟨by omega, by omega, hn⟩]
   exact Ev.pure _
  ·intro i hi ih hn
   have c1 : (i : Int) < (l.length : Int) := by omega
   have c2 : (0 : Int) ≤ (i : Int) := by omega
   refine Ev.step ?_
   by_cases c3 : ((rd_T49 l (i : Int)).f1.length : Int) > 30
   ·simp only [cohousingref26_Few.l0, c1, c2, c3, if_true]
    rw [decide_eq_false (fun h => by have := h.m i hi; simp only [rg] at this; omega)]
    exact Ev.pure _
   ·simp only [cohousingref26_Few.l0, c1, c2, c3, if_true, if_false, wrap_nat (show i ≤ 140737488355328 by omega)]
    refine ih (fun j hj => ?_)
    by_cases e : j = i
    ·rw [e]; simp only [rg]; omega
    ·exact hn j (by omega)
 exact key 0 (by omega) (fun j hj => absurd hj (Nat.not_lt_zero _))
end Go.Proofs.Ytocbiggglnpeoaa.M
end
section
namespace Go.Proofs.Ytocbiggglnpeoaa.M
open Go.RowKit Go.Proofs.YtocbiggglnpeoaaW.PrintWords Go.Proofs.YtocbiggglnpeoaaW.PrintLast Go.Proofs.YtocbiggglnpeoaaW.PrintMore Go.Proofs.YtocbiggglnpeoaaH
open Classical
def partyR (pa : List PT) (x : Int) : Int := firstI (fun j => pid pa j == x) pa.length 0
theorem partyR_is (pa : List PT) (x : Int) : (partyR pa x = -1 ∧ ∀ j, j < pa.length → pid pa j ≠ x) ∨ ∃ j : Nat, j < pa.length ∧ pid pa j = x ∧ partyR pa x = j := by
 rcases firstI_is (fun j => pid pa j == x) pa.length 0 with ⟨e, h⟩ | ⟨j, _, h2, h3, h4, e⟩
 ·exact .inl ⟨e, fun j hj => beq_eq_false_iff_ne.1 (h j (by omega) (by omega))⟩
 ·exact .inr ⟨j, by omega, eq_of_beq h3, e⟩
theorem Party_f (fl : List FT) (pa : List PT) (x : Int) (hB : pa.length ≤ 140737488355328) : Ev (fun k => cohousingref26_Party.f k fl pa x) (partyR pa x) := by
 have key : ∀ d i, i + d = pa.length → Ev (fun k => cohousingref26_Party.l0 k x (i : Int) fl pa) (firstI (fun j => pid pa j == x) d i) := by
  intro d
  induction d with
  | zero =>
   intro i hi
   have h1 : ¬ ((i : Int) < (pa.length : Int)) := by omega
   refine Ev.step ?_
   simp only [cohousingref26_Party.l0, h1, if_false]
   exact Ev.pure _
  | succ d ih =>
   intro i hi
   have h1 : (i : Int) < (pa.length : Int) := by omega
   have h2 : (0 : Int) ≤ (i : Int) := by omega
   refine Ev.step ?_
   unfold firstI
   by_cases h : (rd_T46 pa (i : Int)).f0 = x
   ·simp only [cohousingref26_Party.l0, h1, h2, h, if_true, beq_self_eq_true]
    exact Ev.pure _
   ·have hb : ((rd_T46 pa (i : Int)).f0 == x) = false := beq_eq_false_iff_ne.2 h
    simp only [cohousingref26_Party.l0, h1, h2, h, if_true, if_false, hb, Bool.false_eq_true, wrap_nat (show i ≤ 140737488355328 by omega)]
    exact ih (i + 1) (by omega)
 exact key pa.length 0 (by omega)
theorem Free_f (fl : List FT) (pa : List PT) (x : Int) (hB : pa.length ≤ 140737488355328) : Ev (fun k => cohousingref26_Free.f k fl pa x) (decide (Free pa x)) := by
 have key : ∀ i, i ≤ pa.length → ((∀ j, j < i → pfl pa j ≠ x) → Ev (fun k => cohousingref26_Free.l0 k x (i : Int) fl pa) (decide (Free pa x))) := by
  refine loopUp pa.length _ ?_ ?_
  ·intro hn
   have h1 : ¬ (((pa.length : Nat) : Int) < (pa.length : Int)) := by omega
   refine Ev.step ?_
   simp only [cohousingref26_Free.l0, h1, if_false]
   rw [decide_eq_true (show Free pa x from hn)]
   exact Ev.pure _
  ·intro i hi ih hn
   have h1 : (i : Int) < (pa.length : Int) := by omega
   have h2 : (0 : Int) ≤ (i : Int) := by omega
   refine Ev.step ?_
   by_cases h : (rd_T46 pa (i : Int)).f1 = x
   ·simp only [cohousingref26_Free.l0, h1, h2, h, if_true]
    rw [decide_eq_false (fun hf => hf i hi h)]
    exact Ev.pure _
   ·simp only [cohousingref26_Free.l0, h1, h2, h, if_true, if_false, wrap_nat (show i ≤ 140737488355328 by omega)]
    refine ih (fun j hj => ?_)
    by_cases e : j = i
    ·rw [e]; exact h
    ·exact hn j (by omega)
 exact key 0 (by omega) (fun j hj => absurd hj (Nat.not_lt_zero _))
def MoveR (fl : List FT) (pa : List PT) (x : MT) : Prop := ∃ j : Nat, partyR pa x.f0 = j ∧ j < pa.length ∧ pid pa j = x.f0 ∧ pfl pa j = x.f1 ∧ HasF fl x.f2
theorem move_f (fl : List FT) (pa : List PT) (x : MT) (hF : fl.length ≤ 140737488355328) (hB : pa.length ≤ 140737488355328) : Ev (fun k => cohousingref26_move.f k fl pa x.f0 x.f1 x.f2) (decide (MoveR fl pa x)) := by
 unfold cohousingref26_move.f
 refine Ev.bnd (Party_f fl pa x.f0 hB) ?_
 refine Ev.bnd (Has_f fl x.f2 hF) ?_
 rcases partyR_is pa x.f0 with ⟨e, hno⟩ | ⟨j, hj, e1, e⟩
 ·rw [e, decide_eq_false (show ¬ MoveR fl pa x from fun ⟨j, h1, h2, h3, _⟩ => hno j h2 h3)]
  simp only [show ¬ ((-1 : Int) ≥ 0) by omega, if_false]
  exact Ev.pure _
 ·rw [e]
  have h1 : (j : Int) ≥ 0 := by omega
  have h2 : (0 : Int) ≤ (j : Int) := by omega
  have h3 : (j : Int) < (pa.length : Int) := by omega
  by_cases hh : HasF fl x.f2
  ·simp only [h1, h2, h3, decide_eq_true hh, if_true]
   rw [show ((rd_T46 pa (j : Int)).f1 == x.f1) = decide (MoveR fl pa x) from by
    by_cases c : pfl pa j = x.f1
    ·rw [decide_eq_true ⟨j, e, hj, e1, c, hh⟩]; exact beq_iff_eq.2 c
    ·rw [decide_eq_false (fun ⟨j', h1, h2, h3, h4, _⟩ => c (by rw [show j = j' from by omega]; exact h4))]; exact beq_eq_false_iff_ne.2 c]
   exact Ev.pure _
  ·simp only [h1, decide_eq_false hh, if_true, Bool.false_eq_true, if_false]
   rw [decide_eq_false (show ¬ MoveR fl pa x from fun ⟨_, _, _, _, _, h⟩ => hh h)]
   exact Ev.pure _
theorem moveR_iff {fl : List FT} {pa : List PT} (hM : Market fl pa) (x : MT) : MoveR fl pa x ↔ Fits fl pa x := by
 constructor
 ·rintro ⟨j, _, h2, h3, h4, h5⟩
  exact ⟨j, h2, h3, h4, h5⟩
 ·rintro ⟨i, hi, e1, e2, h3⟩
  rcases partyR_is pa x.f0 with ⟨e, hno⟩ | ⟨j, hj, e3, e⟩
  ·exact absurd e1 (hno i hi)
  ·have : i = j := hM.inj hi hj (by rw [e1, e3])
   subst this
   exact ⟨i, e, hi, e1, e2, h3⟩
def ShapeR (pa : List PT) (r : GT) : Prop :=
 0 < r.f1.length ∧ (r.f0 = true → Free pa (mv r.f1 0).f2 ∧ ∀ i, 1 ≤ i → i < r.f1.length → (mv r.f1 i).f2 = (mv r.f1 (i - 1)).f1) ∧
 (r.f0 = false → ∀ i, i < r.f1.length → (mv r.f1 i).f1 ≠ 0 ∧ (mv r.f1 i).f2 = (mv r.f1 ((i + 1) % r.f1.length)).f1)
theorem shape_f (fl : List FT) (pa : List PT) (r : GT) (hB : pa.length ≤ 140737488355328) (hr : r.f1.length ≤ 140737488355328) : Ev (fun k => cohousingref26_shape.f k fl pa r.f0 r.f1) (decide (ShapeR pa r)) := by
 unfold cohousingref26_shape.f
 by_cases h0 : (r.f1.length : Int) = 0
 ·simp only [h0, if_true]
  rw [decide_eq_false (fun h => by have := h.1; omega)]
  exact Ev.pure _
 simp only [h0, if_false]
 have hp : 0 < r.f1.length := by omega
 have hp' : (0 : Int) < (r.f1.length : Int) := by omega
 cases hc : r.f0 with
 | true =>
  simp only [hp', if_true]
  refine Ev.bnd (Free_f fl pa _ hB) ?_
  by_cases hf : Free pa (mv r.f1 0).f2
  ·have hf' : Free pa (rd_T51 r.f1 0).f2 := hf
   simp only [decide_eq_true hf', if_true]
   have key : ∀ i, i ≤ r.f1.length → ((1 ≤ i ∧ ∀ j, 1 ≤ j → j < i → (mv r.f1 j).f2 = (mv r.f1 (j - 1)).f1) → Ev (fun k => cohousingref26_shape.l0 k (r.f1.length : Int) (i : Int) true r.f1) (decide (ShapeR pa r))) := by
    refine loopUp r.f1.length _ ?_ ?_
    ·rintro ⟨_, hn⟩
     have h1 : ¬ (((r.f1.length : Nat) : Int) < (r.f1.length : Int)) := by omega
     refine Ev.step ?_
     simp only [cohousingref26_shape.l0, h1, if_false]
     rw [decide_eq_true (show ShapeR pa r from ⟨hp, fun _ => ⟨hf, hn⟩, fun h => by rw [hc] at h; cases h⟩)]
     exact Ev.pure _
    ·rintro i hi ih ⟨hi1, hn⟩
     have h1 : (i : Int) < (r.f1.length : Int) := by omega
     have h2 : (0 : Int) ≤ (i : Int) := by omega
     have h3 : (0 : Int) ≤ ((i - 1 : Nat) : Int) := by omega
     have h4 : ((i - 1 : Nat) : Int) < (r.f1.length : Int) := by omega
     refine Ev.step ?_
     by_cases h : (rd_T51 r.f1 (i : Int)).f2 = (rd_T51 r.f1 ((i - 1 : Nat) : Int)).f1
     ·simp only [cohousingref26_shape.l0, h1, h2, h3, h4, h, wrap_pred (show 0 < i by omega) (show i ≤ 140737488355328 by omega), if_true, wrap_nat (show i ≤ 140737488355328 by omega)]
      refine ih ⟨by omega, fun j hj1 hj => ?_⟩
      by_cases e : j = i
      ·rw [e]; exact h
      ·exact hn j hj1 (by omega)
     ·simp only [cohousingref26_shape.l0, h1, h2, h3, h4, h, wrap_pred (show 0 < i by omega) (show i ≤ 140737488355328 by omega), if_true, if_false]
      rw [decide_eq_false (fun hs => h ((hs.2.1 hc).2 i hi1 hi))]
      exact Ev.pure _
   exact key 1 (by omega) ⟨Nat.le_refl _, fun j h1 h2 => absurd h2 (by omega)⟩
  ·have hf' : ¬ Free pa (rd_T51 r.f1 0).f2 := hf
   simp only [decide_eq_false hf', Bool.false_eq_true, if_false]
   rw [decide_eq_false (fun hs => hf (hs.2.1 hc).1)]
   exact Ev.pure _
 | false =>
  simp only [Bool.false_eq_true, if_false]
  have key : ∀ i, i ≤ r.f1.length → ((∀ j, j < i → (mv r.f1 j).f1 ≠ 0 ∧ (mv r.f1 j).f2 = (mv r.f1 ((j + 1) % r.f1.length)).f1) → Ev (fun k => cohousingref26_shape.l1 k (r.f1.length : Int) (i : Int) false r.f1) (decide (ShapeR pa r))) := by
   refine loopUp r.f1.length _ ?_ ?_
   ·intro hn
    have h1 : ¬ (((r.f1.length : Nat) : Int) < (r.f1.length : Int)) := by omega
    refine Ev.step ?_
    simp only [cohousingref26_shape.l1, h1, if_false]
    rw [decide_eq_true (show ShapeR pa r from ⟨hp, (fun h => by rw [hc] at h; cases h), fun _ => hn⟩)]
    exact Ev.pure _
   ·intro i hi ih hn
    have h1 : (i : Int) < (r.f1.length : Int) := by omega
    have h2 : (0 : Int) ≤ (i : Int) := by omega
    have hm : Int.tmod ((i + 1 : Nat) : Int) (r.f1.length : Int) = (((i + 1) % r.f1.length : Nat) : Int) := by rw [Int.tmod_eq_emod_of_nonneg (by omega)]; exact (Int.natCast_emod _ _).symm
    have hlt := Nat.mod_lt (i + 1) hp
    have h3 : (0 : Int) ≤ (((i + 1) % r.f1.length : Nat) : Int) := Int.natCast_nonneg _
    have h4 : (((i + 1) % r.f1.length : Nat) : Int) < (r.f1.length : Int) := Int.ofNat_lt.2 hlt
    refine Ev.step ?_
    by_cases c1 : (rd_T51 r.f1 (i : Int)).f1 = 0
    ·simp only [cohousingref26_shape.l1, h1, h2, c1, if_true]
     rw [decide_eq_false (fun hs => (hs.2.2 hc i hi).1 c1)]
     exact Ev.pure _
    by_cases h : (rd_T51 r.f1 (i : Int)).f2 = (rd_T51 r.f1 (((i + 1) % r.f1.length : Nat) : Int)).f1
    ·simp only [cohousingref26_shape.l1, h1, h2, c1, h0, wrap_nat (show i ≤ 140737488355328 by omega), hm, h3, h4, h, if_true, if_false]
     refine ih (fun j hj => ?_)
     by_cases e : j = i
     ·rw [e]; exact ⟨c1, h⟩
     ·exact hn j (by omega)
    ·simp only [cohousingref26_shape.l1, h1, h2, c1, h0, wrap_nat (show i ≤ 140737488355328 by omega), hm, h3, h4, h, if_true, if_false]
     rw [decide_eq_false (fun hs => h (hs.2.2 hc i hi).2)]
     exact Ev.pure _
  exact key 0 (by omega) (fun j hj => absurd hj (Nat.not_lt_zero _))
def allM (l : List GT) : List MT := l.flatMap (fun r => r.f1)
theorem ahead_all (l : List GT) : ahead l l.length 0 = allM l := by unfold ahead allM; rw [List.take_length, List.take_zero, List.append_nil]
theorem ahead_pre (l : List GT) {n k : Nat} (hn : n < l.length) (hk : k ≤ (rg l n).f1.length) : ∃ t, allM l = ahead l n k ++ t := by
 refine ⟨(rg l n).f1.drop k ++ (l.drop (n + 1)).flatMap (fun r => r.f1), ?_⟩
 have e : l = l.take n ++ (rg l n :: l.drop (n + 1)) := by rw [rg_get l n hn, ← List.drop_eq_getElem_cons hn, List.take_append_drop]
 unfold allM ahead
 conv => lhs; rw [e]
 rw [List.flatMap_append, List.flatMap_cons, List.append_assoc, ← List.append_assoc ((rg l n).f1.take k), List.take_append_drop]
theorem ahead_snoc (l : List GT) {n k : Nat} (hk : k < (rg l n).f1.length) : ahead l n (k + 1) = ahead l n k ++ [mv (rg l n).f1 k] := ahead_succ l n k hk
theorem ahead_step (l : List GT) {n : Nat} (hn : n < l.length) : ahead l n (rg l n).f1.length = ahead l (n + 1) 0 := ahead_next l n hn
theorem nodup_ahead (f : MT → Int) (l : List GT) : ((allM l).map f).Nodup ↔ ∀ n, n < l.length → ∀ k, k < (rg l n).f1.length → f (mv (rg l n).f1 k) ∉ (ahead l n k).map f := by
 constructor
 ·intro h n hn k hk
  obtain ⟨t, e⟩ := ahead_pre l hn (show k + 1 ≤ (rg l n).f1.length by omega)
  rw [e, ahead_snoc l hk, List.map_append, List.map_append] at h
  have h1 := (List.nodup_append.1 h).1
  have h2 := (List.nodup_append.1 h1).2.2
  intro hm
  exact h2 _ hm _ (by simp) rfl
 ·intro h
  have key : ∀ n, n ≤ l.length → ((ahead l n 0).map f).Nodup := by
   intro n
   induction n with
   | zero => intro _; simp [ahead]
   | succ n ih =>
    intro hn
    have h0 := ih (by omega)
    have step : ∀ k, k ≤ (rg l n).f1.length → ((ahead l n k).map f).Nodup := by
     intro k
     induction k with
     | zero => intro _; exact h0
     | succ k ihk =>
      intro hk
      rw [ahead_snoc l (by omega), List.map_append]
      refine List.nodup_append.2 ⟨ihk (by omega), by simp, ?_⟩
      intro a ha b hb e
      have hb' : b = f (mv (rg l n).f1 k) := by simpa using hb
      rw [e, hb'] at ha
      exact h n (by omega) k (by omega) ha
    have := step (rg l n).f1.length (Nat.le_refl _)
    rwa [ahead_step l (by omega)] at this
  have := key l.length (Nat.le_refl _)
  rwa [ahead_all] at this
structure RingsR (fl : List FT) (pa : List PT) (l : List GT) : Prop where
 len : l.length ≤ 64
 fit : ∀ n, n < l.length → ∀ k, k < (rg l n).f1.length → MoveR fl pa (mv (rg l n).f1 k)
 homes : ((allM l).map (fun x => x.f0)).Nodup
 tos : ((allM l).map (fun x => x.f2)).Nodup
 shape : ∀ n, n < l.length → ShapeR pa (rg l n)
def RB (l : List GT) : Prop := (∀ i, i < l.length → (rg l i).f1.length ≤ 1000)
theorem ahead_len (l : List GT) (hR : RB l) : ∀ n, n ≤ l.length → (ahead l n 0).length ≤ 1000 * n := by
 intro n
 induction n with
 | zero => intro _; simp [ahead]
 | succ n ih =>
  intro hn
  have h0 := ih (by omega)
  have h1 := hR n (by omega)
  rw [← ahead_step l (by omega)]
  unfold ahead at h0 ⊢
  rw [List.length_append, List.length_take] at h0 ⊢
  omega
theorem Rings_f (fl : List FT) (pa : List PT) (l : List GT) (hF : fl.length ≤ 140737488355328) (hB : pa.length ≤ 140737488355328) (hR : RB l) : Ev (fun k => cohousingref26_Rings.f k fl pa l) (decide (RingsR fl pa l)) := by
 unfold cohousingref26_Rings.f
 by_cases hl : (l.length : Int) > 64
 ·simp only [hl, if_true]
  rw [decide_eq_false (fun h => by have := h.len; omega)]
  exact Ev.pure _
 simp only [hl, if_false]
 have key : ∀ n, n ≤ l.length → ((∀ m, m < n → ShapeR pa (rg l m) ∧ ∀ k, k < (rg l m).f1.length → MoveR fl pa (mv (rg l m).f1 k) ∧ (mv (rg l m).f1 k).f0 ∉ (ahead l m k).map (fun x => x.f0) ∧ (mv (rg l m).f1 k).f2 ∉ (ahead l m k).map (fun x => x.f2)) →
   Ev (fun k => cohousingref26_Rings.l0 k l ((ahead l n 0).map (fun x => x.f0)) ((ahead l n 0).map (fun x => x.f2)) (n : Int) fl pa) (decide (RingsR fl pa l))) := by
  refine loopUp l.length _ ?_ ?_
  ·intro hn
   have h1 : ¬ (((l.length : Nat) : Int) < (l.length : Int)) := by omega
   refine Ev.step ?_
   simp only [cohousingref26_Rings.l0, h1, if_false]
   rw [decide_eq_true ⟨by omega, fun n h k hk => ((hn n h).2 k hk).1, (nodup_ahead _ l).2 (fun n h k hk => ((hn n h).2 k hk).2.1), (nodup_ahead _ l).2 (fun n h k hk => ((hn n h).2 k hk).2.2), fun n h => (hn n h).1⟩]
   exact Ev.pure _
  ·intro n hlt ih hn
   have h1 : (n : Int) < (l.length : Int) := by omega
   have h2 : (0 : Int) ≤ (n : Int) := by omega
   have hlen := ahead_len l hR n (by omega)
   have hrn := hR n hlt
   have inner : ∀ m, m ≤ (rg l n).f1.length → ((∀ k, k < m → MoveR fl pa (mv (rg l n).f1 k) ∧ (mv (rg l n).f1 k).f0 ∉ (ahead l n k).map (fun x => x.f0) ∧ (mv (rg l n).f1 k).f2 ∉ (ahead l n k).map (fun x => x.f2)) →
     Ev (fun k => cohousingref26_Rings.l1 k l ((ahead l n m).map (fun x => x.f0)) ((ahead l n m).map (fun x => x.f2)) (n : Int) (m : Int) fl pa) (decide (RingsR fl pa l))) := by
    refine loopUp (rg l n).f1.length _ ?_ ?_
    ·intro hk
     have c1 : ¬ ((((rg l n).f1.length : Nat) : Int) < ((rg l n).f1.length : Int)) := by omega
     refine Ev.step ?_
     simp only [cohousingref26_Rings.l1, h1, h2, c1, if_true, if_false]
     refine Ev.bnd (shape_f fl pa (rg l n) hB (by omega)) ?_
     by_cases hs : ShapeR pa (rg l n)
     ·simp only [decide_eq_true hs, if_true, wrap_nat (show n ≤ 140737488355328 by omega)]
      rw [ahead_step l hlt]
      refine ih (fun m hm => ?_)
      by_cases e : m = n
      ·rw [e]; exact ⟨hs, hk⟩
      ·exact hn m (by omega)
     ·simp only [decide_eq_false hs, Bool.false_eq_true, if_false]
      rw [decide_eq_false (fun h => hs (h.shape n hlt))]
      exact Ev.pure _
    ·intro m hm ihm hk
     have c1 : (m : Int) < ((rg l n).f1.length : Int) := by omega
     have c2 : (0 : Int) ≤ (m : Int) := by omega
     have hlm : (ahead l n m).length ≤ 1000 * n + m := by
      unfold ahead at hlen ⊢
      rw [List.length_append, List.length_take] at hlen ⊢
      omega
     have hlh : ((ahead l n m).map (fun x => x.f0)).length < 17592186044416 := by rw [List.length_map]; omega
     have hlt2 : ((ahead l n m).map (fun x => x.f2)).length < 17592186044416 := by rw [List.length_map]; omega
     refine Ev.step ?_
     simp only [cohousingref26_Rings.l1, h1, h2, c1, c2, if_true]
     refine Ev.bnd (move_f fl pa (mv (rg l n).f1 m) hF hB) ?_
     by_cases d1 : MoveR fl pa (mv (rg l n).f1 m)
     ·simp only [decide_eq_true d1, if_true]
      refine Ev.bnd (In_f ((ahead l n m).map (fun x => x.f0)) (mv (rg l n).f1 m).f0 (by omega)) ?_
      by_cases d2 : (mv (rg l n).f1 m).f0 ∈ (ahead l n m).map (fun x => x.f0)
      ·have d2' := (inR_pos _ _).2 d2
       simp only [d2', if_true]
       rw [decide_eq_false (fun h => (nodup_ahead (fun x => x.f0) l).1 h.homes n hlt m hm d2)]
       exact Ev.pure _
      ·have d2' : ¬ (inR ((ahead l n m).map (fun x => x.f0)) (mv (rg l n).f1 m).f0 ≥ 0) := fun h => d2 ((inR_pos _ _).1 h)
       simp only [d2', if_false]
       refine Ev.bnd (In_f ((ahead l n m).map (fun x => x.f2)) (mv (rg l n).f1 m).f2 (by omega)) ?_
       by_cases d3 : (mv (rg l n).f1 m).f2 ∈ (ahead l n m).map (fun x => x.f2)
       ·have d3' := (inR_pos _ _).2 d3
        simp only [d3', if_true]
        rw [decide_eq_false (fun h => (nodup_ahead (fun x => x.f2) l).1 h.tos n hlt m hm d3)]
        exact Ev.pure _
       ·have d3' : ¬ (inR ((ahead l n m).map (fun x => x.f2)) (mv (rg l n).f1 m).f2 ≥ 0) := fun h => d3 ((inR_pos _ _).1 h)
        simp only [d3', hlh, hlt2, if_true, if_false, wrap_nat (show m ≤ 140737488355328 by omega)]
        have := ihm (fun k hk' => by
         by_cases e : k = m
         ·rw [e]; exact ⟨d1, d2, d3⟩
         ·exact hk k (by omega))
        rw [ahead_snoc l hm, List.map_append, List.map_append] at this
        exact this
     ·simp only [decide_eq_false d1, Bool.false_eq_true, if_false]
      rw [decide_eq_false (fun h => d1 (h.fit n hlt m hm))]
      exact Ev.pure _
   refine Ev.step ?_
   simp only [cohousingref26_Rings.l0, h1, if_true]
   exact inner 0 (by omega) (fun k hk => absurd hk (Nat.not_lt_zero _))
 exact key 0 (by omega) (fun m hm => absurd hm (Nat.not_lt_zero _))
theorem ringsB_iff {fl : List FT} {pa : List PT} (hM : Market fl pa) (l : List GT) : ringsB (homesM pa pa.length) (knownM fl fl.length) (occM pa pa.length) l = true ↔ RingsR fl pa l := by
 have hset : ∀ (f : MT → Int) (ms : List MT) (x : Int), (setB f ms x).getD false = decide (x ∈ ms.map f) := by
  intro f ms x
  unfold setB
  rw [show (ms.any fun m => f m == x) = decide (x ∈ ms.map f) from by
   rw [Bool.eq_iff_iff, List.any_eq_true, decide_eq_true_iff, List.mem_map]
   constructor
   ·rintro ⟨m, h1, h2⟩; exact ⟨m, h1, eq_of_beq h2⟩
   ·rintro ⟨m, h1, h2⟩; exact ⟨m, h1, beq_iff_eq.2 h2⟩]
  by_cases h : x ∈ ms.map f <;> simp [h]
 have hoff : ∀ (r : GT) (k : Nat), k < r.f1.length → (offB r k = false ↔ (r.f0 = true → 1 ≤ k → (mv r.f1 k).f2 = (mv r.f1 (k - 1)).f1) ∧ (r.f0 = false → (mv r.f1 k).f1 ≠ 0 ∧ (mv r.f1 k).f2 = (mv r.f1 ((k + 1) % r.f1.length)).f1)) := by
  intro r k hk
  have hm : Int.tmod ((k : Int) + 1) (r.f1.length : Int) = (((k + 1) % r.f1.length : Nat) : Int) := by rw [Int.tmod_eq_emod_of_nonneg (by omega)]; exact (Int.natCast_emod (k + 1) _).symm
  unfold offB
  rw [hm]
  cases hc : r.f0 with
  | true =>
   by_cases h0 : 0 < k
   ·have e : ((k : Int) - 1) = ((k - 1 : Nat) : Int) := by omega
    rw [e]
    simp [h0, mv]
    omega
   ·simp [h0]
    omega
  | false => simp [mv]
 have hend : ∀ r : GT, (0 < r.f1.length → HasF fl (mv r.f1 0).f2) → (endB (occM pa pa.length) r = true ↔ 0 < r.f1.length ∧ (r.f0 = true → Free pa (mv r.f1 0).f2)) := by
  intro r hh
  unfold endB
  rw [Bool.and_eq_true, decide_eq_true_iff]
  constructor
  ·rintro ⟨h1, h2⟩
   refine ⟨h1, fun hc => ?_⟩
   rw [hc, show (rd_T51 r.f1 0).f2 = (mv r.f1 0).f2 from rfl, occ_eq pa _ (by have := (hh h1).pos hM.flv; omega)] at h2
   simpa using h2
  ·rintro ⟨h1, h2⟩
   refine ⟨h1, ?_⟩
   rw [show (rd_T51 r.f1 0).f2 = (mv r.f1 0).f2 from rfl, occ_eq pa _ (by have := (hh h1).pos hM.flv; omega)]
   cases hc : r.f0 with
   | false => rfl
   | true => simp [h2 hc]
 have hmove : ∀ n k, n < l.length → k < (rg l n).f1.length → (moveB (homesM pa pa.length) (knownM fl fl.length) l n k = true ↔ MoveR fl pa (mv (rg l n).f1 k) ∧ (mv (rg l n).f1 k).f0 ∉ (ahead l n k).map (fun x => x.f0) ∧ (mv (rg l n).f1 k).f2 ∉ (ahead l n k).map (fun x => x.f2) ∧ offB (rg l n) k = false) := by
  intro n k hn hk
  unfold moveB
  rw [Bool.and_eq_true, Bool.and_eq_true, Bool.and_eq_true, hset, hset, fits_iff hM, moveR_iff hM]
  simp only [Bool.not_eq_true', decide_eq_false_iff_not, and_assoc]
 unfold ringsB
 rw [Bool.and_eq_true, decide_eq_true_iff, List.all_eq_true]
 simp only [List.mem_range]
 constructor
 ·rintro ⟨h1, h2⟩
  have hr : ∀ n, n < l.length → (∀ k, k < (rg l n).f1.length → moveB (homesM pa pa.length) (knownM fl fl.length) l n k = true) ∧ endB (occM pa pa.length) (rg l n) = true := by
   intro n hn
   have := h1 n hn
   unfold ringB at this
   rw [Bool.and_eq_true, List.all_eq_true] at this
   exact ⟨fun k hk => this.1 k (List.mem_range.2 hk), this.2⟩
  have hm := fun n hn k hk => (hmove n k hn hk).1 ((hr n hn).1 k hk)
  refine ⟨h2, fun n hn k hk => (hm n hn k hk).1, (nodup_ahead _ l).2 (fun n hn k hk => (hm n hn k hk).2.1), (nodup_ahead _ l).2 (fun n hn k hk => (hm n hn k hk).2.2.1), fun n hn => ?_⟩
  have he := (hend (rg l n) (fun hp => by obtain ⟨j, _, _, _, _, h⟩ := (hm n hn 0 hp).1; exact h)).1 (hr n hn).2
  have ho := fun k hk => (hoff (rg l n) k hk).1 (hm n hn k hk).2.2.2
  exact ⟨he.1, fun hc => ⟨he.2 hc, fun i h1 h2 => (ho i h2).1 hc h1⟩, fun hc i hi => (ho i hi).2 hc⟩
 ·intro h
  refine ⟨fun n hn => ?_, h.len⟩
  have hs := h.shape n hn
  unfold ringB
  rw [Bool.and_eq_true, List.all_eq_true]
  refine ⟨fun k hk => ?_, (hend (rg l n) (fun hp => by obtain ⟨j, _, _, _, _, h⟩ := h.fit n hn 0 hp; exact h)).2 ⟨hs.1, fun hc => (hs.2.1 hc).1⟩⟩
  have hk' := List.mem_range.1 hk
  exact (hmove n k hn hk').2 ⟨h.fit n hn k hk', (nodup_ahead _ l).1 h.homes n hn k hk', (nodup_ahead _ l).1 h.tos n hn k hk', (hoff (rg l n) k hk').2 ⟨fun hc h1 => (hs.2.1 hc).2 k h1 hk', fun hc => hs.2.2 hc k hk'⟩⟩
structure RepliesV (l : List YT) : Prop where
 len : l.length ≤ 1000
 one : ∀ n, n < l.length → 1 ≤ (ry l n).f0 ∧ (ry l n).f0 ≤ 3 ∧ 1 ≤ (ry l n).f1 ∧ (ry l n).f1 ≤ 64 ∧ 0 ≤ (ry l n).f2 ∧ (ry l n).f2 ≤ 36524
 asc : ∀ n, 0 < n → n < l.length → (ry l (n - 1)).f2 ≤ (ry l n).f2
theorem repliesB_iff (l : List YT) : repliesB l = true ↔ RepliesV l := by
 unfold repliesB
 rw [Bool.and_eq_true, decide_eq_true_iff, List.all_eq_true]
 have hx : ∀ n, replyAt l n = true ↔ replyP (lastD l n) (ry l n) := fun n => by unfold replyAt; exact decide_eq_true_iff
 simp only [List.mem_range, hx, replyP]
 constructor
 ·rintro ⟨h1, h2⟩
  have lo : ∀ n, n < l.length → 0 ≤ (ry l n).f2 := by
   intro n
   induction n with
   | zero => intro hn; have := (h1 0 hn).2.2.2.2.1; simpa [lastD] using this
   | succ n ih => intro hn; have h3 := ih (by omega); have h4 := (h1 (n + 1) hn).2.2.2.2.1; rw [lastD_succ] at h4; simp only [ry] at h3 h4 ⊢; omega
  refine ⟨h2, fun n hn => ?_, fun n h0 hn => ?_⟩
  ·have := h1 n hn
   exact ⟨this.1, this.2.1, this.2.2.1, this.2.2.2.1, lo n hn, this.2.2.2.2.2⟩
  ·have := (h1 n hn).2.2.2.2.1
   unfold lastD at this
   rwa [if_neg (by omega)] at this
 ·intro h
  refine ⟨fun n hn => ?_, h.len⟩
  have := h.one n hn
  refine ⟨this.1, this.2.1, this.2.2.1, this.2.2.2.1, ?_, this.2.2.2.2.2⟩
  unfold lastD
  by_cases e : n = 0
  ·rw [if_pos e]; exact this.2.2.2.2.1
  ·rw [if_neg e]; exact h.asc n (by omega) hn
theorem Replies_f (l : List YT) : Ev (fun k => cohousingref26_Replies.f k l) (decide (RepliesV l)) := by
 unfold cohousingref26_Replies.f
 by_cases hl : (l.length : Int) > 1000
 ·simp only [hl, if_true]
  rw [decide_eq_false (fun h => by have := h.len; omega)]
  exact Ev.pure _
 simp only [hl, if_false]
 have key : ∀ i, i ≤ l.length → ((∀ n, n < i → (1 ≤ (ry l n).f0 ∧ (ry l n).f0 ≤ 3 ∧ 1 ≤ (ry l n).f1 ∧ (ry l n).f1 ≤ 64 ∧ 0 ≤ (ry l n).f2 ∧ (ry l n).f2 ≤ 36524) ∧ (0 < n → (ry l (n - 1)).f2 ≤ (ry l n).f2)) → Ev (fun k => cohousingref26_Replies.l0 k l (i : Int)) (decide (RepliesV l))) := by
  refine loopUp l.length _ ?_ ?_
  ·intro hn
   have h1 : ¬ (((l.length : Nat) : Int) < (l.length : Int)) := by omega
   refine Ev.step ?_
   simp only [cohousingref26_Replies.l0, h1, if_false]
   rw [decide_eq_true ⟨by omega, fun n h => (hn n h).1, fun n h0 h => (hn n h).2 h0⟩]
   exact Ev.pure _
  ·intro i hi ih hn
   have h1 : (i : Int) < (l.length : Int) := by omega
   have h2 : (0 : Int) ≤ (i : Int) := by omega
   have fa : ∀ P : Prop, (P → ¬ (1 ≤ (ry l i).f0 ∧ (ry l i).f0 ≤ 3 ∧ 1 ≤ (ry l i).f1 ∧ (ry l i).f1 ≤ 64 ∧ 0 ≤ (ry l i).f2 ∧ (ry l i).f2 ≤ 36524)) → P → decide (RepliesV l) = false := fun P h hP => decide_eq_false (fun hv => h hP (hv.one i hi))
   refine Ev.step ?_
   by_cases c1 : (rd_T55 l (i : Int)).f0 < 1
   ·simp only [cohousingref26_Replies.l0, h1, h2, c1, if_true]
    rw [fa _ (fun h => by simp only [ry]; omega) c1]
    exact Ev.pure _
   by_cases c2 : (rd_T55 l (i : Int)).f0 > 3
   ·simp only [cohousingref26_Replies.l0, h1, h2, c1, c2, if_true, if_false]
    rw [fa _ (fun h => by simp only [ry]; omega) c2]
    exact Ev.pure _
   by_cases c3 : (rd_T55 l (i : Int)).f1 < 1
   ·simp only [cohousingref26_Replies.l0, h1, h2, c1, c2, c3, if_true, if_false]
    rw [fa _ (fun h => by simp only [ry]; omega) c3]
    exact Ev.pure _
   by_cases c4 : (rd_T55 l (i : Int)).f1 > 64
   ·simp only [cohousingref26_Replies.l0, h1, h2, c1, c2, c3, c4, if_true, if_false]
    rw [fa _ (fun h => by simp only [ry]; omega) c4]
    exact Ev.pure _
   by_cases c5 : (rd_T55 l (i : Int)).f2 < 0
   ·simp only [cohousingref26_Replies.l0, h1, h2, c1, c2, c3, c4, c5, if_true, if_false]
    rw [fa _ (fun h => by simp only [ry]; omega) c5]
    exact Ev.pure _
   by_cases c6 : (rd_T55 l (i : Int)).f2 > 36524
   ·simp only [cohousingref26_Replies.l0, h1, h2, c1, c2, c3, c4, c5, c6, if_true, if_false]
    rw [fa _ (fun h => by simp only [ry]; omega) c6]
    exact Ev.pure _
   have ok1 : 1 ≤ (ry l i).f0 ∧ (ry l i).f0 ≤ 3 ∧ 1 ≤ (ry l i).f1 ∧ (ry l i).f1 ≤ 64 ∧ 0 ≤ (ry l i).f2 ∧ (ry l i).f2 ≤ 36524 := by simp only [ry]; omega
   have go : (0 < i → (ry l (i - 1)).f2 ≤ (ry l i).f2) → Ev (fun k => cohousingref26_Replies.l0 k l ((i + 1 : Nat) : Int)) (decide (RepliesV l)) := fun ha => ih (fun n hn' => by
    by_cases e : n = i
    ·rw [e]; exact ⟨ok1, ha⟩
    ·exact hn n (by omega))
   by_cases c7 : 0 < i
   ·have h3 : (i : Int) > 0 := by omega
    have h4 : (0 : Int) ≤ ((i - 1 : Nat) : Int) := by omega
    have h5 : ((i - 1 : Nat) : Int) < (l.length : Int) := by omega
    by_cases c8 : (rd_T55 l (i : Int)).f2 < (rd_T55 l ((i - 1 : Nat) : Int)).f2
    ·simp only [cohousingref26_Replies.l0, h1, h2, c1, c2, c3, c4, c5, c6, h3, wrap_pred c7 (show i ≤ 140737488355328 by omega), h4, h5, c8, if_true, if_false]
     rw [decide_eq_false (fun hv => by have := hv.asc i c7 hi; simp only [ry] at this; omega)]
     exact Ev.pure _
    ·simp only [cohousingref26_Replies.l0, h1, h2, c1, c2, c3, c4, c5, c6, h3, wrap_pred c7 (show i ≤ 140737488355328 by omega), h4, h5, c8, if_true, if_false, wrap_nat (show i ≤ 140737488355328 by omega)]
     exact go (fun _ => by simp only [ry]; omega)
   ·have h3 : ¬ ((i : Int) > 0) := by omega
    simp only [cohousingref26_Replies.l0, h1, h2, c1, c2, c3, c4, c5, c6, h3, if_true, if_false, wrap_nat (show i ≤ 140737488355328 by omega)]
    exact go (fun h => absurd h c7)
 exact key 0 (by omega) (fun j hj => absurd hj (Nat.not_lt_zero _))
theorem FewR.rb {l : List GT} {rs : List YT} (h : FewR l rs) : RB l := fun i hi => by have := h.m i hi; omega
end Go.Proofs.Ytocbiggglnpeoaa.M
end
section
namespace Go.Proofs.Ytocbiggglnpeoaa.M
open Go.RowKit Go.Proofs.YtocbiggglnpeoaaW.PrintWords Go.Proofs.YtocbiggglnpeoaaW.PrintLast Go.Proofs.YtocbiggglnpeoaaW.PrintMore Go.Proofs.YtocbiggglnpeoaaH
open Classical
def stA (rs : List YT) (due h : Int) (n : Nat) : Bool × Bool := (repM rs due n h).getD (false, false)
theorem stA_succ (rs : List YT) (due h : Int) (n : Nat) : stA rs due h (n + 1) = if (ry rs n).f2 ≤ due ∧ (ry rs n).f1 = h then ((ry rs n).f0 == 1, (stA rs due h n).2 || (ry rs n).f0 == 3) else stA rs due h n := by
 unfold stA
 rw [repM_succ]
 by_cases c1 : (rd_T55 rs (n : Int)).f2 ≤ due
 ·rw [if_pos c1]
  unfold upd
  by_cases c2 : h = (rd_T55 rs (n : Int)).f1
  ·rw [if_pos c2, if_pos ⟨c1, c2.symm⟩, ← c2]
   rfl
  ·rw [if_neg c2, if_neg (fun e => c2 e.2.symm)]
 ·rw [if_neg c1, if_neg (fun e => c1 e.1)]
def agB (rs : List YT) (due h : Int) : Bool := (stA rs due h rs.length).1 && !(stA rs due h rs.length).2
theorem refB_eq (rs : List YT) (due : Int) (x : MT) : refB (repM rs due rs.length) x = !agB rs due x.f0 := by
 unfold refB agB stA
 cases ((repM rs due rs.length x.f0).getD (false, false)).1 <;> cases ((repM rs due rs.length x.f0).getD (false, false)).2 <;> rfl
theorem stA_dead (rs : List YT) (due h : Int) (n : Nat) (hd : (stA rs due h n).2 = true) : ∀ d, (stA rs due h (n + d)).2 = true := by
 intro d
 induction d with
 | zero => exact hd
 | succ d ih =>
  rw [← Nat.add_assoc, stA_succ]
  split
  ·simp [ih]
  ·exact ih
theorem Agrees_f (rs : List YT) (h due : Int) (hB : rs.length ≤ 140737488355328) : Ev (fun k => cohousingref26_Agrees.f k rs h due) (agB rs due h) := by
 have key : ∀ i, i ≤ rs.length → ((stA rs due h i).2 = false → Ev (fun k => cohousingref26_Agrees.l0 k rs h due (stA rs due h i).1 (i : Int)) (agB rs due h)) := by
  refine loopUp rs.length _ ?_ ?_
  ·intro hd
   have h1 : ¬ (((rs.length : Nat) : Int) < (rs.length : Int)) := by omega
   refine Ev.step ?_
   simp only [cohousingref26_Agrees.l0, h1, if_false]
   unfold agB
   rw [hd, Bool.not_false, Bool.and_true]
   exact Ev.pure _
  ·intro i hi ih hd
   have h1 : (i : Int) < (rs.length : Int) := by omega
   have h2 : (0 : Int) ≤ (i : Int) := by omega
   have skip : ¬ ((ry rs i).f2 ≤ due ∧ (ry rs i).f1 = h) → Ev (fun k => cohousingref26_Agrees.j1 k rs h due (stA rs due h i).1 (i : Int) true) (agB rs due h) := fun hs => by
    refine Ev.step ?_
    simp only [cohousingref26_Agrees.j1, if_true, wrap_nat (show i ≤ 140737488355328 by omega)]
    have e : stA rs due h (i + 1) = stA rs due h i := by rw [stA_succ, if_neg hs]
    rw [e] at ih
    exact ih hd
   refine Ev.step ?_
   by_cases c1 : (rd_T55 rs (i : Int)).f1 = h
   ·simp only [cohousingref26_Agrees.l0, h1, h2, c1, if_true]
    by_cases c2 : (rd_T55 rs (i : Int)).f2 > due
    ·rw [decide_eq_true c2]
     exact skip (fun hs => by have := hs.1; simp only [ry] at this; omega)
    ·rw [decide_eq_false c2]
     have hin : (ry rs i).f2 ≤ due ∧ (ry rs i).f1 = h := ⟨by simp only [ry]; omega, c1⟩
     refine Ev.step ?_
     by_cases c3 : (rd_T55 rs (i : Int)).f0 = 3
     ·simp only [cohousingref26_Agrees.j1, h1, h2, c3, if_true, Bool.false_eq_true, if_false]
      have e : (stA rs due h (i + 1)).2 = true := by rw [stA_succ, if_pos hin]; simp [ry, c3]
      have := stA_dead rs due h (i + 1) e (rs.length - (i + 1))
      rw [show i + 1 + (rs.length - (i + 1)) = rs.length by omega] at this
      unfold agB
      rw [this, Bool.not_true, Bool.and_false]
      exact Ev.pure _
     ·simp only [cohousingref26_Agrees.j1, h1, h2, c3, if_true, Bool.false_eq_true, if_false, wrap_nat (show i ≤ 140737488355328 by omega)]
      have e : stA rs due h (i + 1) = ((rd_T55 rs (i : Int)).f0 == 1, false) := by rw [stA_succ, if_pos hin, hd]; simp [ry, c3]
      rw [e] at ih
      exact ih rfl
   ·simp only [cohousingref26_Agrees.l0, h1, h2, c1, if_true, if_false]
    exact skip (fun hs => c1 hs.2)
 exact key 0 (by omega) rfl
theorem idx_is (p : MT → Bool) (l : List MT) : (idxB51 p l = -1 ∧ ∀ k, k < l.length → p (mv l k) = false) ∨ ∃ j : Nat, j < l.length ∧ idxB51 p l = j ∧ p (mv l j) = true ∧ ∀ k, k < j → p (mv l k) = false := by
 unfold idxB51
 cases h : l.findIdx? p with
 | none =>
  refine .inl ⟨rfl, fun k hk => ?_⟩
  rw [mv_get l k hk]
  exact List.findIdx?_eq_none_iff.1 h _ (List.getElem_mem hk)
 | some j =>
  obtain ⟨h1, h2, h3⟩ := List.findIdx?_eq_some_iff_getElem.1 h
  refine .inr ⟨j, h1, rfl, ?_, fun k hk => ?_⟩
  ·rw [mv_get l j h1]; exact h2
  ·have hk' : k < l.length := by omega
   rw [mv_get l k hk']
   have := h3 k hk
   cases hx : p l[k] with
   | false => rfl
   | true => exact absurd hx this
inductive Told (rs : List YT) (due : Int) (r : GT) : Nat → Bool → Prop
 | all (h : ∀ k, k < r.f1.length → agB rs due (mv r.f1 k).f0 = true) : Told rs due r r.f1.length false
 | chain (n : Nat) (hn : n < r.f1.length) (hc : r.f0 = true) (h : ∀ k, k < n → agB rs due (mv r.f1 k).f0 = true) (hno : agB rs due (mv r.f1 n).f0 = false) : Told rs due r n true
 | cycle (n : Nat) (hn : n < r.f1.length) (hc : r.f0 = false) (hno : agB rs due (mv r.f1 n).f0 = false) : Told rs due r 0 true
theorem told_ring (rs : List YT) (due : Int) (r : GT) : Told rs due r (nOf (repM rs due rs.length) r) (brk (repM rs due rs.length) r) := by
 have hr : ∀ k, refB (repM rs due rs.length) (mv r.f1 k) = !agB rs due (mv r.f1 k).f0 := fun k => refB_eq rs due _
 unfold nOf brk
 rcases idx_is (refB (repM rs due rs.length)) r.f1 with ⟨e, h⟩ | ⟨j, hj, e, h1, h2⟩
 ·rw [e, if_pos (by omega), decide_eq_false (by omega)]
  refine .all (fun k hk => ?_)
  have := h k hk
  rw [hr] at this
  simpa using this
 ·rw [e, if_neg (by omega), decide_eq_true (by omega)]
  have hno : agB rs due (mv r.f1 j).f0 = false := by rw [hr] at h1; simpa using h1
  cases hc : r.f0 with
  | true =>
   rw [if_pos rfl, Int.toNat_natCast]
   exact .chain j hj hc (fun k hk => by have := h2 k hk; rw [hr] at this; simpa using this) hno
  | false =>
   rw [if_neg (by decide)]
   exact .cycle j hj hc hno
abbrev nR (rs : List YT) (due : Int) (r : GT) : Nat := nOf (repM rs due rs.length) r
abbrev bR (rs : List YT) (due : Int) (r : GT) : Bool := brk (repM rs due rs.length) r
abbrev goR (rs : List YT) (due : Int) (l : List GT) (n : Nat) : List MT := goM (repM rs due rs.length) l n
abbrev brR (rs : List YT) (due : Int) (l : List GT) (n : Nat) : List Int := brM (repM rs due rs.length) l n
theorem mv_mem {ms : List MT} {k : Nat} (h : k < ms.length) : mv ms k ∈ ms := by rw [mv_get ms k h]; exact List.getElem_mem h
theorem goR_sub (rs : List YT) (due : Int) (l : List GT) : ∀ n, n ≤ l.length → (goR rs due l n).Sublist (ahead l n 0) := by
 intro n
 induction n with
 | zero => intro _; exact List.nil_sublist _
 | succ n ih =>
  intro hn
  rw [← ahead_step l (by omega)]
  show (goM _ l (n + 1)).Sublist _
  rw [goM_succ]
  have h0 := ih (by omega)
  unfold ahead at h0 ⊢
  rw [List.take_zero, List.append_nil] at h0
  rw [List.take_length]
  exact h0.append (List.take_sublist _ _)
section
variable {fl : List FT} {pa : List PT} {l : List GT}
end
theorem runR_eq (fl : List FT) (pa : List PT) (l : List GT) (due : Int) (rs : List YT) : runR fl pa l due rs = if Market fl pa ∧ RepliesV rs ∧ 0 ≤ due ∧ due ≤ 36524 ∧ RingsR fl pa l then (goR rs due l l.length, brR rs due l l.length, 0) else ([], [], 1) := by
 unfold runR
 by_cases h : Market fl pa ∧ RepliesV rs ∧ 0 ≤ due ∧ due ≤ 36524 ∧ RingsR fl pa l
 ·rw [if_pos h, if_pos ⟨(marketOk_iff fl pa).2 h.1, (repliesB_iff rs).2 h.2.1, h.2.2.1, h.2.2.2.1, (ringsB_iff h.1 l).2 h.2.2.2.2⟩]
 ·rw [if_neg h, if_neg]
  rintro ⟨h1, h2, h3, h4, h5⟩
  have hm := (marketOk_iff fl pa).1 h1
  exact h ⟨hm, (repliesB_iff rs).1 h2, h3, h4, (ringsB_iff hm l).1 h5⟩
theorem few_M {fl : List FT} {pa : List PT} (h : FewM fl pa) : fewM fl pa = true := by
 unfold fewM
 rw [Bool.and_eq_true, decide_eq_true_iff, List.all_eq_true]
 refine ⟨⟨by have := h.f; omega, by have := h.p; omega⟩, fun p hp => ?_⟩
 obtain ⟨i, hi, e⟩ := List.mem_iff_getElem.1 hp
 have := h.w i hi
 rw [show pwt pa i = p.f2 by rw [pwt, pa_get pa i hi, e]] at this
 exact decide_eq_true (by omega)
theorem few_All {fl : List FT} {pa : List PT} {l : List GT} {rs : List YT} (h : FewM fl pa) (hl : l.length ≤ 20) (hm : ∀ i, i < l.length → (rg l i).f1.length ≤ 30) (hr : rs.length ≤ 1000) : fewAll fl pa l rs = true := by
 have hx : ∀ r ∈ l, r.f1.length ≤ 30 := fun r hr => by
  obtain ⟨i, hi, e⟩ := List.mem_iff_getElem.1 hr
  have := hm i hi
  rwa [rg_get l i hi, e] at this
 unfold fewAll fewR
 simp only [Bool.and_eq_true, decide_eq_true_iff, List.all_eq_true]
 exact ⟨⟨⟨few_M h, by omega, fun r hr => by have := hx r hr; omega⟩, fun r hr => by have := hx r hr; omega⟩, by omega, by omega⟩
theorem Run_f {fl : List FT} {pa : List PT} {l : List GT} {rs : List YT} (due : Int) (h : FewM fl pa) (hl : l.length ≤ 20) (hm : ∀ i, i < l.length → (rg l i).f1.length ≤ 30) (hr : rs.length ≤ 1000) : chain_Run.f fl pa l due rs = some (runR fl pa l due rs) := by
 unfold chain_Run.f
 rw [if_pos (few_All h hl hm hr)]
theorem move_beq (x y : MT) : (x.f0 == y.f0 && (x.f1 == y.f1 && (x.f2 == y.f2))) = decide (x = y) := by
 obtain ⟨a, b, c⟩ := x
 obtain ⟨a', b', c'⟩ := y
 rw [Bool.eq_iff_iff, Bool.and_eq_true, Bool.and_eq_true, decide_eq_true_iff, beq_iff_eq, beq_iff_eq, beq_iff_eq]
 constructor
 ·rintro ⟨rfl, rfl, rfl⟩; rfl
 ·intro h; injection h with h1 h2 h3; exact ⟨h1, h2, h3⟩
theorem SameMoves_f (a b : List MT) (hB : a.length ≤ 140737488355328) : Ev (fun k => cohousingref26_SameMoves.f k a b) (decide (a = b)) := by
 unfold cohousingref26_SameMoves.f
 by_cases hl : (a.length : Int) = (b.length : Int)
 ·simp only [hl, if_true]
  have hl' : a.length = b.length := by omega
  have key : ∀ i, i ≤ a.length → ((∀ j, j < i → mv a j = mv b j) → Ev (fun k => cohousingref26_SameMoves.l0 k a b (i : Int)) (decide (a = b))) := by
   refine loopUp a.length _ ?_ ?_
   ·intro hn
    have h1 : ¬ (((a.length : Nat) : Int) < (a.length : Int)) := by omega
    refine Ev.step ?_
    simp only [cohousingref26_SameMoves.l0, h1, if_false]
    rw [decide_eq_true (List.ext_getElem hl' (fun j h1 h2 => by rw [← mv_get a j h1, ← mv_get b j h2]; exact hn j h1))]
    exact Ev.pure _
   ·intro i hi ih hn
    have h1 : (i : Int) < (a.length : Int) := by omega
    have h2 : (0 : Int) ≤ (i : Int) := by omega
    have h3 : (i : Int) < (b.length : Int) := by omega
    have hx : (!((rd_T51 a (i : Int)).f0 == (rd_T51 b (i : Int)).f0) || (!((rd_T51 a (i : Int)).f1 == (rd_T51 b (i : Int)).f1) || !((rd_T51 a (i : Int)).f2 == (rd_T51 b (i : Int)).f2))) = !decide (mv a i = mv b i) := by
     rw [← move_beq, Bool.not_and, Bool.not_and]
    refine Ev.step ?_
    by_cases h : mv a i = mv b i
    ·simp only [cohousingref26_SameMoves.l0, h1, h2, h3, hx, if_true, decide_eq_true h, Bool.not_true, Bool.false_eq_true, if_false, wrap_nat (show i ≤ 140737488355328 by omega)]
     refine ih (fun j hj => ?_)
     by_cases e : j = i
     ·rw [e]; exact h
     ·exact hn j (by omega)
    ·simp only [cohousingref26_SameMoves.l0, h1, h2, h3, hx, if_true, decide_eq_false h, Bool.not_false]
     rw [decide_eq_false (fun e => h (by rw [e]))]
     exact Ev.pure _
  exact key 0 (by omega) (fun j hj => absurd hj (Nat.not_lt_zero _))
 ·simp only [hl, if_false]
  rw [decide_eq_false (fun e => hl (by rw [e]))]
  exact Ev.pure _
theorem SameInts_f (a b : List Int) (hB : a.length ≤ 140737488355328) : Ev (fun k => cohousingref23_SameInts.f k a b) (decide (a = b)) := by
 unfold cohousingref23_SameInts.f
 by_cases hl : (a.length : Int) = (b.length : Int)
 ·simp only [hl, if_true]
  have hl' : a.length = b.length := by omega
  have key : ∀ i, i ≤ a.length → ((∀ j : Nat, j < i → rd a (j : Int) = rd b (j : Int)) → Ev (fun k => cohousingref23_SameInts.l0 k a b (i : Int)) (decide (a = b))) := by
   refine loopUp a.length _ ?_ ?_
   ·intro hn
    have h1 : ¬ (((a.length : Nat) : Int) < (a.length : Int)) := by omega
    refine Ev.step ?_
    simp only [cohousingref23_SameInts.l0, h1, if_false]
    rw [decide_eq_true (List.ext_getElem hl' (fun j h1 h2 => by rw [← rd_get a j h1, ← rd_get b j h2]; exact hn j h1))]
    exact Ev.pure _
   ·intro i hi ih hn
    have h1 : (i : Int) < (a.length : Int) := by omega
    have h2 : (0 : Int) ≤ (i : Int) := by omega
    have h3 : (i : Int) < (b.length : Int) := by omega
    refine Ev.step ?_
    by_cases h : rd a (i : Int) = rd b (i : Int)
    ·simp only [cohousingref23_SameInts.l0, h1, h2, h3, h, if_true, wrap_nat (show i ≤ 140737488355328 by omega)]
     refine ih (fun j hj => ?_)
     by_cases e : j = i
     ·rw [e]; exact h
     ·exact hn j (by omega)
    ·simp only [cohousingref23_SameInts.l0, h1, h2, h3, h, if_true, if_false]
     rw [decide_eq_false (fun e => h (by rw [e]))]
     exact Ev.pure _
  exact key 0 (by omega) (fun j hj => absurd hj (Nat.not_lt_zero _))
 ·simp only [hl, if_false]
  rw [decide_eq_false (fun e => hl (by rw [e]))]
  exact Ev.pure _
theorem flat_beq (x y : FT) : (x.f0 == y.f0 && x.f1 == y.f1) = decide (x = y) := by
 obtain ⟨a, b⟩ := x
 obtain ⟨a', b'⟩ := y
 rw [Bool.eq_iff_iff, Bool.and_eq_true, decide_eq_true_iff, beq_iff_eq, beq_iff_eq]
 constructor
 ·rintro ⟨rfl, rfl⟩; rfl
 ·intro h; injection h with h1 h2; exact ⟨h1, h2⟩
theorem Same_f (f1 : List FT) (p1 : List PT) (f2 : List FT) (p2 : List PT) (hF : f1.length ≤ 140737488355328) (hP : p1.length ≤ 140737488355328) (hW : WB p1) : Ev (fun k => cohousingref23_Same.f k f1 p1 f2 p2) (decide (f1 = f2 ∧ p1 = p2)) := by
 unfold cohousingref23_Same.f
 have out : ¬ (f1 = f2 ∧ p1 = p2) → Ev (fun k => cohousingref23_Same.j0 k true f1 p1 f2 p2) (decide (f1 = f2 ∧ p1 = p2)) := fun h => by
  rw [decide_eq_false h]
  refine Ev.step ?_
  simp only [cohousingref23_Same.j0, if_true]
  exact Ev.pure _
 by_cases hl : (f1.length : Int) = (f2.length : Int)
 ·simp only [hl, if_true]
  have hl' : f1.length = f2.length := by omega
  by_cases hm : (p1.length : Int) = (p2.length : Int)
  ·rw [show ((p1.length : Int) != (p2.length : Int)) = false by rw [bne_eq_false_iff_eq]; exact hm]
   have hm' : p1.length = p2.length := by omega
   refine Ev.step ?_
   simp only [cohousingref23_Same.j0, Bool.false_eq_true, if_false]
   have key1 : f1 = f2 → ∀ i, i ≤ p1.length → ((∀ j : Nat, j < i → rd_T46 p1 (j : Int) = rd_T46 p2 (j : Int)) → Ev (fun k => cohousingref23_Same.l1 k (i : Int) f1 p1 f2 p2) (decide (f1 = f2 ∧ p1 = p2))) := by
    intro hf
    refine loopUp p1.length _ ?_ ?_
    ·intro hn
     have h1 : ¬ (((p1.length : Nat) : Int) < (p1.length : Int)) := by omega
     refine Ev.step ?_
     simp only [cohousingref23_Same.l1, h1, if_false]
     rw [decide_eq_true ⟨hf, List.ext_getElem hm' (fun j h1 h2 => by rw [← pa_get p1 j h1, ← pa_get p2 j h2]; exact hn j h1)⟩]
     exact Ev.pure _
    ·intro i hi ih hn
     have h1 : (i : Int) < (p1.length : Int) := by omega
     have h2 : (0 : Int) ≤ (i : Int) := by omega
     have h3 : (i : Int) < (p2.length : Int) := by omega
     refine Ev.step ?_
     simp only [cohousingref23_Same.l1, h1, h2, h3, if_true]
     refine Ev.bnd (SameInts_f (pwt p1 i) (pwt p2 i) (hW i hi)) ?_
     by_cases c1 : pwt p1 i = pwt p2 i
     ·simp only [decide_eq_true c1, if_true]
      by_cases c2 : (rd_T46 p1 (i : Int)).f0 = (rd_T46 p2 (i : Int)).f0
      ·by_cases c3 : (rd_T46 p1 (i : Int)).f1 = (rd_T46 p2 (i : Int)).f1
       ·simp only [c2, c3, if_true, wrap_nat (show i ≤ 140737488355328 by omega)]
        refine ih (fun j hj => ?_)
        by_cases e : j = i
        ·subst e
         have c1' : (rd_T46 p1 (j : Int)).f2 = (rd_T46 p2 (j : Int)).f2 := c1
         revert c1' c2 c3
         cases rd_T46 p1 (j : Int)
         cases rd_T46 p2 (j : Int)
         rintro rfl rfl rfl
         rfl
        ·exact hn j (by omega)
       ·simp only [c2, c3, if_true, if_false]
        rw [decide_eq_false (fun e => c3 (by rw [e.2]))]
        exact Ev.pure _
      ·simp only [c2, if_false]
       rw [decide_eq_false (fun e => c2 (by rw [e.2]))]
       exact Ev.pure _
     ·simp only [decide_eq_false c1, Bool.false_eq_true, if_false]
      rw [decide_eq_false (fun e => c1 (by rw [e.2]))]
      exact Ev.pure _
   have key0 : ∀ i, i ≤ f1.length → ((∀ j : Nat, j < i → rd_T84 f1 (j : Int) = rd_T84 f2 (j : Int)) → Ev (fun k => cohousingref23_Same.l0 k (i : Int) f1 p1 f2 p2) (decide (f1 = f2 ∧ p1 = p2))) := by
    refine loopUp f1.length _ ?_ ?_
    ·intro hn
     have h1 : ¬ (((f1.length : Nat) : Int) < (f1.length : Int)) := by omega
     refine Ev.step ?_
     simp only [cohousingref23_Same.l0, h1, if_false]
     exact key1 (List.ext_getElem hl' (fun j h1 h2 => by rw [← fl_get f1 j h1, ← fl_get f2 j h2]; exact hn j h1)) 0 (by omega) (fun j hj => absurd hj (Nat.not_lt_zero _))
    ·intro i hi ih hn
     have h1 : (i : Int) < (f1.length : Int) := by omega
     have h2 : (0 : Int) ≤ (i : Int) := by omega
     have h3 : (i : Int) < (f2.length : Int) := by omega
     have hx : (!((rd_T84 f1 (i : Int)).f0 == (rd_T84 f2 (i : Int)).f0) || !((rd_T84 f1 (i : Int)).f1 == (rd_T84 f2 (i : Int)).f1)) = !decide (rd_T84 f1 (i : Int) = rd_T84 f2 (i : Int)) := by
      rw [← flat_beq, Bool.not_and]
     refine Ev.step ?_
     by_cases h : rd_T84 f1 (i : Int) = rd_T84 f2 (i : Int)
     ·simp only [cohousingref23_Same.l0, h1, h2, h3, hx, if_true, decide_eq_true h, Bool.not_true, Bool.false_eq_true, if_false, wrap_nat (show i ≤ 140737488355328 by omega)]
      refine ih (fun j hj => ?_)
      by_cases e : j = i
      ·rw [e]; exact h
      ·exact hn j (by omega)
     ·simp only [cohousingref23_Same.l0, h1, h2, h3, hx, if_true, decide_eq_false h, Bool.not_false]
      rw [decide_eq_false (fun e => h (by rw [e.1]))]
      exact Ev.pure _
   exact key0 0 (by omega) (fun j hj => absurd hj (Nat.not_lt_zero _))
  ·rw [show ((p1.length : Int) != (p2.length : Int)) = true by rw [bne_iff_ne]; exact hm]
   exact out (fun e => hm (by rw [e.2]))
 ·simp only [hl, if_false]
  exact out (fun e => hl (by rw [e.1]))
end Go.Proofs.Ytocbiggglnpeoaa.M
end
