/- Part 10 of the base that the seat's proofs share: words, walks and plain laws. -/
import Derived.Test.YtocbiggglnpeoaaCMi
set_option linter.unusedVariables false
set_option linter.unusedSimpArgs false
section
namespace Go.Proofs.Ytocbiggglnpeoaa.M
open Go.RowKit Go.Proofs.YtocbiggglnpeoaaW.PrintWords Go.Proofs.YtocbiggglnpeoaaW.PrintLast Go.Proofs.YtocbiggglnpeoaaW.PrintMore
attribute [local go_sem] max2_int min2_int max_two min_two max_three min_three max_four min_four
set_option linter.unusedVariables false
set_option linter.unusedSimpArgs false
mutual
def cohousingref26_Next.l0 : Nat → List (S51) → List Int → List Int → List Bool → Int → List (S84) → List (S46) → Option ((List (S84)) × (List (S46)) × Int)
 | 0, _, _, _, _, _, _, _ => none
 | k + 1, x1, x2, x9, x10, x11, x294000, x294001 => if x11 < (x294001.length : Int) then (if 0 ≤ x11 then (if x11 < (x9.length : Int) then (cohousingref26_Next.l0 k x1 x2 (x9.set (x11 : Int).toNat ((rd_T46 x294001 x11).f1)) x10 (wrap64 (x11 + 1)) x294000 x294001) else (none)) else (none)) else (cohousingref26_Next.l1 k x1 x2 x9 x10 0 x294000 x294001)
def cohousingref26_Next.l1 : Nat → List (S51) → List Int → List Int → List Bool → Int → List (S84) → List (S46) → Option ((List (S84)) × (List (S46)) × Int)
 | 0, _, _, _, _, _, _, _ => none
 | k + 1, x1, x2, x9, x10, x12, x294000, x294001 => if x12 < (x1.length : Int) then (if 0 ≤ x12 then ((cohousingref26_move.f k x294000 x294001 ((rd_T51 x1 x12).f0) ((rd_T51 x1 x12).f1) ((rd_T51 x1 x12).f2)).bind fun t305 => (if t305 = true then ((cohousingref26_Party.f k x294000 x294001 ((rd_T51 x1 x12).f0)).bind fun t307 => (if 0 ≤ t307 then (if t307 < (x10.length : Int) then (if rdOf false x10 t307 = true then (some (([] : List (S84)), ([] : List (S46)), 1)) else (if t307 < (x9.length : Int) then (cohousingref26_Next.l1 k x1 x2 (x9.set (t307 : Int).toNat ((rd_T51 x1 x12).f2)) (x10.set (t307 : Int).toNat true) (wrap64 (x12 + 1)) x294000 x294001) else (none))) else (none)) else (none))) else (some (([] : List (S84)), ([] : List (S46)), 1)))) else (none)) else (cohousingref26_Next.l2 k x2 x9 0 x294000 x294001)
def cohousingref26_Next.l2 : Nat → List Int → List Int → Int → List (S84) → List (S46) → Option ((List (S84)) × (List (S46)) × Int)
 | 0, _, _, _, _, _ => none
 | k + 1, x2, x9, x15, x294000, x294001 => if x15 < (x2.length : Int) then (if 0 ≤ x15 then ((cohousingref26_Party.f k x294000 x294001 (rd x2 x15)).bind fun t313 => (if t313 < 0 then (some (([] : List (S84)), ([] : List (S46)), 1)) else (if x15 > 0 then (if 0 ≤ (wrap64 (x15 - 1)) then (if (wrap64 (x15 - 1)) < (x2.length : Int) then (if (rd x2 x15) ≤ (rd x2 (wrap64 (x15 - 1))) then (some (([] : List (S84)), ([] : List (S46)), 1)) else (cohousingref26_Next.l2 k x2 x9 (wrap64 (x15 + 1)) x294000 x294001)) else (none)) else (none)) else (cohousingref26_Next.l2 k x2 x9 (wrap64 (x15 + 1)) x294000 x294001)))) else (none)) else (cohousingref26_Next.l3 k x2 x9 ([] : List Int) 0 x294000 x294001 x294000 ([] : List (S46)))
def cohousingref26_Next.l3 : Nat → List Int → List Int → List Int → Int → List (S84) → List (S46) → List (S84) → List (S46) → Option ((List (S84)) × (List (S46)) × Int)
 | 0, _, _, _, _, _, _, _, _ => none
 | k + 1, x2, x9, x17, x18, x294000, x294001, x317000, x317001 => if x18 < (x294001.length : Int) then (if 0 ≤ x18 then ((cohousingref23_In.f k x2 ((rd_T46 x294001 x18).f0)).bind fun t318 => (if t318 ≥ 0 then (cohousingref26_Next.l3 k x2 x9 x17 (wrap64 (x18 + 1)) x294000 x294001 x317000 x317001) else (if x18 < (x9.length : Int) then (if (rd x9 x18) = 0 then (if x17.length < 17592186044416 then (if x317001.length < 3518437208883 then (cohousingref26_Next.l3 k x2 x9 (x17 ++ [rd x9 x18]) (wrap64 (x18 + 1)) x294000 x294001 x317000 (x317001 ++ [(⟨(rd_T46 x294001 x18).f0, rd x9 x18, (rd_T46 x294001 x18).f2⟩ : S46)])) else (none)) else (none)) else ((cohousingref23_In.f k x17 (rd x9 x18)).bind fun t331 => (if t331 ≥ 0 then (some (([] : List (S84)), ([] : List (S46)), 22)) else (if x17.length < 17592186044416 then (if x317001.length < 3518437208883 then (cohousingref26_Next.l3 k x2 x9 (x17 ++ [rd x9 x18]) (wrap64 (x18 + 1)) x294000 x294001 x317000 (x317001 ++ [(⟨(rd_T46 x294001 x18).f0, rd x9 x18, (rd_T46 x294001 x18).f2⟩ : S46)])) else (none)) else (none))))) else (none)))) else (none)) else (some (x317000, x317001, 0))
end
def cohousingref26_Next.f (k : Nat) (l0_0 : List (S84)) (l0_1 : List (S46)) (l1 : List (S51)) (l2 : List Int) : Option ((List (S84)) × (List (S46)) × Int) := (cohousingref23_Valid.f k l0_0 l0_1).bind fun t295 => (if t295 = true then (if 0 ≤ (l0_1.length : Int) then (if ((l0_1.length : Int) : Int).toNat ≤ 35184372088832 then (if ((l0_1.length : Int) : Int).toNat ≤ 281474976710656 then (cohousingref26_Next.l0 k l1 l2 (List.replicate ((l0_1.length : Int) : Int).toNat 0) (List.replicate ((l0_1.length : Int) : Int).toNat false) 0 l0_0 l0_1) else (none)) else (none)) else (none)) else (some (([] : List (S84)), ([] : List (S46)), 1)))
def cohousingref26_Next.T16 : Bool × List (List Nat × List Nat) := (true, [([], []), ([], []), ([], []), ([1, 2], [1, 2]), ([3], [3]), ([4], [4]), ([0, 5], [0, 5]), ([6, 6, 0, 1, 2, 3, 4, 5, 6], [6])])
def cohousingref26_Next.B16 : List Nat := [0, 0, 0, 6, 14, 30, 63, 127]
theorem cohousingref26_Next.tab16 : rtab .any (opsOf Try.f16 16) = cohousingref26_Next.T16 := by kernel_rfl
theorem cohousingref26_Next.bits16 : waitsOk cohousingref26_Next.T16.2 cohousingref26_Next.B16 = true := by kernel_rfl
def cohousingref26_Next.T24 : Bool × List (List Nat × List Nat) := (true, [([], []), ([], []), ([], []), ([1, 2], [1, 2]), ([3], [3]), ([0, 4], [0, 4]), ([5], [5]), ([6, 5], [6]), ([7], [7]), ([8, 7], [7, 8]), ([9, 7, 7], [7, 9]), ([10], [10]), ([10], [10]), ([11, 12, 10], [10, 11, 12]), ([13, 10], [10, 13]), ([10], [10]), ([10], [10]), ([16, 10], [10, 16]), ([15, 17, 10], [10, 15, 17]), ([18, 10], [10, 18]), ([14, 19, 10], [10, 14, 19]), ([10, 20, 7], [7, 10, 20]), ([7, 21], [7, 21])])
def cohousingref26_Next.B24 : List Nat := [0, 0, 0, 6, 14, 31, 63, 127, 255, 511, 1023, 2047, 2047, 8191, 16383, 2047, 2047, 67583, 231423, 493567, 1048575, 2097151, 4194303]
theorem cohousingref26_Next.tab24 : rtab .any (opsOf Try.f16 24) = cohousingref26_Next.T24 := by kernel_rfl
theorem cohousingref26_Next.bits24 : waitsOk cohousingref26_Next.T24.2 cohousingref26_Next.B24 = true := by kernel_rfl
set_option maxHeartbeats 8000000 in
set_option maxRecDepth 100000 in
theorem cohousingref26_Next.calls (k : Nat) (P0_0_ : Nat → Prop) (A0_0 : Option Addr) (c0_0 : Nat) (l0_0 : List (S84)) (P0_1_ : Nat → Prop) (A0_1 : Option Addr) (c0_1 : Nat) (l0_1 : List (S46)) (A1 : Option Addr) (c1 : Nat) (l1 : List (S51)) (A2 : Option Addr) (c2 : Nat) (l2 : List Int) (r1 : List (S84)) (r2 : List (S46)) (r3 : Int) (w : World) (hs0_0 : Kd.V k84 84 w w.heap.size (fun k_ => P0_0_ k_) (.slice A0_0 l0_0.length c0_0) l0_0) (hs0_1 : Kd.V k46 46 w w.heap.size (fun k_ => P0_1_ k_) (.slice A0_1 l0_1.length c0_1) l0_1) (hr1 : Kd.C k51 w A1 l1.length l1) (hc1 : l1.length ≤ c1) (hr2 : Kd.C (Kd.int .i64) w A2 l2.length l2) (hc2 : l2.length ≤ c2) (h : cohousingref26_Next.f k l0_0 l0_1 l1 l2 = some (r1, r2, r3)) :
  Calls Try.prog 16 #[.agg #[.slice A0_0 l0_0.length c0_0, .slice A0_1 l0_1.length c0_1], .slice A1 l1.length c1, .slice A2 l2.length c2] w fun e w' => ∃ v0_ v1_ : Value, e = .returned (.tuple #[.agg #[v0_, v1_], .int .i64 r3]) ∧ Kd.V k84 84 w' w.heap.size (fun k_ => ((P0_0_ k_ ∨ P0_1_ k_) ∨ w.heap.size ≤ k_) ∧ some k_ ≠ (v1_ : Value).ownBlock) v0_ r1 ∧ Kd.N k46 46 w' w.heap.size (fun k_ => ((P0_0_ k_ ∨ P0_1_ k_) ∨ w.heap.size ≤ k_)) v1_ r2 ∧ Below w.heap.size w w' := by
 have hu25 := Try.underlying25
 have hu51 := Try.underlying51
 have hu46 := Try.underlying46
 have HO0_0 := mk_ (show Kd.V k84 84 w w.heap.size (fun k_ => ((P0_0_ k_ ∨ P0_1_ k_) ∨ w.heap.size ≤ k_)) (.slice A0_0 l0_0.length c0_0) l0_0 from Kd.V_mono hs0_0 (fun k_ hk => .inl (.inl hk)))
 have HO0_1 := mk_ (show Kd.V k46 46 w w.heap.size (fun k_ => ((P0_0_ k_ ∨ P0_1_ k_) ∨ w.heap.size ≤ k_)) (.slice A0_1 l0_1.length c0_1) l0_1 from Kd.V_mono hs0_1 (fun k_ hk => .inl (.inr hk)))
 have HR1 := mk_ hr1
 have HC1 := mk_ hc1
 clear hr1 hc1
 have HR2 := mk_ hr2
 have HC2 := mk_ hc2
 clear hr2 hc2
 have HB := mk_ (Below.refl w.heap.size w)
 have H : ((cohousingref23_Valid.f k l0_0 l0_1).bind fun t295 => (if t295 = true then (if 0 ≤ (l0_1.length : Int) then (if ((l0_1.length : Int) : Int).toNat ≤ 35184372088832 then (if ((l0_1.length : Int) : Int).toNat ≤ 281474976710656 then (cohousingref26_Next.l0 k l1 l2 (List.replicate ((l0_1.length : Int) : Int).toNat 0) (List.replicate ((l0_1.length : Int) : Int).toNat false) 0 l0_0 l0_1) else (none)) else (none)) else (none)) else (some (([] : List (S84)), ([] : List (S46)), 1)))) = some (r1, r2, r3) := h
 clear h
 replace H := Option.bind_eq_some_iff.mp H
 obtain ⟨t295, A40, H⟩ := H
 replace H : (if t295 = true then (if 0 ≤ (l0_1.length : Int) then (if ((l0_1.length : Int) : Int).toNat ≤ 35184372088832 then (if ((l0_1.length : Int) : Int).toNat ≤ 281474976710656 then (cohousingref26_Next.l0 k l1 l2 (List.replicate ((l0_1.length : Int) : Int).toNat 0) (List.replicate ((l0_1.length : Int) : Int).toNat false) 0 l0_0 l0_1) else (none)) else (none)) else (none)) else (some (([] : List (S84)), ([] : List (S46)), 1))) = some (r1, r2, r3) := H
 have A4 := mk_ A40
 clear A40
 by_cases c5 : t295 = true
 rotate_left
 ·replace c5 := Bool.eq_false_iff.mpr c5
  subst c5
  have H1 : (some (([] : List (S84)), ([] : List (S46)), 1)) = some (r1, r2, r3) := by rw [if_neg (show ¬ (false = true) by decide)] at H; exact H
  clear H
  have H := H1
  clear H1
  simp only [Option.some.injEq, Prod.mk.injEq] at H
  obtain ⟨rfl, rfl, rfl⟩ := H
  go_enter Try.func16, Try.ntmps16
  go_wp2_with (first | ((with_reducible refine gate_dst (N := 3) rfl ?_); refine box_event ?hg (N := 3) ?hd (cs := #[.slice A0_0 l0_0.length c0_0, .slice A0_1 l0_1.length c0_1]) (t := 25) ?hr ?_; (case hd => rfl); (case hg => rfl); (case hr => first | (go_simp; done) | (go_simp; rfl)); intro gb293 hg w159 hbox hb; have n0_ := mk_ (Kd.V_below (Kd.V_elderB (vv_ HO0_0) gb293 (Nat.le_of_eq hg.symm)) hb); have n1_ := mk_ (Kd.V_below (Kd.V_elderB (vv_ HO0_1) gb293 (Nat.le_of_eq hg.symm)) hb); have n2_ := mk_ (below_step (bb_ HB) hb); have n3_ := mk_ (hbox); have n4_ := mk_ (bz_ hg (bb_ HB)); have n5_ := mk_ (bz_ hg (bb_ HB)); clear HO0_0 HO0_1 HB; revert n0_ n1_ n2_ n3_ n4_ n5_; intro HO0_0 HO0_1 HB BK293 GW293 GE293; clear hb hbox hg) | ((with_reducible refine gate_dst (N := 6) rfl ?_); refine box_event ?hg (N := 6) ?hd (cs := #[.slice none 0 0, .slice none 0 0]) (t := 25) ?hr ?_; (case hd => rfl); (case hg => rfl); (case hr => first | (go_simp; done) | (go_simp; rfl)); intro gb294 hg w160 hbox hb; have n0_ := mk_ (Kd.V_below (Kd.V_elderB (vv_ HO0_0) gb294 (Nat.le_of_eq hg.symm)) hb); have n1_ := mk_ (Kd.V_below (Kd.V_elderB (vv_ HO0_1) gb294 (Nat.le_of_eq hg.symm)) hb); have n2_ := mk_ (blk_below (kk_ BK293) hb); have n3_ := mk_ (below_step (bs_ HB GE293.out) hb); have n4_ := mk_ (hbox); have n5_ := mk_ (bz_ hg (bs_ HB GE293.out)); have n6_ := mk_ (bz_ hg (bs_ HB GE293.out)); have n7_ := mk_ (bl_ hg (kk_ BK293)); have n8_ := mk_ (bg_ hg (kk_ BK293)); clear HO0_0 HO0_1 BK293 HB; revert n0_ n1_ n2_ n3_ n4_ n5_ n6_ n7_ n8_; intro HO0_0 HO0_1 BK293 HB BK294 GW294 GE294 NB293_294 NB294_293; clear hb hbox hg; have hnb161 := NB293_294.out; have hnc161 := NB294_293.out; have hcz162_0 := bc0_ BK293.out; have hcz162_1 := bc1_ BK293.out; have hfz162_0 := blk_frozen BK293.out 0; have hfz162_1 := blk_frozen BK293.out 1) | ((with_reducible refine gate_callee (f := 25) rfl ?_); refine gl_ (some 21) Try.func25 #[.agg #[.slice A0_0 l0_0.length c0_0, .slice A0_1 l0_1.length c0_1]] ?_; (with_reducible refine (cohousingref23_Valid.calls k _ _ l0_0 _ _ l0_1 false _ ?side1 ?side2 ?side3 ?side4 A4.out).mono ?_); (case side1 => exact cc_ ((Kd.V_reads' HO0_0.out).2.2)); (case side2 => exact (Kd.V_reads' HO0_0.out).2.1); (case side3 => exact cc_ ((Kd.V_reads' HO0_1.out).2.2)); (case side4 => exact (Kd.V_reads' HO0_1.out).2.1); rintro e w163 ⟨rfl, hb⟩; refine ⟨_, rfl, ?_⟩; have n0_ := mk_ (Kd.V_below (vv_ HO0_0) hb); have n1_ := mk_ (Kd.V_below (vv_ HO0_1) hb); have n2_ := mk_ (blk_below (kk_ BK293) hb); have n3_ := mk_ (blk_below (kk_ BK294) hb); have n4_ := mk_ (below_step (bs2_ HB GE293 GE294) hb); clear HO0_0 HO0_1 BK293 BK294 HB; revert n0_ n1_ n2_ n3_ n4_; intro HO0_0 HO0_1 BK293 BK294 HB; (try clear hb); (try clear hb2); (try clear hk); (try clear hi); have hcz164_0 := bc0_ BK294.out; have hcz164_1 := bc1_ BK294.out; have hfz164_0 := blk_frozen BK294.out 0; have hfz164_1 := blk_frozen BK294.out 1))
  refine bodyPost_ret (results_ct rfl _ _ gb294 25 #[.slice none 0 0, .slice none 0 0] (0, 0) _ rfl (by (with_reducible repeat (first | refine blk_drewN ?_ _ | refine blk_drew ?_ | refine blk_alloc ?_ _)); refine blk_put (cs := #[.slice none 0 0, .slice none 0 0]) ?_ 1 _ rfl; (with_reducible repeat (first | refine blk_drewN ?_ _ | refine blk_drew ?_ | refine blk_alloc ?_ _)); refine blk_put (cs := #[.slice none 0 0, .slice none 0 0]) ?_ 0 _ rfl; (with_reducible repeat (first | refine blk_drewN ?_ _ | refine blk_drew ?_ | refine blk_alloc ?_ _)); exact BK294.out) Try.underlying25 rfl (by kernel_rfl)) rfl ?_
  exact ⟨_, _, ew_, Kd.V_mono (Kd.R_V (by first | exact (Kd.R_nil _ _ _ w.heap.size (fun k_ => w.heap.size ≤ k_)) | exact Kd.R_nil _ _ _ _ _ | exact Kd.N_nil _ _ _ _ _ | exact Kd.V_nil _ _ _ _ _ | exact Kd.Q_nil _ _ _ _ _ | exact Kd.S_nil _ _ _ _ _)) (fun k_ hk => by first | exact ⟨.inr hk, by simp [Value.ownBlock]⟩ | exact ⟨(.inr (hk.1)), hk.2⟩ | exact (.inr (hk))), by first | exact Kd.S_nil _ _ _ _ _ | exact Kd.N_nil _ _ _ _ _ | exact Kd.V_nil _ _ _ _ _ | exact Kd.Q_nil _ _ _ _ _ | exact Kd.R_nil _ _ _ _ _, bs2_ HB GE293 GE294⟩
 subst c5
 have H1 : (if 0 ≤ (l0_1.length : Int) then (if ((l0_1.length : Int) : Int).toNat ≤ 35184372088832 then (if ((l0_1.length : Int) : Int).toNat ≤ 281474976710656 then (cohousingref26_Next.l0 k l1 l2 (List.replicate ((l0_1.length : Int) : Int).toNat 0) (List.replicate ((l0_1.length : Int) : Int).toNat false) 0 l0_0 l0_1) else (none)) else (none)) else (none)) = some (r1, r2, r3) := by rw [if_pos rfl] at H; exact H
 clear H
 have H := H1
 clear H1
 by_cases c6 : 0 ≤ (l0_1.length : Int)
 rotate_left
 ·rw [if_neg c6] at H
  exact absurd H (by simp)
 rw [if_pos c6] at H
 have c6b0 := eq_true c6
 have c6b1 : decide (0 ≤ (l0_1.length : Int)) = true := decide_eq_true c6
 clear c6
 by_cases c7 : ((l0_1.length : Int) : Int).toNat ≤ 35184372088832
 rotate_left
 ·rw [if_neg c7] at H
  exact absurd H (by simp)
 rw [if_pos c7] at H
 have c7b0 := eq_true c7
 have c7b1 : decide (((l0_1.length : Int) : Int).toNat ≤ 35184372088832) = true := decide_eq_true c7
 clear c7
 obtain ⟨y296, hy296⟩ : ∃ y_ : List Int, y_ = (List.replicate ((l0_1.length : Int) : Int).toNat 0) := ⟨_, rfl⟩
 replace H : (if ((l0_1.length : Int) : Int).toNat ≤ 281474976710656 then (cohousingref26_Next.l0 k l1 l2 y296 (List.replicate ((l0_1.length : Int) : Int).toNat false) 0 l0_0 l0_1) else (none)) = some (r1, r2, r3) := by first | (rw [hy296]; with_reducible exact H) | (have H2_ := (Option.bind_some _ _).symm.trans H; rw [hy296]; with_reducible exact H2_) | (have H2_ := (Option.bind_some _ _).symm.trans H; with_reducible exact H2_) | with_reducible exact H | (rw [hy296]; exact H) | exact H
 have Ny296 := mk_ hy296
 clear hy296
 by_cases c8 : ((l0_1.length : Int) : Int).toNat ≤ 281474976710656
 rotate_left
 ·rw [if_neg c8] at H
  exact absurd H (by simp)
 rw [if_pos c8] at H
 have c8b0 := eq_true c8
 have c8b1 : decide (((l0_1.length : Int) : Int).toNat ≤ 281474976710656) = true := decide_eq_true c8
 clear c8
 obtain ⟨y299, hy299⟩ : ∃ y_ : List Bool, y_ = (List.replicate ((l0_1.length : Int) : Int).toNat false) := ⟨_, rfl⟩
 replace H : (cohousingref26_Next.l0 k l1 l2 y296 y299 0 l0_0 l0_1) = some (r1, r2, r3) := by first | (rw [hy299]; with_reducible exact H) | (have H2_ := (Option.bind_some _ _).symm.trans H; rw [hy299]; with_reducible exact H2_) | (have H2_ := (Option.bind_some _ _).symm.trans H; with_reducible exact H2_) | with_reducible exact H | (rw [hy299]; exact H) | exact H
 have Ny299 := mk_ hy299
 clear hy299
 have H' := mk_ H
 clear H
 go_enter Try.func16, Try.ntmps16
 go_wp2_with (first | ((with_reducible refine gate_dst (N := 3) rfl ?_); refine box_event ?hg (N := 3) ?hd (cs := #[.slice A0_0 l0_0.length c0_0, .slice A0_1 l0_1.length c0_1]) (t := 25) ?hr ?_; (case hd => rfl); (case hg => rfl); (case hr => first | (go_simp; done) | (go_simp; rfl)); intro gb293 hg w9 hbox hb; have n0_ := mk_ (Kd.V_below (Kd.V_elderB (vv_ HO0_0) gb293 (Nat.le_of_eq hg.symm)) hb); have n1_ := mk_ (Kd.V_below (Kd.V_elderB (vv_ HO0_1) gb293 (Nat.le_of_eq hg.symm)) hb); have n2_ := mk_ (below_step (bb_ HB) hb); have n3_ := mk_ (hbox); have n4_ := mk_ (bz_ hg (bb_ HB)); have n5_ := mk_ (bz_ hg (bb_ HB)); clear HO0_0 HO0_1 HB; revert n0_ n1_ n2_ n3_ n4_ n5_; intro HO0_0 HO0_1 HB BK293 GW293 GE293; clear hb hbox hg) | ((with_reducible refine gate_dst (N := 6) rfl ?_); refine box_event ?hg (N := 6) ?hd (cs := #[.slice none 0 0, .slice none 0 0]) (t := 25) ?hr ?_; (case hd => rfl); (case hg => rfl); (case hr => first | (go_simp; done) | (go_simp; rfl)); intro gb294 hg w10 hbox hb; have n0_ := mk_ (Kd.V_below (Kd.V_elderB (vv_ HO0_0) gb294 (Nat.le_of_eq hg.symm)) hb); have n1_ := mk_ (Kd.V_below (Kd.V_elderB (vv_ HO0_1) gb294 (Nat.le_of_eq hg.symm)) hb); have n2_ := mk_ (blk_below (kk_ BK293) hb); have n3_ := mk_ (below_step (bs_ HB GE293.out) hb); have n4_ := mk_ (hbox); have n5_ := mk_ (bz_ hg (bs_ HB GE293.out)); have n6_ := mk_ (bz_ hg (bs_ HB GE293.out)); have n7_ := mk_ (bl_ hg (kk_ BK293)); have n8_ := mk_ (bg_ hg (kk_ BK293)); clear HO0_0 HO0_1 BK293 HB; revert n0_ n1_ n2_ n3_ n4_ n5_ n6_ n7_ n8_; intro HO0_0 HO0_1 BK293 HB BK294 GW294 GE294 NB293_294 NB294_293; clear hb hbox hg; have hnb11 := NB293_294.out; have hnc11 := NB294_293.out; have hcz12_0 := bc0_ BK293.out; have hcz12_1 := bc1_ BK293.out; have hfz12_0 := blk_frozen BK293.out 0; have hfz12_1 := blk_frozen BK293.out 1) | ((with_reducible refine gate_callee (f := 25) rfl ?_); refine gl_ (some 21) Try.func25 #[.agg #[.slice A0_0 l0_0.length c0_0, .slice A0_1 l0_1.length c0_1]] ?_; (with_reducible refine (cohousingref23_Valid.calls k _ _ l0_0 _ _ l0_1 true _ ?side1 ?side2 ?side3 ?side4 A4.out).mono ?_); (case side1 => exact cc_ ((Kd.V_reads' HO0_0.out).2.2)); (case side2 => exact (Kd.V_reads' HO0_0.out).2.1); (case side3 => exact cc_ ((Kd.V_reads' HO0_1.out).2.2)); (case side4 => exact (Kd.V_reads' HO0_1.out).2.1); rintro e w13 ⟨rfl, hb⟩; refine ⟨_, rfl, ?_⟩; have n0_ := mk_ (Kd.V_below (vv_ HO0_0) hb); have n1_ := mk_ (Kd.V_below (vv_ HO0_1) hb); have n2_ := mk_ (blk_below (kk_ BK293) hb); have n3_ := mk_ (blk_below (kk_ BK294) hb); have n4_ := mk_ (below_step (bs2_ HB GE293 GE294) hb); clear HO0_0 HO0_1 BK293 BK294 HB; revert n0_ n1_ n2_ n3_ n4_; intro HO0_0 HO0_1 BK293 BK294 HB; (try clear hb); (try clear hb2); (try clear hk); (try clear hi); have hcz14_0 := bc0_ BK293.out; have hcz14_1 := bc1_ BK293.out; have hfz14_0 := blk_frozen BK293.out 0; have hfz14_1 := blk_frozen BK293.out 1) | ((with_reducible refine gate_dst (N := 28) rfl ?_); refine Kd.R_make (Kd.int .i64) _ 3 rfl (N := 28) rfl 29 _ _ rfl (l0_1.length : Int) rfl rfl Try.underlying29 (.int .i64 0) 8 info3 rfl (by decide) (by omega) 0 (ok := fun _ => True) (okp := fun _ => True) rfl (fun _ hk => hk) trivial (od_) (Nat.le_trans (Nat.mul_le_mul_right _ (od_ : (l0_1.length : Int).toNat ≤ 35184372088832)) (by omega)) (Below.refl _ _) (Nat.le_refl _) ?_; intro v297 w15 ho16 hb hg_ hnew_; clear hg_ hnew_; (first | rw [← Ny296.out] at ho16 | (simp only [Int.reduceToNat] at ho16; rw [← Ny296.out] at ho16)); have n0_ := mk_ (Kd.V_elder' (vv_ HO0_0) (Kd.R_base ho16) hb); have n1_ := mk_ (Kd.V_elder' (vv_ HO0_1) (Kd.R_base ho16) hb); have n2_ := mk_ (Kd.R_lower (Kd.R_newM (M := fun k_ => (w.heap.size ≤ k_)) ho16 (below_size (bs2_ HB GE293 GE294)) (fun k_ h_ => h_)) (below_size (bs2_ HB GE293 GE294))); have n3_ := mk_ (blk_below (kk_ BK293) hb); have n4_ := mk_ (blk_below (kk_ BK294) hb); have n5_ := mk_ (below_step (bs2_ HB GE293 GE294) hb); clear HO0_0 HO0_1 BK293 BK294 HB; revert n0_ n1_ n2_ n3_ n4_ n5_; intro HO0_0 HO0_1 HO298 BK293 BK294 HB; clear hb ho16; have hcz17_0 := bc0_ BK293.out; have hcz17_1 := bc1_ BK293.out; have hfz17_0 := blk_frozen BK293.out 0; have hfz17_1 := blk_frozen BK293.out 1) | ((with_reducible refine gate_dst (N := 32) rfl ?_); refine Kd.R_make Kd.bool _ 4 rfl (N := 32) rfl 87 _ _ rfl (l0_1.length : Int) rfl rfl Try.underlying87 (.bool false) 1 info4 rfl (by decide) (by omega) false (ok := fun _ => True) (okp := fun _ => True) rfl (fun _ hk => hk) trivial (od_) (Nat.le_trans (Nat.mul_le_mul_right _ (od_ : (l0_1.length : Int).toNat ≤ 281474976710656)) (by omega)) (Below.refl _ _) (Nat.le_refl _) ?_; intro v300 w18 ho19 hb hg_ hnew_; clear hg_ hnew_; (first | rw [← Ny299.out] at ho19 | (simp only [Int.reduceToNat] at ho19; rw [← Ny299.out] at ho19)); have n0_ := mk_ (Kd.V_elder' (vv_ HO0_0) (Kd.R_base ho19) hb); have n1_ := mk_ (Kd.V_elder' (vv_ HO0_1) (Kd.R_base ho19) hb); have n2_ := mk_ (Kd.R_below (rr_ HO298) hb); have n3_ := mk_ (Kd.R_lower (Kd.R_newM (M := fun k_ => (w.heap.size ≤ k_)) ho19 (below_size (bs2_ HB GE293 GE294)) (fun k_ h_ => h_)) (below_size (bs2_ HB GE293 GE294))); have n4_ := mk_ (blk_below (kk_ BK293) hb); have n5_ := mk_ (blk_below (kk_ BK294) hb); have n6_ := mk_ (below_step (bs2_ HB GE293 GE294) hb); clear HO0_0 HO0_1 HO298 BK293 BK294 HB; revert n0_ n1_ n2_ n3_ n4_ n5_ n6_; intro HO0_0 HO0_1 HO298 HO301 BK293 BK294 HB; clear hb ho19))
 go_loopg [11] k (fun kq v11 w' => ∃ (x9_1 : List Int) (x11_1 : Int), v11 = .int .i64 x11_1 ∧ Aside0 (cohousingref26_Next.l0 kq l1 l2 x9_1 y299 x11_1 l0_0 l0_1 = some (r1, r2, r3)) ∧ Aside0 (kq ≤ k) ∧ Aside0 (Kd.R (Kd.int .i64) 3 w' w.heap.size (fun k_ => (w.heap.size ≤ k_)) v297 x9_1) ∧ Aside0 (Kd.R Kd.bool 4 w' w.heap.size (fun k_ => (w.heap.size ≤ k_)) v300 y299) ∧ Aside0 (Kd.V k84 84 w' w.heap.size (fun k_ => ((P0_0_ k_ ∨ P0_1_ k_) ∨ w.heap.size ≤ k_) ∧ some k_ ≠ (v297 : Value).ownBlock ∧ some k_ ≠ (v300 : Value).ownBlock ∧ k_ ≠ gb293 ∧ k_ ≠ gb294) (.slice A0_0 l0_0.length c0_0) l0_0) ∧ Aside0 (Kd.V k46 46 w' w.heap.size (fun k_ => ((P0_0_ k_ ∨ P0_1_ k_) ∨ w.heap.size ≤ k_) ∧ some k_ ≠ (v297 : Value).ownBlock ∧ some k_ ≠ (v300 : Value).ownBlock ∧ k_ ≠ gb293 ∧ k_ ≠ gb294) (.slice A0_1 l0_1.length c0_1) l0_1) ∧ Aside0 (w'.heap[gb293]? = some (.cells #[(.slice A0_0 l0_0.length c0_0), (.slice A0_1 l0_1.length c0_1)] 25 (0, 0))) ∧ Aside0 (w'.heap[gb294]? = some (.cells #[(.slice none 0 0), (.slice none 0 0)] 25 (0, 0))) ∧ Aside0 (Below w.heap.size w w'))
 case atStart => exact ⟨(y296), (0), sd_, H', ⟨Nat.le_refl _⟩, ⟨by (with_reducible repeat (first | apply Kd.R_alloc | apply Kd.R_drewN | apply Kd.R_drew)); exact Kd.R_mono HO298.out (fun _ hk => hk.1)⟩, ⟨by (with_reducible repeat (first | apply Kd.R_alloc | apply Kd.R_drewN | apply Kd.R_drew)); exact Kd.R_mono HO301.out (fun _ hk => hk.1)⟩, ⟨vm_ HO0_0⟩, ⟨vm_ HO0_1⟩, ⟨kk_ BK293⟩, ⟨kk_ BK294⟩, ⟨bs2_ HB GE293 GE294⟩⟩
 case round =>
  clear H'
  try clear c1; try clear c2; try clear p2; try clear c5; try clear c6; try clear c6b0; try clear c6b1; try clear c7; try clear c7b0; try clear c7b1; try clear c8; try clear c8b0; try clear c8b1; try clear c11; try clear c16; try clear hcz12_0; try clear hcz12_1; try clear hcz14_0; try clear hcz14_1; try clear hcz17_0; try clear hcz17_1; try clear hfz12_0; try clear hfz12_1; try clear hfz14_0; try clear hfz14_1; try clear hfz17_0; try clear hfz17_1
  obtain ⟨x9_1, x11_1, rfl, HA, HK1, HO_9, HO_10, HO_294000, HO_294001, BK293, BK294, HB⟩ := hrel
  cases gk with
  | zero => exact absurd HA.out (by simp [cohousingref26_Next.l0])
  | succ k1 =>
   have H := HA.out
   clear HA
   simp only [cohousingref26_Next.l0] at H
   by_cases c20 : x11_1 < (l0_1.length : Int)
   ·rw [if_pos c20] at H
    have c20b0 : decide (x11_1 < (l0_1.length : Int)) = true := decide_eq_true c20
    clear c20
    by_cases c21 : 0 ≤ x11_1
    rotate_left
    ·rw [if_neg c21] at H
     exact absurd H (by simp)
    rw [if_pos c21] at H
    have c21b0 : decide (0 ≤ x11_1) = true := decide_eq_true c21
    clear c21
    by_cases c22 : x11_1 < (x9_1.length : Int)
    rotate_left
    ·rw [if_neg c22] at H
     exact absurd H (by simp)
    rw [if_pos c22] at H
    have c22b0 : decide (x11_1 < (x9_1.length : Int)) = true := decide_eq_true c22
    clear c22
    obtain ⟨y303, hy303⟩ : ∃ y_ : List Int, y_ = (x9_1.set (x11_1 : Int).toNat ((rd_T46 l0_1 x11_1).f1)) := ⟨_, rfl⟩
    replace H : (cohousingref26_Next.l0 k1 l1 l2 y303 y299 (wrap64 (x11_1 + 1)) l0_0 l0_1) = some (r1, r2, r3) := by first | (rw [hy303]; with_reducible exact H) | (have H2_ := (Option.bind_some _ _).symm.trans H; rw [hy303]; with_reducible exact H2_) | (have H2_ := (Option.bind_some _ _).symm.trans H; with_reducible exact H2_) | with_reducible exact H | (rw [hy303]; exact H) | exact H
    have Ny303 := mk_ hy303
    clear hy303
    have H' := mk_ H
    clear H
    have hnb24 := NB293_294.out
    have hnc24 := NB294_293.out
    have hcz25_0 := bc0_ BK293.out
    have hcz25_1 := bc1_ BK293.out
    have hfz25_0 := blk_frozen BK293.out 0
    have hfz25_1 := blk_frozen BK293.out 1
    have p302 : 0 ≤ (x11_1 : Int) := od_
    have q302 : x11_1 < (l0_1.length : Int) := od_
    obtain ⟨ad302, A302_2, c302_2, e302, hx302_0, hx302_1, hx302_2, hl302_2, hi302_2⟩ := at_T46 (Kd.V_reads' HO_294001.out).2.2 x11_1 p302 q302
    cases e302
    obtain ⟨ce302, hce302, hMe302, hcc302⟩ := Kd.V_get HO_294001.out z46 x11_1 p302 (by first | exact q302 | exact od_ | (have e_ := (Kd.V_reads' HO_294001.out).1; omega))
    obtain ⟨ua302_2, uc302_2, rfl, ul302_2, ge302_2⟩ := k46_openF hMe302
    have hv302_2 := hcc302 2 _ rfl
    rw [add_field _ _ 2 (by omega)] at hv302_2
    replace hv302_2 := Option.some.inj (hv302_2.symm.trans hx302_2)
    injection hv302_2 with hva_ hvn_ hvc_
    rw [hva_] at ge302_2
    rw [hvc_] at ul302_2
    have HL302_2 := mk_ (show Kd.V (Kd.int .i64) 3 _ w.heap.size _ _ ((rd_T46 l0_1 x11_1).f2) from Kd.V_mk ul302_2 ge302_2)
    clear hva_ hvn_ hvc_ ge302_2 ul302_2
    clear hcc302 hce302
    have HR302_2 := mk_ hi302_2
    have HC302_2 := mk_ hl302_2
    clear hi302_2 hl302_2
    replace p302 := eq_true p302
    replace q302 := eq_true q302
    have p23 : 0 ≤ (x11_1 : Int) := od_
    have q23 : (x11_1 : Int) < ((x9_1.length : Int) : Int) := od_
    obtain ⟨go23, co23, eo23, gb23, gl23, cl23, HG23⟩ := Kd.R_form HO_9.out (by omega)
    (first | cases eo23 | (injection eo23 with ea_ en_ ec_; (first | subst ea_ | (injection ea_ with ea_; subst ea_)); subst ec_; clear en_))
    have GB23 := mk_ gb23
    have GG23 := mk_ HG23
    clear gb23 gl23 HG23
    obtain ⟨hx23_0, hf23_0⟩ := Kd.R_celln 0 HO_9.out (x11_1 : Int) p23 q23
    replace p23 := eq_true p23
    replace q23 := eq_true q23
    have HP26 := Kd.R_putg HO_9.out (x11_1 : Int) ((rd_T46 l0_1 x11_1).f1)
    go_wp2_with (first | ((with_reducible refine gate_store (t := 3) (p := 48) rfl ?_); refine store_event (t := 3) (p := 48) (v := ?vo_w27) (w1 := (wr.setCell ⟨go23, (x11_1 : Int).toNat, none⟩ (.int .i64 ((rd_T46 l0_1 x11_1).f1)))) ?hg ?ho ?hn ?hr ?_; (case ho => rfl); (case hg => rfl); (case hn => rfl); (case hr => first | (go_simp; done) | (go_simp; rfl)); intro w27 hw; have hg : wr.grownBy w27 (some go23) := (by rw [hw]; exact HP26.2); have hp_ : Kd.R (Kd.int .i64) 3 w27 w.heap.size (fun k_ => (w.heap.size ≤ k_)) (.slice (some ⟨go23, 0, none⟩) x9_1.length co23) y303 := (by rw [hw, Ny303.out]; exact HP26.1); clear HP26; have n0_ := mk_ (hp_); have n1_ := mk_ (Kd.R_over' (v := (.slice (some ⟨go23, 0, none⟩) x9_1.length co23)) (rr_ HO_10) (Kd.R_typed HO_9.out) (by decide) hg); have n2_ := mk_ (Kd.V_afterv (v := (.slice (some ⟨go23, 0, none⟩) x9_1.length co23)) (v1 := (.slice (some ⟨go23, 0, none⟩) x9_1.length co23)) (ok := (fun k_ => ((P0_0_ k_ ∨ P0_1_ k_) ∨ w.heap.size ≤ k_) ∧ some k_ ≠ (v300 : Value).ownBlock ∧ k_ ≠ gb293 ∧ k_ ≠ gb294)) (vm_ HO_294000) hg (.inl rfl)); have n3_ := mk_ (Kd.V_afterv (v := (.slice (some ⟨go23, 0, none⟩) x9_1.length co23)) (v1 := (.slice (some ⟨go23, 0, none⟩) x9_1.length co23)) (ok := (fun k_ => ((P0_0_ k_ ∨ P0_1_ k_) ∨ w.heap.size ≤ k_) ∧ some k_ ≠ (v300 : Value).ownBlock ∧ k_ ≠ gb293 ∧ k_ ≠ gb294)) (vm_ HO_294001) hg (.inl rfl)); have n4_ := mk_ (blk_grown (kk_ BK293) hg (Kd.R_ne HO_9.out BK293.out (by decide))); have n5_ := mk_ (blk_grown (kk_ BK294) hg (Kd.R_ne HO_9.out BK294.out (by decide))); have n6_ := mk_ (Kd.V_afterv (v := (.slice (some ⟨go23, 0, none⟩) x9_1.length co23)) (v1 := (.slice (some ⟨go23, 0, none⟩) x9_1.length co23)) (ok := (fun k_ => ((P0_0_ k_ ∨ P0_1_ k_) ∨ w.heap.size ≤ k_) ∧ some k_ ≠ (v300 : Value).ownBlock ∧ k_ ≠ gb293 ∧ k_ ≠ gb294)) (vm_ HL302_2) hg (.inl rfl)); have n7_ := mk_ ((by rw [hw]; exact below_set (HB.out) GB23.out : Below w.heap.size w w27)); clear HO_9 HO_10 HO_294000 HO_294001 BK293 BK294 HL302_2 HB; revert n0_ n1_ n2_ n3_ n4_ n5_ n6_ n7_; intro HO_9 HO_10 HO_294000 HO_294001 BK293 BK294 HL302_2 HB; clear hg hw hp_))
    go_roundg k1
    case measure => have := HK1.out; omega
    case rel => exact ⟨(y303), (wrap64 (x11_1 + 1)), sd_, H', ⟨by have := HK1.out; omega⟩, ⟨rr_ HO_9⟩, ⟨rr_ HO_10⟩, ⟨vm_ HO_294000⟩, ⟨vm_ HO_294001⟩, ⟨kk_ BK293⟩, ⟨kk_ BK294⟩, ⟨bs2_ HB GE293 GE294⟩⟩
   rw [if_neg c20] at H
   have c20b0 : decide (x11_1 < (l0_1.length : Int)) = false := decide_eq_false c20
   clear c20
   have H' := mk_ H
   clear H
   have hnb28 := NB293_294.out
   have hnc28 := NB294_293.out
   have hcz29_0 := bc0_ BK293.out
   have hcz29_1 := bc1_ BK293.out
   have hfz29_0 := blk_frozen BK293.out 0
   have hfz29_1 := blk_frozen BK293.out 1
   go_wp2
   go_loopg [12] k1 (fun kq v12 w' => ∃ (x9_2 : List Int) (x10_2 : List Bool) (x12_2 : Int), v12 = .int .i64 x12_2 ∧ Aside0 (cohousingref26_Next.l1 kq l1 l2 x9_2 x10_2 x12_2 l0_0 l0_1 = some (r1, r2, r3)) ∧ Aside0 (kq ≤ k1) ∧ Aside0 (Kd.R (Kd.int .i64) 3 w' w.heap.size (fun k_ => (w.heap.size ≤ k_)) v297 x9_2) ∧ Aside0 (Kd.R Kd.bool 4 w' w.heap.size (fun k_ => (w.heap.size ≤ k_)) v300 x10_2) ∧ Aside0 (Kd.V k84 84 w' w.heap.size (fun k_ => ((P0_0_ k_ ∨ P0_1_ k_) ∨ w.heap.size ≤ k_) ∧ some k_ ≠ (v297 : Value).ownBlock ∧ some k_ ≠ (v300 : Value).ownBlock ∧ k_ ≠ gb293 ∧ k_ ≠ gb294) (.slice A0_0 l0_0.length c0_0) l0_0) ∧ Aside0 (Kd.V k46 46 w' w.heap.size (fun k_ => ((P0_0_ k_ ∨ P0_1_ k_) ∨ w.heap.size ≤ k_) ∧ some k_ ≠ (v297 : Value).ownBlock ∧ some k_ ≠ (v300 : Value).ownBlock ∧ k_ ≠ gb293 ∧ k_ ≠ gb294) (.slice A0_1 l0_1.length c0_1) l0_1) ∧ Aside0 (w'.heap[gb293]? = some (.cells #[(.slice A0_0 l0_0.length c0_0), (.slice A0_1 l0_1.length c0_1)] 25 (0, 0))) ∧ Aside0 (w'.heap[gb294]? = some (.cells #[(.slice none 0 0), (.slice none 0 0)] 25 (0, 0))) ∧ Aside0 (Below w.heap.size w w'))
   case atStart => exact ⟨(x9_1), (y299), (0), sd_, H', ⟨Nat.le_refl _⟩, ⟨rr_ HO_9⟩, ⟨rr_ HO_10⟩, ⟨vv_ HO_294000⟩, ⟨vv_ HO_294001⟩, ⟨kk_ BK293⟩, ⟨kk_ BK294⟩, ⟨bs2_ HB GE293 GE294⟩⟩
   case round =>
    clear H'
    try clear c1; try clear c2; try clear p2; try clear q2; try clear hx2; try clear c3; try clear p3; try clear q3; try clear hx3; try clear c5; try clear c6; try clear c6b0; try clear c6b1; try clear p6; try clear c7; try clear c7b0; try clear c7b1; try clear c8; try clear c8b0; try clear c8b1; try clear c11; try clear c16; try clear c20; try clear c20b0; try clear c21; try clear c21b0; try clear c22; try clear c22b0; try clear p23; try clear q23; try clear hx23; try clear hf23; try clear c24; try clear c25; try clear c28; try clear hcz12_0; try clear hcz12_1; try clear hcz14_0; try clear hcz14_1; try clear hcz17_0; try clear hcz17_1; try clear hcz25_0; try clear hcz25_1; try clear hcz29_0; try clear hcz29_1; try clear hfz12_0; try clear hfz12_1; try clear hfz14_0; try clear hfz14_1; try clear hfz17_0; try clear hfz17_1; try clear hfz25_0; try clear hfz25_1; try clear hfz29_0; try clear hfz29_1; try clear hx23_0; try clear hx302_0; try clear hx302_1; try clear hx302_2; try clear p2; try clear p23; try clear p302; try clear q23; try clear q302
    obtain ⟨x9_2, x10_2, x12_2, rfl, HA, HK2, HO_9, HO_10, HO_294000, HO_294001, BK293, BK294, HB⟩ := hrel
    cases gk with
    | zero => exact absurd HA.out (by simp [cohousingref26_Next.l1])
    | succ k2 =>
     have H := HA.out
     clear HA
     simp only [cohousingref26_Next.l1] at H
     by_cases c30 : x12_2 < (l1.length : Int)
     ·rw [if_pos c30] at H
      have c30b0 : decide (x12_2 < (l1.length : Int)) = true := decide_eq_true c30
      clear c30
      by_cases c31 : 0 ≤ x12_2
      rotate_left
      ·rw [if_neg c31] at H
       exact absurd H (by simp)
      rw [if_pos c31] at H
      have c31b0 : decide (0 ≤ x12_2) = true := decide_eq_true c31
      clear c31
      replace H := Option.bind_eq_some_iff.mp H
      obtain ⟨t305, A320, H⟩ := H
      replace H : (if t305 = true then ((cohousingref26_Party.f k2 l0_0 l0_1 ((rd_T51 l1 x12_2).f0)).bind fun t307 => (if 0 ≤ t307 then (if t307 < (x10_2.length : Int) then (if rdOf false x10_2 t307 = true then (some (([] : List (S84)), ([] : List (S46)), 1)) else (if t307 < (x9_2.length : Int) then (cohousingref26_Next.l1 k2 l1 l2 (x9_2.set (t307 : Int).toNat ((rd_T51 l1 x12_2).f2)) (x10_2.set (t307 : Int).toNat true) (wrap64 (x12_2 + 1)) l0_0 l0_1) else (none))) else (none)) else (none))) else (some (([] : List (S84)), ([] : List (S46)), 1))) = some (r1, r2, r3) := H
      have A32 := mk_ A320
      clear A320
      by_cases c33 : t305 = true
      rotate_left
      ·replace c33 := Bool.eq_false_iff.mpr c33
       subst c33
       have H1 : (some (([] : List (S84)), ([] : List (S46)), 1)) = some (r1, r2, r3) := by rw [if_neg (show ¬ (false = true) by decide)] at H; exact H
       clear H
       have H := H1
       clear H1
       simp only [Option.some.injEq, Prod.mk.injEq] at H
       obtain ⟨rfl, rfl, rfl⟩ := H
       try go_wp2
       have n0_ := mk_ (Kd.R_drew HO_9.out)
       have n1_ := mk_ (Kd.R_drew HO_10.out)
       have n2_ := mk_ (Kd.V_drew HO_294000.out)
       have n3_ := mk_ (Kd.V_drew HO_294001.out)
       have n4_ := mk_ (blk_drew BK293.out)
       have n5_ := mk_ (blk_drew BK294.out)
       have n6_ := mk_ (below_drew1 HB.out)
       clear HO_9
       clear HO_10
       clear HO_294000
       clear HO_294001
       clear BK293
       clear BK294
       clear HB
       have HO_9 := n0_
       have HO_10 := n1_
       have HO_294000 := n2_
       have HO_294001 := n3_
       have BK293 := n4_
       have BK294 := n5_
       have HB := n6_
       clear n0_ n1_ n2_ n3_ n4_ n5_ n6_
       have p304 : 0 ≤ (x12_2 : Int) := od_
       have q304 : x12_2 < (l1.length : Int) := od_
       obtain ⟨ad304, e304, hx304_0, hx304_1, hx304_2⟩ := at_T51 HR1.out x12_2 p304 q304
       have hw304_2 := hx304_2
       have hw304_1 := hx304_1
       have hw304_0 := hx304_0
       cases e304
       replace hx304_0 := cb_ HB hx304_0
       replace hx304_1 := cb_ HB hx304_1
       replace hx304_2 := cb_ HB hx304_2
       replace p304 := eq_true p304
       replace q304 := eq_true q304
       refine start_ (n := 7) (S := fun w' => w'.cell? ⟨gb293, 0, none⟩ = some (.slice A0_0 l0_0.length c0_0) ∧ w'.cell? ⟨gb293, 1, none⟩ = some (.slice A0_1 l0_1.length c0_1) ∧ w'.cell? (ad304.add ((x12_2).toNat * 3)) = some (.int .i64 ((rd_T51 l1 x12_2).f0)) ∧ w'.cell? ⟨(ad304.add ((x12_2).toNat * 3)).block, (ad304.add ((x12_2).toNat * 3)).off + 1, none⟩ = some (.int .i64 ((rd_T51 l1 x12_2).f1)) ∧ w'.cell? ⟨(ad304.add ((x12_2).toNat * 3)).block, (ad304.add ((x12_2).toNat * 3)).off + 2, none⟩ = some (.int .i64 ((rd_T51 l1 x12_2).f2))) (ds := []) #[n_, n_, n_, n_, n_, n_, n_] (by kernel_rfl) rfl rfl ⟨(blk_cell BK293.out 0).trans rfl, (blk_cell BK293.out 1).trans rfl, (cb_ HB hw304_0), (cb_ HB hw304_1), (cb_ HB hw304_2)⟩ (fun hHeld => ?_)
       generalize wr.drew = w58 at HO_9 HO_10 HO_294000 HO_294001 BK293 BK294 HB hx304_0 hx304_1 hx304_2 hHeld ⊢
       refine pv_ 1 56 (w_ 7 2) rfl ?_
       refine pv_ 2 57 (w_ 7 6) rfl ?_
       refine pv_ 3 58 (w_ 7 14) rfl ?_
       refine tb_ 0 55 (w_ 7 15) rfl hHeld (by rintro w' ⟨s0, s1, s2, s3, s4⟩; go_simp; with_reducible rfl) ?_
       refine tb_ 4 59 (w_ 7 31) rfl hHeld (by rintro w' ⟨s0, s1, s2, s3, s4⟩; go_simp; with_reducible rfl) ?_
       refine one_ (i := 5) (N := some 60) (w_ 7 63) rfl rfl (by kernel_rfl) (by decide) (fun K hK => ?_)
       refine goes_ Try.func41 (by kernel_rfl) rfl #[.agg #[.slice A0_0 l0_0.length c0_0, .slice A0_1 l0_1.length c0_1], .agg #[.int .i64 ((rd_T51 l1 x12_2).f0), .int .i64 ((rd_T51 l1 x12_2).f1), .int .i64 ((rd_T51 l1 x12_2).f2)]] (by rfl) rfl rfl (by (try simp only [List.map_toArray, List.map_cons, List.map_nil]); first | done | rfl | (simp only [List.length_drop, List.length_take]; rfl)) ?_
       with_reducible refine (cohousingref26_move.calls k2 _ _ l0_0 _ _ l0_1 ((rd_T51 l1 x12_2).f0) ((rd_T51 l1 x12_2).f1) ((rd_T51 l1 x12_2).f2) false _ ?side1 ?side2 ?side3 ?side4 A32.out).mono ?_
       (case side1 => exact cc_ ((Kd.V_reads' HO_294000.out).2.2))
       (case side2 => exact (Kd.V_reads' HO_294000.out).2.1)
       (case side3 => exact cc_ ((Kd.V_reads' HO_294001.out).2.2))
       (case side4 => exact (Kd.V_reads' HO_294001.out).2.1)
       rintro e w59 ⟨rfl, hb⟩
       refine ⟨_, rfl, ?_⟩
       have n0_ := mk_ (Kd.R_below (rr_ HO_9) hb)
       have n1_ := mk_ (Kd.R_below (rr_ HO_10) hb)
       have n2_ := mk_ (Kd.V_below (vv_ HO_294000) hb)
       have n3_ := mk_ (Kd.V_below (vv_ HO_294001) hb)
       have n4_ := mk_ (blk_below (kk_ BK293) hb)
       have n5_ := mk_ (blk_below (kk_ BK294) hb)
       have n6_ := mk_ (below_step (bs2_ HB GE293 GE294) hb)
       clear HO_9
       clear HO_10
       clear HO_294000
       clear HO_294001
       clear BK293
       clear BK294
       clear HB
       have HO_9 := n0_
       have HO_10 := n1_
       have HO_294000 := n2_
       have HO_294001 := n3_
       have BK293 := n4_
       have BK294 := n5_
       have HB := n6_
       clear n0_ n1_ n2_ n3_ n4_ n5_ n6_
       (try clear hb)
       (try clear hb2)
       (try clear hk)
       (try clear hi)
       refine hK.out _ _ ⟨(blk_cell BK293.out 0).trans rfl, (blk_cell BK293.out 1).trans rfl, (cb_ HB hw304_0), (cb_ HB hw304_1), (cb_ HB hw304_2)⟩ (fun hHeld => ?_)
       clear hK K
       refine norm_ (a' := ?_) ?_ ?_
       rotate_left
       ·show Act.put _ (some 60) _ = _
        simp only [Act.put, sI_, s0_, sS_, i64_w, i32_w]
        rfl
       refine pv_ 6 13 (w_ 7 127) rfl ?_
       refine done_ (by kernel_rfl) ?_
       have hnb60 := NB294_293.out
       have hnc60 := NB293_294.out
       have hcz61_0 := bc0_ BK294.out
       have hcz61_1 := bc1_ BK294.out
       have hfz61_0 := blk_frozen BK294.out 0
       have hfz61_1 := blk_frozen BK294.out 1
       try go_wp2
       refine bodyPost_ret (results_ct rfl _ _ gb294 25 #[.slice none 0 0, .slice none 0 0] (0, 0) _ rfl (by (with_reducible repeat (first | refine blk_drewN ?_ _ | refine blk_drew ?_ | refine blk_alloc ?_ _)); refine blk_put (cs := #[.slice none 0 0, .slice none 0 0]) ?_ 1 _ rfl; (with_reducible repeat (first | refine blk_drewN ?_ _ | refine blk_drew ?_ | refine blk_alloc ?_ _)); refine blk_put (cs := #[.slice none 0 0, .slice none 0 0]) ?_ 0 _ rfl; (with_reducible repeat (first | refine blk_drewN ?_ _ | refine blk_drew ?_ | refine blk_alloc ?_ _)); exact BK294.out) Try.underlying25 rfl (by kernel_rfl)) rfl ?_
       exact ⟨_, _, ew_, Kd.V_mono (Kd.R_V (by first | exact (Kd.R_nil _ _ _ w.heap.size (fun k_ => w.heap.size ≤ k_)) | exact Kd.R_nil _ _ _ _ _ | exact Kd.N_nil _ _ _ _ _ | exact Kd.V_nil _ _ _ _ _ | exact Kd.Q_nil _ _ _ _ _ | exact Kd.S_nil _ _ _ _ _)) (fun k_ hk => by first | exact ⟨.inr hk, by simp [Value.ownBlock]⟩ | exact ⟨(.inr (hk.1)), hk.2⟩ | exact (.inr (hk))), by first | exact Kd.S_nil _ _ _ _ _ | exact Kd.N_nil _ _ _ _ _ | exact Kd.V_nil _ _ _ _ _ | exact Kd.Q_nil _ _ _ _ _ | exact Kd.R_nil _ _ _ _ _, bs2_ HB GE293 GE294⟩
      subst c33
      have H1 : ((cohousingref26_Party.f k2 l0_0 l0_1 ((rd_T51 l1 x12_2).f0)).bind fun t307 => (if 0 ≤ t307 then (if t307 < (x10_2.length : Int) then (if rdOf false x10_2 t307 = true then (some (([] : List (S84)), ([] : List (S46)), 1)) else (if t307 < (x9_2.length : Int) then (cohousingref26_Next.l1 k2 l1 l2 (x9_2.set (t307 : Int).toNat ((rd_T51 l1 x12_2).f2)) (x10_2.set (t307 : Int).toNat true) (wrap64 (x12_2 + 1)) l0_0 l0_1) else (none))) else (none)) else (none))) = some (r1, r2, r3) := by rw [if_pos rfl] at H; exact H
      clear H
      have H := H1
      clear H1
      replace H := Option.bind_eq_some_iff.mp H
      obtain ⟨t307, A340, H⟩ := H
      replace H : (if 0 ≤ t307 then (if t307 < (x10_2.length : Int) then (if rdOf false x10_2 t307 = true then (some (([] : List (S84)), ([] : List (S46)), 1)) else (if t307 < (x9_2.length : Int) then (cohousingref26_Next.l1 k2 l1 l2 (x9_2.set (t307 : Int).toNat ((rd_T51 l1 x12_2).f2)) (x10_2.set (t307 : Int).toNat true) (wrap64 (x12_2 + 1)) l0_0 l0_1) else (none))) else (none)) else (none)) = some (r1, r2, r3) := H
      have A34 := mk_ A340
      clear A340
      by_cases c35 : 0 ≤ t307
      rotate_left
      ·rw [if_neg c35] at H
       exact absurd H (by simp)
      rw [if_pos c35] at H
      have c35b0 : decide (0 ≤ t307) = true := decide_eq_true c35
      clear c35
      by_cases c36 : t307 < (x10_2.length : Int)
      rotate_left
      ·rw [if_neg c36] at H
       exact absurd H (by simp)
      rw [if_pos c36] at H
      have c36b0 : decide (t307 < (x10_2.length : Int)) = true := decide_eq_true c36
      clear c36
      obtain ⟨bq37, hbq37⟩ : ∃ b_ : Bool, b_ = (rdOf false x10_2 t307) := ⟨_, rfl⟩
      replace H : (if bq37 = true then (some (([] : List (S84)), ([] : List (S46)), 1)) else (if t307 < (x9_2.length : Int) then (cohousingref26_Next.l1 k2 l1 l2 (x9_2.set (t307 : Int).toNat ((rd_T51 l1 x12_2).f2)) (x10_2.set (t307 : Int).toNat true) (wrap64 (x12_2 + 1)) l0_0 l0_1) else (none))) = some (r1, r2, r3) := by rw [← hbq37] at H; exact H
      have Nbq37 := mk_ hbq37
      clear hbq37
      by_cases c38 : bq37 = true
      ·subst c38
       have H1 : (some (([] : List (S84)), ([] : List (S46)), 1)) = some (r1, r2, r3) := by rw [if_pos rfl] at H; exact H
       clear H
       have H := H1
       clear H1
       simp only [Option.some.injEq, Prod.mk.injEq] at H
       obtain ⟨rfl, rfl, rfl⟩ := H
       try go_wp2
       have n0_ := mk_ (Kd.R_drew HO_9.out)
       have n1_ := mk_ (Kd.R_drew HO_10.out)
       have n2_ := mk_ (Kd.V_drew HO_294000.out)
       have n3_ := mk_ (Kd.V_drew HO_294001.out)
       have n4_ := mk_ (blk_drew BK293.out)
       have n5_ := mk_ (blk_drew BK294.out)
       have n6_ := mk_ (below_drew1 HB.out)
       clear HO_9
       clear HO_10
       clear HO_294000
       clear HO_294001
       clear BK293
       clear BK294
       clear HB
       have HO_9 := n0_
       have HO_10 := n1_
       have HO_294000 := n2_
       have HO_294001 := n3_
       have BK293 := n4_
       have BK294 := n5_
       have HB := n6_
       clear n0_ n1_ n2_ n3_ n4_ n5_ n6_
       have p304 : 0 ≤ (x12_2 : Int) := od_
       have q304 : x12_2 < (l1.length : Int) := od_
       obtain ⟨ad304, e304, hx304_0, hx304_1, hx304_2⟩ := at_T51 HR1.out x12_2 p304 q304
       have hw304_2 := hx304_2
       have hw304_1 := hx304_1
       have hw304_0 := hx304_0
       cases e304
       replace hx304_0 := cb_ HB hx304_0
       replace hx304_1 := cb_ HB hx304_1
       replace hx304_2 := cb_ HB hx304_2
       replace p304 := eq_true p304
       replace q304 := eq_true q304
       refine start_ (n := 7) (S := fun w' => w'.cell? ⟨gb293, 0, none⟩ = some (.slice A0_0 l0_0.length c0_0) ∧ w'.cell? ⟨gb293, 1, none⟩ = some (.slice A0_1 l0_1.length c0_1) ∧ w'.cell? (ad304.add ((x12_2).toNat * 3)) = some (.int .i64 ((rd_T51 l1 x12_2).f0)) ∧ w'.cell? ⟨(ad304.add ((x12_2).toNat * 3)).block, (ad304.add ((x12_2).toNat * 3)).off + 1, none⟩ = some (.int .i64 ((rd_T51 l1 x12_2).f1)) ∧ w'.cell? ⟨(ad304.add ((x12_2).toNat * 3)).block, (ad304.add ((x12_2).toNat * 3)).off + 2, none⟩ = some (.int .i64 ((rd_T51 l1 x12_2).f2))) (ds := []) #[n_, n_, n_, n_, n_, n_, n_] (by kernel_rfl) rfl rfl ⟨(blk_cell BK293.out 0).trans rfl, (blk_cell BK293.out 1).trans rfl, (cb_ HB hw304_0), (cb_ HB hw304_1), (cb_ HB hw304_2)⟩ (fun hHeld => ?_)
       generalize wr.drew = w39 at HO_9 HO_10 HO_294000 HO_294001 BK293 BK294 HB hx304_0 hx304_1 hx304_2 hHeld ⊢
       refine pv_ 1 56 (w_ 7 2) rfl ?_
       refine pv_ 2 57 (w_ 7 6) rfl ?_
       refine pv_ 3 58 (w_ 7 14) rfl ?_
       refine tb_ 0 55 (w_ 7 15) rfl hHeld (by rintro w' ⟨s0, s1, s2, s3, s4⟩; go_simp; with_reducible rfl) ?_
       refine tb_ 4 59 (w_ 7 31) rfl hHeld (by rintro w' ⟨s0, s1, s2, s3, s4⟩; go_simp; with_reducible rfl) ?_
       refine one_ (i := 5) (N := some 60) (w_ 7 63) rfl rfl (by kernel_rfl) (by decide) (fun K hK => ?_)
       refine goes_ Try.func41 (by kernel_rfl) rfl #[.agg #[.slice A0_0 l0_0.length c0_0, .slice A0_1 l0_1.length c0_1], .agg #[.int .i64 ((rd_T51 l1 x12_2).f0), .int .i64 ((rd_T51 l1 x12_2).f1), .int .i64 ((rd_T51 l1 x12_2).f2)]] (by rfl) rfl rfl (by (try simp only [List.map_toArray, List.map_cons, List.map_nil]); first | done | rfl | (simp only [List.length_drop, List.length_take]; rfl)) ?_
       with_reducible refine (cohousingref26_move.calls k2 _ _ l0_0 _ _ l0_1 ((rd_T51 l1 x12_2).f0) ((rd_T51 l1 x12_2).f1) ((rd_T51 l1 x12_2).f2) true _ ?side1 ?side2 ?side3 ?side4 A32.out).mono ?_
       (case side1 => exact cc_ ((Kd.V_reads' HO_294000.out).2.2))
       (case side2 => exact (Kd.V_reads' HO_294000.out).2.1)
       (case side3 => exact cc_ ((Kd.V_reads' HO_294001.out).2.2))
       (case side4 => exact (Kd.V_reads' HO_294001.out).2.1)
       rintro e w40 ⟨rfl, hb⟩
       refine ⟨_, rfl, ?_⟩
       have n0_ := mk_ (Kd.R_below (rr_ HO_9) hb)
       have n1_ := mk_ (Kd.R_below (rr_ HO_10) hb)
       have n2_ := mk_ (Kd.V_below (vv_ HO_294000) hb)
       have n3_ := mk_ (Kd.V_below (vv_ HO_294001) hb)
       have n4_ := mk_ (blk_below (kk_ BK293) hb)
       have n5_ := mk_ (blk_below (kk_ BK294) hb)
       have n6_ := mk_ (below_step (bs2_ HB GE293 GE294) hb)
       clear HO_9
       clear HO_10
       clear HO_294000
       clear HO_294001
       clear BK293
       clear BK294
       clear HB
       have HO_9 := n0_
       have HO_10 := n1_
       have HO_294000 := n2_
       have HO_294001 := n3_
       have BK293 := n4_
       have BK294 := n5_
       have HB := n6_
       clear n0_ n1_ n2_ n3_ n4_ n5_ n6_
       (try clear hb)
       (try clear hb2)
       (try clear hk)
       (try clear hi)
       refine hK.out _ _ ⟨(blk_cell BK293.out 0).trans rfl, (blk_cell BK293.out 1).trans rfl, (cb_ HB hw304_0), (cb_ HB hw304_1), (cb_ HB hw304_2)⟩ (fun hHeld => ?_)
       clear hK K
       refine norm_ (a' := ?_) ?_ ?_
       rotate_left
       ·show Act.put _ (some 60) _ = _
        simp only [Act.put, sI_, s0_, sS_, i64_w, i32_w]
        rfl
       refine pv_ 6 13 (w_ 7 127) rfl ?_
       refine done_ (by kernel_rfl) ?_
       try go_wp2
       have n0_ := mk_ (Kd.R_drew HO_9.out)
       have n1_ := mk_ (Kd.R_drew HO_10.out)
       have n2_ := mk_ (Kd.V_drew HO_294000.out)
       have n3_ := mk_ (Kd.V_drew HO_294001.out)
       have n4_ := mk_ (blk_drew BK293.out)
       have n5_ := mk_ (blk_drew BK294.out)
       have n6_ := mk_ (below_drew1 HB.out)
       clear HO_9
       clear HO_10
       clear HO_294000
       clear HO_294001
       clear BK293
       clear BK294
       clear HB
       have HO_9 := n0_
       have HO_10 := n1_
       have HO_294000 := n2_
       have HO_294001 := n3_
       have BK293 := n4_
       have BK294 := n5_
       have HB := n6_
       clear n0_ n1_ n2_ n3_ n4_ n5_ n6_
       have p306 : 0 ≤ (x12_2 : Int) := od_
       have q306 : x12_2 < (l1.length : Int) := od_
       obtain ⟨ad306, e306, hx306_0, hx306_1, hx306_2⟩ := at_T51 HR1.out x12_2 p306 q306
       have hw306_2 := hx306_2
       have hw306_1 := hx306_1
       have hw306_0 := hx306_0
       obtain rfl : ad304 = ad306 := (by injection e306)
       replace hx306_0 := cb_ HB hx306_0
       replace hx306_1 := cb_ HB hx306_1
       replace hx306_2 := cb_ HB hx306_2
       replace p306 := eq_true p306
       replace q306 := eq_true q306
       refine start_ (n := 8) (S := fun w' => w'.cell? ⟨gb293, 0, none⟩ = some (.slice A0_0 l0_0.length c0_0) ∧ w'.cell? ⟨gb293, 1, none⟩ = some (.slice A0_1 l0_1.length c0_1) ∧ w'.cell? (ad304.add ((x12_2).toNat * 3)) = some (.int .i64 ((rd_T51 l1 x12_2).f0)) ∧ w'.cell? ⟨(ad304.add ((x12_2).toNat * 3)).block, (ad304.add ((x12_2).toNat * 3)).off + 1, none⟩ = some (.int .i64 ((rd_T51 l1 x12_2).f1)) ∧ w'.cell? ⟨(ad304.add ((x12_2).toNat * 3)).block, (ad304.add ((x12_2).toNat * 3)).off + 2, none⟩ = some (.int .i64 ((rd_T51 l1 x12_2).f2))) (ds := []) #[n_, n_, n_, n_, n_, n_, n_, n_] (by kernel_rfl) rfl rfl ⟨(blk_cell BK293.out 0).trans rfl, (blk_cell BK293.out 1).trans rfl, (cb_ HB hw306_0), (cb_ HB hw306_1), (cb_ HB hw306_2)⟩ (fun hHeld => ?_); refine with_tabW cohousingref26_Next.tab16 cohousingref26_Next.bits16 (fun HT_ HW_ => ?_)
       generalize w40.drew = w41 at HO_9 HO_10 HO_294000 HO_294001 BK293 BK294 HB hx306_0 hx306_1 hx306_2 hHeld ⊢
       refine pu_ 1 65 (w_ 8 2) rfl HT_ ?_
       refine pu_ 2 66 (w_ 8 6) rfl HT_ ?_
       refine pu_ 3 67 (w_ 8 14) rfl HT_ ?_
       refine pu_ 4 68 (w_ 8 30) rfl HT_ ?_
       refine ta_ 0 64 (w_ 8 31) rfl HT_ HW_ hHeld (by rintro w' ⟨s0, s1, s2, s3, s4⟩; go_simp; with_reducible rfl) ?_
       refine ta_ 5 69 (w_ 8 63) rfl HT_ HW_ hHeld (by rintro w' ⟨s0, s1, s2, s3, s4⟩; go_simp; with_reducible rfl) ?_
       refine one_ (i := 6) (N := some 70) (w_ 8 127) rfl rfl (one_of HT_.out (by kernel_rfl)) (by decide) (fun K hK => ?_)
       refine goes_ Try.func27 (by kernel_rfl) rfl #[.agg #[.slice A0_0 l0_0.length c0_0, .slice A0_1 l0_1.length c0_1], .int .i64 ((rd_T51 l1 x12_2).f0)] (by rfl) rfl rfl (by (try simp only [List.map_toArray, List.map_cons, List.map_nil]); first | done | rfl | (simp only [List.length_drop, List.length_take]; rfl)) ?_
       with_reducible refine (cohousingref26_Party.calls k2 _ _ l0_0 _ _ l0_1 ((rd_T51 l1 x12_2).f0) t307 _ ?side1 ?side2 ?side3 ?side4 A34.out).mono ?_
       (case side1 => exact cc_ ((Kd.V_reads' HO_294000.out).2.2))
       (case side2 => exact (Kd.V_reads' HO_294000.out).2.1)
       (case side3 => exact cc_ ((Kd.V_reads' HO_294001.out).2.2))
       (case side4 => exact (Kd.V_reads' HO_294001.out).2.1)
       rintro e w42 ⟨rfl, hb⟩
       refine ⟨_, rfl, ?_⟩
       have n0_ := mk_ (Kd.R_below (rr_ HO_9) hb)
       have n1_ := mk_ (Kd.R_below (rr_ HO_10) hb)
       have n2_ := mk_ (Kd.V_below (vv_ HO_294000) hb)
       have n3_ := mk_ (Kd.V_below (vv_ HO_294001) hb)
       have n4_ := mk_ (blk_below (kk_ BK293) hb)
       have n5_ := mk_ (blk_below (kk_ BK294) hb)
       have n6_ := mk_ (below_step (bs2_ HB GE293 GE294) hb)
       clear HO_9
       clear HO_10
       clear HO_294000
       clear HO_294001
       clear BK293
       clear BK294
       clear HB
       have HO_9 := n0_
       have HO_10 := n1_
       have HO_294000 := n2_
       have HO_294001 := n3_
       have BK293 := n4_
       have BK294 := n5_
       have HB := n6_
       clear n0_ n1_ n2_ n3_ n4_ n5_ n6_
       (try clear hb)
       (try clear hb2)
       (try clear hk)
       (try clear hi)
       refine hK.out _ _ ⟨(blk_cell BK293.out 0).trans rfl, (blk_cell BK293.out 1).trans rfl, (cb_ HB hw306_0), (cb_ HB hw306_1), (cb_ HB hw306_2)⟩ (fun hHeld => ?_)
       clear hK K
       refine norm_ (a' := ?_) ?_ ?_
       rotate_left
       ·show Act.put _ (some 70) _ = _
        simp only [Act.put, sI_, s0_, sS_, i64_w, i32_w]
        rfl
       refine pu_ 7 14 (w_ 8 255) rfl HT_ ?_
       refine done_ (done_of HT_.out (by kernel_rfl)) ?_
       obtain ⟨Ao43, co43, eo43⟩ := Kd.R_slice HO_10.out
       subst eo43
       have p308 : 0 ≤ (t307 : Int) := od_
       have q308 : t307 < (x10_2.length : Int) := od_
       obtain ⟨ad308, e308, hx308_0⟩ := Kd.at_bool (Kd.R_reads' HO_10.out).2.2 t307 p308 q308
       (try rw [← Nbq37.out] at hx308_0)
       cases e308
       replace p308 := eq_true p308
       replace q308 := eq_true q308
       have hnb44 := NB294_293.out
       have hnc44 := NB293_294.out
       have hcz45_0 := bc0_ BK294.out
       have hcz45_1 := bc1_ BK294.out
       have hfz45_0 := blk_frozen BK294.out 0
       have hfz45_1 := blk_frozen BK294.out 1
       try go_wp2
       refine bodyPost_ret (results_ct rfl _ _ gb294 25 #[.slice none 0 0, .slice none 0 0] (0, 0) _ rfl (by (with_reducible repeat (first | refine blk_drewN ?_ _ | refine blk_drew ?_ | refine blk_alloc ?_ _)); refine blk_put (cs := #[.slice none 0 0, .slice none 0 0]) ?_ 1 _ rfl; (with_reducible repeat (first | refine blk_drewN ?_ _ | refine blk_drew ?_ | refine blk_alloc ?_ _)); refine blk_put (cs := #[.slice none 0 0, .slice none 0 0]) ?_ 0 _ rfl; (with_reducible repeat (first | refine blk_drewN ?_ _ | refine blk_drew ?_ | refine blk_alloc ?_ _)); exact BK294.out) Try.underlying25 rfl (by kernel_rfl)) rfl ?_
       exact ⟨_, _, ew_, Kd.V_mono (Kd.R_V (by first | exact (Kd.R_nil _ _ _ w.heap.size (fun k_ => w.heap.size ≤ k_)) | exact Kd.R_nil _ _ _ _ _ | exact Kd.N_nil _ _ _ _ _ | exact Kd.V_nil _ _ _ _ _ | exact Kd.Q_nil _ _ _ _ _ | exact Kd.S_nil _ _ _ _ _)) (fun k_ hk => by first | exact ⟨.inr hk, by simp [Value.ownBlock]⟩ | exact ⟨(.inr (hk.1)), hk.2⟩ | exact (.inr (hk))), by first | exact Kd.S_nil _ _ _ _ _ | exact Kd.N_nil _ _ _ _ _ | exact Kd.V_nil _ _ _ _ _ | exact Kd.Q_nil _ _ _ _ _ | exact Kd.R_nil _ _ _ _ _, bs2_ HB GE293 GE294⟩
      replace c38 := Bool.eq_false_iff.mpr c38
      subst c38
      have H1 : (if t307 < (x9_2.length : Int) then (cohousingref26_Next.l1 k2 l1 l2 (x9_2.set (t307 : Int).toNat ((rd_T51 l1 x12_2).f2)) (x10_2.set (t307 : Int).toNat true) (wrap64 (x12_2 + 1)) l0_0 l0_1) else (none)) = some (r1, r2, r3) := by rw [if_neg (show ¬ (false = true) by decide)] at H; exact H
      clear H
      have H := H1
      clear H1
      obtain ⟨y309, hy309⟩ : ∃ y_ : List Bool, y_ = (x10_2.set (t307 : Int).toNat true) := ⟨_, rfl⟩
      replace H : (if t307 < (x9_2.length : Int) then (cohousingref26_Next.l1 k2 l1 l2 (x9_2.set (t307 : Int).toNat ((rd_T51 l1 x12_2).f2)) y309 (wrap64 (x12_2 + 1)) l0_0 l0_1) else (none)) = some (r1, r2, r3) := by first | (rw [hy309]; with_reducible exact H) | (have H2_ := (Option.bind_some _ _).symm.trans H; rw [hy309]; with_reducible exact H2_) | (have H2_ := (Option.bind_some _ _).symm.trans H; with_reducible exact H2_) | with_reducible exact H | (rw [hy309]; exact H) | exact H
      have Ny309 := mk_ hy309
      clear hy309
      by_cases c47 : t307 < (x9_2.length : Int)
      rotate_left
      ·rw [if_neg c47] at H
       exact absurd H (by simp)
      rw [if_pos c47] at H
      have c47b0 : decide (t307 < (x9_2.length : Int)) = true := decide_eq_true c47
      clear c47
      obtain ⟨y311, hy311⟩ : ∃ y_ : List Int, y_ = (x9_2.set (t307 : Int).toNat ((rd_T51 l1 x12_2).f2)) := ⟨_, rfl⟩
      replace H : (cohousingref26_Next.l1 k2 l1 l2 y311 y309 (wrap64 (x12_2 + 1)) l0_0 l0_1) = some (r1, r2, r3) := by first | (rw [hy311]; with_reducible exact H) | (have H2_ := (Option.bind_some _ _).symm.trans H; rw [hy311]; with_reducible exact H2_) | (have H2_ := (Option.bind_some _ _).symm.trans H; with_reducible exact H2_) | with_reducible exact H | (rw [hy311]; exact H) | exact H
      have Ny311 := mk_ hy311
      clear hy311
      have H' := mk_ H
      clear H
      try go_wp2
      have n0_ := mk_ (Kd.R_drew HO_9.out)
      have n1_ := mk_ (Kd.R_drew HO_10.out)
      have n2_ := mk_ (Kd.V_drew HO_294000.out)
      have n3_ := mk_ (Kd.V_drew HO_294001.out)
      have n4_ := mk_ (blk_drew BK293.out)
      have n5_ := mk_ (blk_drew BK294.out)
      have n6_ := mk_ (below_drew1 HB.out)
      clear HO_9
      clear HO_10
      clear HO_294000
      clear HO_294001
      clear BK293
      clear BK294
      clear HB
      have HO_9 := n0_
      have HO_10 := n1_
      have HO_294000 := n2_
      have HO_294001 := n3_
      have BK293 := n4_
      have BK294 := n5_
      have HB := n6_
      clear n0_ n1_ n2_ n3_ n4_ n5_ n6_
      have p304 : 0 ≤ (x12_2 : Int) := od_
      have q304 : x12_2 < (l1.length : Int) := od_
      obtain ⟨ad304, e304, hx304_0, hx304_1, hx304_2⟩ := at_T51 HR1.out x12_2 p304 q304
      have hw304_2 := hx304_2
      have hw304_1 := hx304_1
      have hw304_0 := hx304_0
      cases e304
      replace hx304_0 := cb_ HB hx304_0
      replace hx304_1 := cb_ HB hx304_1
      replace hx304_2 := cb_ HB hx304_2
      replace p304 := eq_true p304
      replace q304 := eq_true q304
      refine start_ (n := 7) (S := fun w' => w'.cell? ⟨gb293, 0, none⟩ = some (.slice A0_0 l0_0.length c0_0) ∧ w'.cell? ⟨gb293, 1, none⟩ = some (.slice A0_1 l0_1.length c0_1) ∧ w'.cell? (ad304.add ((x12_2).toNat * 3)) = some (.int .i64 ((rd_T51 l1 x12_2).f0)) ∧ w'.cell? ⟨(ad304.add ((x12_2).toNat * 3)).block, (ad304.add ((x12_2).toNat * 3)).off + 1, none⟩ = some (.int .i64 ((rd_T51 l1 x12_2).f1)) ∧ w'.cell? ⟨(ad304.add ((x12_2).toNat * 3)).block, (ad304.add ((x12_2).toNat * 3)).off + 2, none⟩ = some (.int .i64 ((rd_T51 l1 x12_2).f2))) (ds := []) #[n_, n_, n_, n_, n_, n_, n_] (by kernel_rfl) rfl rfl ⟨(blk_cell BK293.out 0).trans rfl, (blk_cell BK293.out 1).trans rfl, (cb_ HB hw304_0), (cb_ HB hw304_1), (cb_ HB hw304_2)⟩ (fun hHeld => ?_)
      generalize wr.drew = w49 at HO_9 HO_10 HO_294000 HO_294001 BK293 BK294 HB hx304_0 hx304_1 hx304_2 hHeld ⊢
      refine pv_ 1 56 (w_ 7 2) rfl ?_
      refine pv_ 2 57 (w_ 7 6) rfl ?_
      refine pv_ 3 58 (w_ 7 14) rfl ?_
      refine tb_ 0 55 (w_ 7 15) rfl hHeld (by rintro w' ⟨s0, s1, s2, s3, s4⟩; go_simp; with_reducible rfl) ?_
      refine tb_ 4 59 (w_ 7 31) rfl hHeld (by rintro w' ⟨s0, s1, s2, s3, s4⟩; go_simp; with_reducible rfl) ?_
      refine one_ (i := 5) (N := some 60) (w_ 7 63) rfl rfl (by kernel_rfl) (by decide) (fun K hK => ?_)
      refine goes_ Try.func41 (by kernel_rfl) rfl #[.agg #[.slice A0_0 l0_0.length c0_0, .slice A0_1 l0_1.length c0_1], .agg #[.int .i64 ((rd_T51 l1 x12_2).f0), .int .i64 ((rd_T51 l1 x12_2).f1), .int .i64 ((rd_T51 l1 x12_2).f2)]] (by rfl) rfl rfl (by (try simp only [List.map_toArray, List.map_cons, List.map_nil]); first | done | rfl | (simp only [List.length_drop, List.length_take]; rfl)) ?_
      with_reducible refine (cohousingref26_move.calls k2 _ _ l0_0 _ _ l0_1 ((rd_T51 l1 x12_2).f0) ((rd_T51 l1 x12_2).f1) ((rd_T51 l1 x12_2).f2) true _ ?side1 ?side2 ?side3 ?side4 A32.out).mono ?_
      (case side1 => exact cc_ ((Kd.V_reads' HO_294000.out).2.2))
      (case side2 => exact (Kd.V_reads' HO_294000.out).2.1)
      (case side3 => exact cc_ ((Kd.V_reads' HO_294001.out).2.2))
      (case side4 => exact (Kd.V_reads' HO_294001.out).2.1)
      rintro e w50 ⟨rfl, hb⟩
      refine ⟨_, rfl, ?_⟩
      have n0_ := mk_ (Kd.R_below (rr_ HO_9) hb)
      have n1_ := mk_ (Kd.R_below (rr_ HO_10) hb)
      have n2_ := mk_ (Kd.V_below (vv_ HO_294000) hb)
      have n3_ := mk_ (Kd.V_below (vv_ HO_294001) hb)
      have n4_ := mk_ (blk_below (kk_ BK293) hb)
      have n5_ := mk_ (blk_below (kk_ BK294) hb)
      have n6_ := mk_ (below_step (bs2_ HB GE293 GE294) hb)
      clear HO_9
      clear HO_10
      clear HO_294000
      clear HO_294001
      clear BK293
      clear BK294
      clear HB
      have HO_9 := n0_
      have HO_10 := n1_
      have HO_294000 := n2_
      have HO_294001 := n3_
      have BK293 := n4_
      have BK294 := n5_
      have HB := n6_
      clear n0_ n1_ n2_ n3_ n4_ n5_ n6_
      (try clear hb)
      (try clear hb2)
      (try clear hk)
      (try clear hi)
      refine hK.out _ _ ⟨(blk_cell BK293.out 0).trans rfl, (blk_cell BK293.out 1).trans rfl, (cb_ HB hw304_0), (cb_ HB hw304_1), (cb_ HB hw304_2)⟩ (fun hHeld => ?_)
      clear hK K
      refine norm_ (a' := ?_) ?_ ?_
      rotate_left
      ·show Act.put _ (some 60) _ = _
       simp only [Act.put, sI_, s0_, sS_, i64_w, i32_w]
       rfl
      refine pv_ 6 13 (w_ 7 127) rfl ?_
      refine done_ (by kernel_rfl) ?_
      try go_wp2
      have n0_ := mk_ (Kd.R_drew HO_9.out)
      have n1_ := mk_ (Kd.R_drew HO_10.out)
      have n2_ := mk_ (Kd.V_drew HO_294000.out)
      have n3_ := mk_ (Kd.V_drew HO_294001.out)
      have n4_ := mk_ (blk_drew BK293.out)
      have n5_ := mk_ (blk_drew BK294.out)
      have n6_ := mk_ (below_drew1 HB.out)
      clear HO_9
      clear HO_10
      clear HO_294000
      clear HO_294001
      clear BK293
      clear BK294
      clear HB
      have HO_9 := n0_
      have HO_10 := n1_
      have HO_294000 := n2_
      have HO_294001 := n3_
      have BK293 := n4_
      have BK294 := n5_
      have HB := n6_
      clear n0_ n1_ n2_ n3_ n4_ n5_ n6_
      have p306 : 0 ≤ (x12_2 : Int) := od_
      have q306 : x12_2 < (l1.length : Int) := od_
      obtain ⟨ad306, e306, hx306_0, hx306_1, hx306_2⟩ := at_T51 HR1.out x12_2 p306 q306
      have hw306_2 := hx306_2
      have hw306_1 := hx306_1
      have hw306_0 := hx306_0
      obtain rfl : ad304 = ad306 := (by injection e306)
      replace hx306_0 := cb_ HB hx306_0
      replace hx306_1 := cb_ HB hx306_1
      replace hx306_2 := cb_ HB hx306_2
      replace p306 := eq_true p306
      replace q306 := eq_true q306
      refine start_ (n := 8) (S := fun w' => w'.cell? ⟨gb293, 0, none⟩ = some (.slice A0_0 l0_0.length c0_0) ∧ w'.cell? ⟨gb293, 1, none⟩ = some (.slice A0_1 l0_1.length c0_1) ∧ w'.cell? (ad304.add ((x12_2).toNat * 3)) = some (.int .i64 ((rd_T51 l1 x12_2).f0)) ∧ w'.cell? ⟨(ad304.add ((x12_2).toNat * 3)).block, (ad304.add ((x12_2).toNat * 3)).off + 1, none⟩ = some (.int .i64 ((rd_T51 l1 x12_2).f1)) ∧ w'.cell? ⟨(ad304.add ((x12_2).toNat * 3)).block, (ad304.add ((x12_2).toNat * 3)).off + 2, none⟩ = some (.int .i64 ((rd_T51 l1 x12_2).f2))) (ds := []) #[n_, n_, n_, n_, n_, n_, n_, n_] (by kernel_rfl) rfl rfl ⟨(blk_cell BK293.out 0).trans rfl, (blk_cell BK293.out 1).trans rfl, (cb_ HB hw306_0), (cb_ HB hw306_1), (cb_ HB hw306_2)⟩ (fun hHeld => ?_); refine with_tabW cohousingref26_Next.tab16 cohousingref26_Next.bits16 (fun HT_ HW_ => ?_)
      generalize w50.drew = w51 at HO_9 HO_10 HO_294000 HO_294001 BK293 BK294 HB hx306_0 hx306_1 hx306_2 hHeld ⊢
      refine pu_ 1 65 (w_ 8 2) rfl HT_ ?_
      refine pu_ 2 66 (w_ 8 6) rfl HT_ ?_
      refine pu_ 3 67 (w_ 8 14) rfl HT_ ?_
      refine pu_ 4 68 (w_ 8 30) rfl HT_ ?_
      refine ta_ 0 64 (w_ 8 31) rfl HT_ HW_ hHeld (by rintro w' ⟨s0, s1, s2, s3, s4⟩; go_simp; with_reducible rfl) ?_
      refine ta_ 5 69 (w_ 8 63) rfl HT_ HW_ hHeld (by rintro w' ⟨s0, s1, s2, s3, s4⟩; go_simp; with_reducible rfl) ?_
      refine one_ (i := 6) (N := some 70) (w_ 8 127) rfl rfl (one_of HT_.out (by kernel_rfl)) (by decide) (fun K hK => ?_)
      refine goes_ Try.func27 (by kernel_rfl) rfl #[.agg #[.slice A0_0 l0_0.length c0_0, .slice A0_1 l0_1.length c0_1], .int .i64 ((rd_T51 l1 x12_2).f0)] (by rfl) rfl rfl (by (try simp only [List.map_toArray, List.map_cons, List.map_nil]); first | done | rfl | (simp only [List.length_drop, List.length_take]; rfl)) ?_
      with_reducible refine (cohousingref26_Party.calls k2 _ _ l0_0 _ _ l0_1 ((rd_T51 l1 x12_2).f0) t307 _ ?side1 ?side2 ?side3 ?side4 A34.out).mono ?_
      (case side1 => exact cc_ ((Kd.V_reads' HO_294000.out).2.2))
      (case side2 => exact (Kd.V_reads' HO_294000.out).2.1)
      (case side3 => exact cc_ ((Kd.V_reads' HO_294001.out).2.2))
      (case side4 => exact (Kd.V_reads' HO_294001.out).2.1)
      rintro e w52 ⟨rfl, hb⟩
      refine ⟨_, rfl, ?_⟩
      have n0_ := mk_ (Kd.R_below (rr_ HO_9) hb)
      have n1_ := mk_ (Kd.R_below (rr_ HO_10) hb)
      have n2_ := mk_ (Kd.V_below (vv_ HO_294000) hb)
      have n3_ := mk_ (Kd.V_below (vv_ HO_294001) hb)
      have n4_ := mk_ (blk_below (kk_ BK293) hb)
      have n5_ := mk_ (blk_below (kk_ BK294) hb)
      have n6_ := mk_ (below_step (bs2_ HB GE293 GE294) hb)
      clear HO_9
      clear HO_10
      clear HO_294000
      clear HO_294001
      clear BK293
      clear BK294
      clear HB
      have HO_9 := n0_
      have HO_10 := n1_
      have HO_294000 := n2_
      have HO_294001 := n3_
      have BK293 := n4_
      have BK294 := n5_
      have HB := n6_
      clear n0_ n1_ n2_ n3_ n4_ n5_ n6_
      (try clear hb)
      (try clear hb2)
      (try clear hk)
      (try clear hi)
      refine hK.out _ _ ⟨(blk_cell BK293.out 0).trans rfl, (blk_cell BK293.out 1).trans rfl, (cb_ HB hw306_0), (cb_ HB hw306_1), (cb_ HB hw306_2)⟩ (fun hHeld => ?_)
      clear hK K
      refine norm_ (a' := ?_) ?_ ?_
      rotate_left
      ·show Act.put _ (some 70) _ = _
       simp only [Act.put, sI_, s0_, sS_, i64_w, i32_w]
       rfl
      refine pu_ 7 14 (w_ 8 255) rfl HT_ ?_
      refine done_ (done_of HT_.out (by kernel_rfl)) ?_
      obtain ⟨Ao53, co53, eo53⟩ := Kd.R_slice HO_10.out
      subst eo53
      have p308 : 0 ≤ (t307 : Int) := od_
      have q308 : t307 < (x10_2.length : Int) := od_
      obtain ⟨ad308, e308, hx308_0⟩ := Kd.at_bool (Kd.R_reads' HO_10.out).2.2 t307 p308 q308
      (try rw [← Nbq37.out] at hx308_0)
      cases e308
      replace p308 := eq_true p308
      replace q308 := eq_true q308
      have p46 : 0 ≤ (t307 : Int) := od_
      have q46 : (t307 : Int) < ((x10_2.length : Int) : Int) := od_
      obtain ⟨go46, co46, eo46, gb46, gl46, cl46, HG46⟩ := Kd.R_form HO_10.out (by omega)
      (first | cases eo46 | (injection eo46 with ea_ en_ ec_; (first | subst ea_ | (injection ea_ with ea_; subst ea_)); subst ec_; clear en_))
      have GB46 := mk_ gb46
      have GG46 := mk_ HG46
      clear gb46 gl46 HG46
      (first | simp only [add_plain] at hx308_0 | skip)
      obtain ⟨hx46_0, hf46_0⟩ := Kd.R_celln false HO_10.out (t307 : Int) p46 q46
      replace p46 := eq_true p46
      replace q46 := eq_true q46
      obtain ⟨hy54_, hz54_⟩ := Kd.R_celln false HO_10.out (t307 : Int) (od_) (od_)
      have HP54 := Kd.R_putg HO_10.out (t307 : Int) true
      try go_wp2_with (first | ((with_reducible refine gate_store (t := 4) (p := 78) rfl ?_); refine store_event (t := 4) (p := 78) (v := ?vo_w55) (w1 := (w52.setCell ⟨go46, (t307 : Int).toNat, none⟩ (.bool true))) ?hg ?ho ?hn ?hr ?_; (case ho => rfl); (case hg => rfl); (case hn => rfl); (case hr => first | (go_simp; done) | (go_simp; rfl)); intro w55 hw; have hg : w52.grownBy w55 (some go46) := (by rw [hw]; exact HP54.2); have hp_ : Kd.R Kd.bool 4 w55 w.heap.size (fun k_ => (w.heap.size ≤ k_)) (.slice (some ⟨go46, 0, none⟩) x10_2.length co53) y309 := (by rw [hw, Ny309.out]; exact HP54.1); clear HP54; have n0_ := mk_ (Kd.R_over' (v := (.slice (some ⟨go46, 0, none⟩) x10_2.length co53)) (rr_ HO_9) (Kd.R_typed HO_10.out) (by decide) hg); have n1_ := mk_ (hp_); have n2_ := mk_ (Kd.V_afterv (v := (.slice (some ⟨go46, 0, none⟩) x10_2.length co53)) (v1 := (.slice (some ⟨go46, 0, none⟩) x10_2.length co53)) (ok := (fun k_ => ((P0_0_ k_ ∨ P0_1_ k_) ∨ w.heap.size ≤ k_) ∧ some k_ ≠ (v297 : Value).ownBlock ∧ k_ ≠ gb293 ∧ k_ ≠ gb294)) (vm_ HO_294000) hg (.inl rfl)); have n3_ := mk_ (Kd.V_afterv (v := (.slice (some ⟨go46, 0, none⟩) x10_2.length co53)) (v1 := (.slice (some ⟨go46, 0, none⟩) x10_2.length co53)) (ok := (fun k_ => ((P0_0_ k_ ∨ P0_1_ k_) ∨ w.heap.size ≤ k_) ∧ some k_ ≠ (v297 : Value).ownBlock ∧ k_ ≠ gb293 ∧ k_ ≠ gb294)) (vm_ HO_294001) hg (.inl rfl)); have n4_ := mk_ (blk_grown (kk_ BK293) hg (Kd.R_ne HO_10.out BK293.out (by decide))); have n5_ := mk_ (blk_grown (kk_ BK294) hg (Kd.R_ne HO_10.out BK294.out (by decide))); have n6_ := mk_ ((by rw [hw]; exact below_set (HB.out) GB46.out : Below w.heap.size w w55)); clear HO_9 HO_10 HO_294000 HO_294001 BK293 BK294 HB; revert n0_ n1_ n2_ n3_ n4_ n5_ n6_; intro HO_9 HO_10 HO_294000 HO_294001 BK293 BK294 HB; clear hg hw hp_; have p310 : 0 ≤ (x12_2 : Int) := od_; have q310 : x12_2 < (l1.length : Int) := od_; obtain ⟨ad310, e310, hx310_0, hx310_1, hx310_2⟩ := at_T51 HR1.out x12_2 p310 q310; obtain rfl : ad304 = ad310 := (by injection e310); replace hx310_0 := cb_ HB hx310_0; replace hx310_1 := cb_ HB hx310_1; replace hx310_2 := cb_ HB hx310_2; replace p310 := eq_true p310; replace q310 := eq_true q310; have p48 : 0 ≤ (t307 : Int) := od_; have q48 : (t307 : Int) < ((x9_2.length : Int) : Int) := od_; obtain ⟨go48, co48, eo48, gb48, gl48, cl48, HG48⟩ := Kd.R_form HO_9.out (by omega); (first | cases eo48 | (injection eo48 with ea_ en_ ec_; (first | subst ea_ | (injection ea_ with ea_; subst ea_)); subst ec_; clear en_)); have GB48 := mk_ gb48; have GG48 := mk_ HG48; clear gb48 gl48 HG48; obtain ⟨hx48_0, hf48_0⟩ := Kd.R_celln 0 HO_9.out (t307 : Int) p48 q48; replace p48 := eq_true p48; replace q48 := eq_true q48; obtain ⟨hy56_, hz56_⟩ := Kd.R_celln 0 HO_9.out (t307 : Int) (od_) (od_); have HP56 := Kd.R_putg HO_9.out (t307 : Int) ((rd_T51 l1 x12_2).f2)) | ((with_reducible refine gate_store (t := 3) (p := 86) rfl ?_); refine store_event (t := 3) (p := 86) (v := ?vo_w57) (w1 := (w55.setCell ⟨go48, (t307 : Int).toNat, none⟩ (.int .i64 ((rd_T51 l1 x12_2).f2)))) ?hg ?ho ?hn ?hr ?_; (case ho => rfl); (case hg => rfl); (case hn => rfl); (case hr => first | (go_simp; done) | (go_simp; rfl)); intro w57 hw; have hg : w55.grownBy w57 (some go48) := (by rw [hw]; exact HP56.2); have hp_ : Kd.R (Kd.int .i64) 3 w57 w.heap.size (fun k_ => (w.heap.size ≤ k_)) (.slice (some ⟨go48, 0, none⟩) x9_2.length co48) y311 := (by rw [hw, Ny311.out]; exact HP56.1); clear HP56; have n0_ := mk_ (hp_); have n1_ := mk_ (Kd.R_over' (v := (.slice (some ⟨go48, 0, none⟩) x9_2.length co48)) (rr_ HO_10) (Kd.R_typed HO_9.out) (by decide) hg); have n2_ := mk_ (Kd.V_afterv (v := (.slice (some ⟨go48, 0, none⟩) x9_2.length co48)) (v1 := (.slice (some ⟨go48, 0, none⟩) x9_2.length co48)) (ok := (fun k_ => ((P0_0_ k_ ∨ P0_1_ k_) ∨ w.heap.size ≤ k_) ∧ some k_ ≠ (.slice (some ⟨go46, 0, none⟩) x10_2.length co53 : Value).ownBlock ∧ k_ ≠ gb293 ∧ k_ ≠ gb294)) (vm_ HO_294000) hg (.inl rfl)); have n3_ := mk_ (Kd.V_afterv (v := (.slice (some ⟨go48, 0, none⟩) x9_2.length co48)) (v1 := (.slice (some ⟨go48, 0, none⟩) x9_2.length co48)) (ok := (fun k_ => ((P0_0_ k_ ∨ P0_1_ k_) ∨ w.heap.size ≤ k_) ∧ some k_ ≠ (.slice (some ⟨go46, 0, none⟩) x10_2.length co53 : Value).ownBlock ∧ k_ ≠ gb293 ∧ k_ ≠ gb294)) (vm_ HO_294001) hg (.inl rfl)); have n4_ := mk_ (blk_grown (kk_ BK293) hg (Kd.R_ne HO_9.out BK293.out (by decide))); have n5_ := mk_ (blk_grown (kk_ BK294) hg (Kd.R_ne HO_9.out BK294.out (by decide))); have n6_ := mk_ ((by rw [hw]; exact below_set (HB.out) GB48.out : Below w.heap.size w w57)); clear HO_9 HO_10 HO_294000 HO_294001 BK293 BK294 HB; revert n0_ n1_ n2_ n3_ n4_ n5_ n6_; intro HO_9 HO_10 HO_294000 HO_294001 BK293 BK294 HB; clear hg hw hp_))
      go_roundg k2
      case measure => have := HK1.out; have := HK2.out; omega
      case rel => exact ⟨(y311), (y309), (wrap64 (x12_2 + 1)), sd_, H', ⟨by have := HK1.out; have := HK2.out; omega⟩, ⟨rr_ HO_9⟩, ⟨rr_ HO_10⟩, ⟨vm_ HO_294000⟩, ⟨vm_ HO_294001⟩, ⟨kk_ BK293⟩, ⟨kk_ BK294⟩, ⟨bs2_ HB GE293 GE294⟩⟩
     rw [if_neg c30] at H
     have c30b0 : decide (x12_2 < (l1.length : Int)) = false := decide_eq_false c30
     clear c30
     have H' := mk_ H
     clear H
     go_wp2
     go_loopg [15] k2 (fun kq v15 w' => ∃ (x15_3 : Int), v15 = .int .i64 x15_3 ∧ Aside0 (cohousingref26_Next.l2 kq l2 x9_2 x15_3 l0_0 l0_1 = some (r1, r2, r3)) ∧ Aside0 (kq ≤ k2) ∧ Aside0 (Kd.R (Kd.int .i64) 3 w' w.heap.size (fun k_ => (w.heap.size ≤ k_)) v297 x9_2) ∧ Aside0 (Kd.V k84 84 w' w.heap.size (fun k_ => ((P0_0_ k_ ∨ P0_1_ k_) ∨ w.heap.size ≤ k_) ∧ some k_ ≠ (v297 : Value).ownBlock ∧ k_ ≠ gb293 ∧ k_ ≠ gb294) (.slice A0_0 l0_0.length c0_0) l0_0) ∧ Aside0 (Kd.V k46 46 w' w.heap.size (fun k_ => ((P0_0_ k_ ∨ P0_1_ k_) ∨ w.heap.size ≤ k_) ∧ some k_ ≠ (v297 : Value).ownBlock ∧ k_ ≠ gb293 ∧ k_ ≠ gb294) (.slice A0_1 l0_1.length c0_1) l0_1) ∧ Aside0 (w'.heap[gb293]? = some (.cells #[(.slice A0_0 l0_0.length c0_0), (.slice A0_1 l0_1.length c0_1)] 25 (0, 0))) ∧ Aside0 (w'.heap[gb294]? = some (.cells #[(.slice none 0 0), (.slice none 0 0)] 25 (0, 0))) ∧ Aside0 (Below w.heap.size w w'))
     case atStart => exact ⟨(0), sd_, H', ⟨Nat.le_refl _⟩, ⟨rr_ HO_9⟩, ⟨vm_ HO_294000⟩, ⟨vm_ HO_294001⟩, ⟨kk_ BK293⟩, ⟨kk_ BK294⟩, ⟨bs2_ HB GE293 GE294⟩⟩
     case round =>
      clear H'
      try clear c2; try clear p2; try clear c3; try clear p3; try clear q3; try clear hx3; try clear c4; try clear p4; try clear q4; try clear hx4; try clear hf4; try clear c6; try clear p6; try clear c27; try clear c30; try clear c30b0; try clear p30; try clear q30; try clear hx30; try clear c31; try clear p31; try clear q31; try clear hx31; try clear c33; try clear c35; try clear c36; try clear q37; try clear c38; try clear c41; try clear c44; try clear p46; try clear q46; try clear hx46; try clear hf46; try clear c47; try clear c47b0; try clear p48; try clear q48; try clear hx48; try clear hf48; try clear c60; try clear hcz45_0; try clear hcz45_1; try clear hcz61_0; try clear hcz61_1; try clear hfz45_0; try clear hfz45_1; try clear hfz61_0; try clear hfz61_1; try clear hx304_0; try clear hx304_1; try clear hx304_2; try clear hx306_0; try clear hx306_1; try clear hx306_2; try clear hx308_0; try clear hx310_0; try clear hx310_1; try clear hx310_2; try clear hx46_0; try clear hx48_0; try clear p304; try clear p306; try clear p308; try clear p310; try clear p46; try clear p48; try clear q304; try clear q306; try clear q308; try clear q310; try clear q46; try clear q48
      obtain ⟨x15_3, rfl, HA, HK3, HO_9, HO_294000, HO_294001, BK293, BK294, HB⟩ := hrel
      cases gk with
      | zero => exact absurd HA.out (by simp [cohousingref26_Next.l2])
      | succ k3 =>
       have H := HA.out
       clear HA
       simp only [cohousingref26_Next.l2] at H
       by_cases c62 : x15_3 < (l2.length : Int)
       rotate_left
       ·rw [if_neg c62] at H
        have c62b0 : decide (x15_3 < (l2.length : Int)) = false := decide_eq_false c62
        clear c62
        have H' := mk_ H
        clear H
        have hnb83 := NB293_294.out
        have hnc83 := NB294_293.out
        have hcz84_0 := bc0_ BK293.out
        have hcz84_1 := bc1_ BK293.out
        have hfz84_0 := blk_frozen BK293.out 0
        have hfz84_1 := blk_frozen BK293.out 1
        go_wp2_with (first | ((with_reducible refine gate_dst (N := 16) rfl ?_); refine box_event ?hg (N := 16) ?hd (cs := #[.slice none 0 0, .slice none 0 0]) (t := 25) ?hr ?_; (case hd => rfl); (case hg => rfl); (case hr => first | (go_simp; done) | (go_simp; rfl)); intro gb316 hg w85 hbox hb; have n0_ := mk_ (Kd.R_below (rr_ HO_9) hb); have n1_ := mk_ (Kd.V_below (Kd.V_elderB (vv_ HO_294000) gb316 (Nat.le_of_eq hg.symm)) hb); have n2_ := mk_ (Kd.V_below (Kd.V_elderB (vv_ HO_294001) gb316 (Nat.le_of_eq hg.symm)) hb); have n3_ := mk_ (blk_below (kk_ BK293) hb); have n4_ := mk_ (blk_below (kk_ BK294) hb); have n5_ := mk_ (below_step (bs2_ HB GE293 GE294) hb); have n6_ := mk_ (hbox); have n7_ := mk_ (bz_ hg (bs2_ HB GE293 GE294)); have n8_ := mk_ (bz_ hg (bs2_ HB GE293 GE294)); have n9_ := mk_ (bl_ hg (kk_ BK293)); have n10_ := mk_ (bg_ hg (kk_ BK293)); have n11_ := mk_ (bl_ hg (kk_ BK294)); have n12_ := mk_ (bg_ hg (kk_ BK294)); clear HO_9 HO_294000 HO_294001 BK293 BK294 HB; revert n0_ n1_ n2_ n3_ n4_ n5_ n6_ n7_ n8_ n9_ n10_ n11_ n12_; intro HO_9 HO_294000 HO_294001 BK293 BK294 HB BK316 GW316 GE316 NB293_316 NB316_293 NB294_316 NB316_294; clear hb hbox hg; have hnb86 := NB316_293.out; have hnc86 := NB293_316.out; have hnb87 := NB316_294.out; have hnc87 := NB294_316.out; have hcz88_0 := bc0_ BK316.out; have hcz88_1 := bc1_ BK316.out; have hfz88_0 := blk_frozen BK316.out 0; have hfz88_1 := blk_frozen BK316.out 1))
        go_loopg [17, 18] k3 (fun kq v17 v18 w' => ∃ (x17_4 : List Int) (x18_4 : Int) (x317001_4 : List (S46)) (u317001 : Value), v18 = .int .i64 x18_4 ∧ Aside0 (cohousingref26_Next.l3 kq l2 x9_2 x17_4 x18_4 l0_0 l0_1 l0_0 x317001_4 = some (r1, r2, r3)) ∧ Aside0 (kq ≤ k3) ∧ Aside0 (Kd.R (Kd.int .i64) 3 w' w.heap.size (fun k_ => (w.heap.size ≤ k_) ∧ some k_ ≠ (v17 : Value).ownBlock) v297 x9_2) ∧ Aside0 (Kd.R (Kd.int .i64) 3 w' w.heap.size (fun k_ => (w.heap.size ≤ k_) ∧ some k_ ≠ (v297 : Value).ownBlock) v17 x17_4) ∧ Aside0 (Kd.V k84 84 w' w.heap.size (fun k_ => ((P0_0_ k_ ∨ P0_1_ k_) ∨ w.heap.size ≤ k_) ∧ some k_ ≠ (v297 : Value).ownBlock ∧ some k_ ≠ (v17 : Value).ownBlock ∧ some k_ ≠ (u317001 : Value).ownBlock ∧ k_ ≠ gb293 ∧ k_ ≠ gb294 ∧ k_ ≠ gb316) (.slice A0_0 l0_0.length c0_0) l0_0) ∧ Aside0 (Kd.V k46 46 w' w.heap.size (fun k_ => ((P0_0_ k_ ∨ P0_1_ k_) ∨ w.heap.size ≤ k_) ∧ some k_ ≠ (v297 : Value).ownBlock ∧ some k_ ≠ (v17 : Value).ownBlock ∧ some k_ ≠ (u317001 : Value).ownBlock ∧ k_ ≠ gb293 ∧ k_ ≠ gb294 ∧ k_ ≠ gb316) (.slice A0_1 l0_1.length c0_1) l0_1) ∧ Aside0 (Kd.V k84 84 w' w.heap.size (fun k_ => ((P0_0_ k_ ∨ P0_1_ k_) ∨ w.heap.size ≤ k_) ∧ some k_ ≠ (v297 : Value).ownBlock ∧ some k_ ≠ (v17 : Value).ownBlock ∧ some k_ ≠ (u317001 : Value).ownBlock ∧ k_ ≠ gb293 ∧ k_ ≠ gb294 ∧ k_ ≠ gb316) (.slice A0_0 l0_0.length c0_0) l0_0) ∧ Aside0 (Kd.N k46 46 w' w.heap.size (fun k_ => ((P0_0_ k_ ∨ P0_1_ k_) ∨ w.heap.size ≤ k_) ∧ some k_ ≠ (v297 : Value).ownBlock ∧ some k_ ≠ (v17 : Value).ownBlock ∧ k_ ≠ gb293 ∧ k_ ≠ gb294 ∧ k_ ≠ gb316) u317001 x317001_4) ∧ Aside0 (w'.heap[gb293]? = some (.cells #[(.slice A0_0 l0_0.length c0_0), (.slice A0_1 l0_1.length c0_1)] 25 (0, 0))) ∧ Aside0 (w'.heap[gb294]? = some (.cells #[(.slice none 0 0), (.slice none 0 0)] 25 (0, 0))) ∧ Aside0 (w'.heap[gb316]? = some (.cells #[(.slice A0_0 l0_0.length c0_0), u317001] 25 (0, 0))) ∧ Aside0 (Below w.heap.size w w'))
        case atStart => exact ⟨(([] : List Int)), (0), (([] : List (S46))), (.slice none 0 0), sd_, H', ⟨Nat.le_refl _⟩, ⟨by (with_reducible repeat (first | apply Kd.R_alloc | apply Kd.R_drewN | apply Kd.R_drew)); exact Kd.R_mono (Kd.R_far (p := ⟨gb316, 1, none⟩) (Kd.R_far (p := ⟨gb316, 0, none⟩) (Kd.R_types HO_9.out BK316.out (by decide)) (fun _ hk => hk.2) (.slice A0_0 l0_0.length c0_0)) (fun _ hk => hk.2) (.slice none 0 0)) (fun _ hk => ⟨hk.1, (by simp [Value.ownBlock])⟩)⟩, ⟨by first | exact Kd.R_nil _ _ _ _ _ | exact Kd.N_nil _ _ _ _ _ | exact Kd.V_nil _ _ _ _ _ | exact Kd.Q_nil _ _ _ _ _ | exact Kd.S_nil _ _ _ _ _⟩, ⟨by (with_reducible repeat (first | apply Kd.V_alloc | apply Kd.V_drewN | apply Kd.V_drew)); exact Kd.V_mono (Kd.V_far (p := ⟨gb316, 1, none⟩) (Kd.V_far (p := ⟨gb316, 0, none⟩) (Kd.V_mono HO_294000.out (fun k_ hk => (⟨hk, hk.2⟩ : _ ∧ k_ ≠ gb316))) (fun _ hk => hk.2) (.slice A0_0 l0_0.length c0_0)) (fun _ hk => hk.2) (.slice none 0 0)) (fun _ hk => ⟨hk.1.1.1, ⟨hk.1.1.2.1, ⟨(by simp [Value.ownBlock]), ⟨(by simp [Value.ownBlock]), ⟨hk.1.1.2.2.1, ⟨hk.1.1.2.2.2, hk.1.2⟩⟩⟩⟩⟩⟩)⟩, ⟨by (with_reducible repeat (first | apply Kd.V_alloc | apply Kd.V_drewN | apply Kd.V_drew)); exact Kd.V_mono (Kd.V_far (p := ⟨gb316, 1, none⟩) (Kd.V_far (p := ⟨gb316, 0, none⟩) (Kd.V_mono HO_294001.out (fun k_ hk => (⟨hk, hk.2⟩ : _ ∧ k_ ≠ gb316))) (fun _ hk => hk.2) (.slice A0_0 l0_0.length c0_0)) (fun _ hk => hk.2) (.slice none 0 0)) (fun _ hk => ⟨hk.1.1.1, ⟨hk.1.1.2.1, ⟨(by simp [Value.ownBlock]), ⟨(by simp [Value.ownBlock]), ⟨hk.1.1.2.2.1, ⟨hk.1.1.2.2.2, hk.1.2⟩⟩⟩⟩⟩⟩)⟩, ⟨by (with_reducible repeat (first | apply Kd.V_alloc | apply Kd.V_drewN | apply Kd.V_drew)); exact Kd.V_mono (Kd.V_far (p := ⟨gb316, 1, none⟩) (Kd.V_far (p := ⟨gb316, 0, none⟩) (Kd.V_mono HO_294000.out (fun k_ hk => (⟨hk, hk.2⟩ : _ ∧ k_ ≠ gb316))) (fun _ hk => hk.2) (.slice A0_0 l0_0.length c0_0)) (fun _ hk => hk.2) (.slice none 0 0)) (fun _ hk => ⟨hk.1.1.1, ⟨hk.1.1.2.1, ⟨(by simp [Value.ownBlock]), ⟨(by simp [Value.ownBlock]), ⟨hk.1.1.2.2.1, ⟨hk.1.1.2.2.2, hk.1.2⟩⟩⟩⟩⟩⟩)⟩, ⟨by first | exact Kd.S_nil _ _ _ _ _ | exact Kd.N_nil _ _ _ _ _ | exact Kd.V_nil _ _ _ _ _ | exact Kd.Q_nil _ _ _ _ _ | exact Kd.R_nil _ _ _ _ _⟩, ⟨by (with_reducible repeat (first | refine blk_drewN ?_ _ | refine blk_drew ?_ | refine blk_alloc ?_ _)); refine blk_far ?_ NB293_316.out _; (with_reducible repeat (first | refine blk_drewN ?_ _ | refine blk_drew ?_ | refine blk_alloc ?_ _)); refine blk_far ?_ NB293_316.out _; (with_reducible repeat (first | refine blk_drewN ?_ _ | refine blk_drew ?_ | refine blk_alloc ?_ _)); exact BK293.out⟩, ⟨by (with_reducible repeat (first | refine blk_drewN ?_ _ | refine blk_drew ?_ | refine blk_alloc ?_ _)); refine blk_far ?_ NB294_316.out _; (with_reducible repeat (first | refine blk_drewN ?_ _ | refine blk_drew ?_ | refine blk_alloc ?_ _)); refine blk_far ?_ NB294_316.out _; (with_reducible repeat (first | refine blk_drewN ?_ _ | refine blk_drew ?_ | refine blk_alloc ?_ _)); exact BK294.out⟩, ⟨by (with_reducible repeat (first | refine blk_drewN ?_ _ | refine blk_drew ?_ | refine blk_alloc ?_ _)); refine blk_put (cs := #[.slice A0_0 l0_0.length c0_0, .slice none 0 0]) ?_ 1 _ rfl; (with_reducible repeat (first | refine blk_drewN ?_ _ | refine blk_drew ?_ | refine blk_alloc ?_ _)); refine blk_put (cs := #[.slice none 0 0, .slice none 0 0]) ?_ 0 _ rfl; (with_reducible repeat (first | refine blk_drewN ?_ _ | refine blk_drew ?_ | refine blk_alloc ?_ _)); exact BK316.out⟩, ⟨bs3_ HB GE293 GE294 GE316⟩⟩
        case round =>
         clear H'
         try clear c2; try clear p2; try clear p3; try clear q3; try clear hx3; try clear c6; try clear p6; try clear c7; try clear c8; try clear c27; try clear p31; try clear q31; try clear hx31; try clear c62; try clear c62b0; try clear c63; try clear p64; try clear c70; try clear c70b0; try clear c72; try clear c73; try clear c74; try clear c74b0; try clear c77; try clear c83; try clear c86; try clear c87; try clear hcz78_0; try clear hcz78_1; try clear hcz84_0; try clear hcz84_1; try clear hcz88_0; try clear hcz88_1; try clear hfz78_0; try clear hfz78_1; try clear hfz84_0; try clear hfz84_1; try clear hfz88_0; try clear hfz88_1; try clear hx312_0; try clear hx314_0; try clear hx315_0; try clear p312; try clear p314; try clear p315; try clear q312; try clear q314; try clear q315
         obtain ⟨x17_4, x18_4, x317001_4, u317001, rfl, HA, HK4, HO_9, HO_17, HO_294000, HO_294001, HO_317000, HO_317001, BK293, BK294, BK316, HB⟩ := hrel
         cases gk with
         | zero => exact absurd HA.out (by simp [cohousingref26_Next.l3])
         | succ k4 =>
          have H := HA.out
          clear HA
          simp only [cohousingref26_Next.l3] at H
          by_cases c89 : x18_4 < (l0_1.length : Int)
          rotate_left
          ·rw [if_neg c89] at H
           have c89b0 : decide (x18_4 < (l0_1.length : Int)) = false := decide_eq_false c89
           clear c89
           simp only [Option.some.injEq, Prod.mk.injEq] at H
           obtain ⟨rfl, rfl, rfl⟩ := H
           have hnb152 := NB293_294.out
           have hnc152 := NB294_293.out
           have hnb153 := NB293_316.out
           have hnc153 := NB316_293.out
           have hcz154_0 := bc0_ BK293.out
           have hcz154_1 := bc1_ BK293.out
           have hfz154_0 := blk_frozen BK293.out 0
           have hfz154_1 := blk_frozen BK293.out 1
           have hnb155 := NB316_294.out
           have hnc155 := NB294_316.out
           have hcz156_0 := bc0_ BK316.out
           have hcz156_1 := bc1_ BK316.out
           have hfz156_0 := blk_frozen BK316.out 0
           have hfz156_1 := blk_frozen BK316.out 1
           have hcz157_0 := bc0_ BK294.out
           have hcz157_1 := bc1_ BK294.out
           have hfz157_0 := blk_frozen BK294.out 0
           have hfz157_1 := blk_frozen BK294.out 1
           obtain ⟨Ao158, co158, eo158⟩ := Kd.N_slice HO_317001.out
           subst eo158
           go_wp2
           refine bodyPost_ret (results_ct rfl _ _ gb294 25 #[.slice A0_0 l0_0.length c0_0, .slice Ao158 x317001_4.length co158] (0, 0) _ rfl (by (with_reducible repeat (first | refine blk_drewN ?_ _ | refine blk_drew ?_ | refine blk_alloc ?_ _)); refine blk_put (cs := #[.slice A0_0 l0_0.length c0_0, .slice none 0 0]) ?_ 1 _ rfl; (with_reducible repeat (first | refine blk_drewN ?_ _ | refine blk_drew ?_ | refine blk_alloc ?_ _)); refine blk_put (cs := #[.slice none 0 0, .slice none 0 0]) ?_ 0 _ rfl; (with_reducible repeat (first | refine blk_drewN ?_ _ | refine blk_drew ?_ | refine blk_alloc ?_ _)); exact BK294.out) Try.underlying25 rfl (by kernel_rfl)) rfl ?_
           exact ⟨_, _, ew_, by (with_reducible repeat (first | apply Kd.V_alloc | apply Kd.V_drewN | apply Kd.V_drew)); exact Kd.V_mono (Kd.V_far (p := ⟨gb294, 1, none⟩) (Kd.V_far (p := ⟨gb294, 0, none⟩) (Kd.V_mono HO_317000.out (fun k_ hk => (⟨hk, hk.2.2.2.2.2.1⟩ : _ ∧ k_ ≠ gb294))) (fun _ hk => hk.2) (.slice A0_0 l0_0.length c0_0)) (fun _ hk => hk.2) (.slice Ao158 x317001_4.length co158)) wm_, by (with_reducible repeat (first | apply Kd.N_alloc | apply Kd.N_drewN | apply Kd.N_drew)); exact Kd.N_mono (Kd.N_far (p := ⟨gb294, 1, none⟩) (Kd.N_far (p := ⟨gb294, 0, none⟩) (Kd.N_mono HO_317001.out (fun k_ hk => (⟨hk, hk.2.2.2.2.1⟩ : _ ∧ k_ ≠ gb294))) (fun _ hk => hk.2) (.slice A0_0 l0_0.length c0_0)) (fun _ hk => hk.2) (.slice Ao158 x317001_4.length co158)) (fun _ hk => hk.1.1), bs3_ HB GE293 GE294 GE316⟩
          rw [if_pos c89] at H
          have c89b0 : decide (x18_4 < (l0_1.length : Int)) = true := decide_eq_true c89
          clear c89
          by_cases c90 : 0 ≤ x18_4
          rotate_left
          ·rw [if_neg c90] at H
           exact absurd H (by simp)
          rw [if_pos c90] at H
          have c90b0 : decide (0 ≤ x18_4) = true := decide_eq_true c90
          clear c90
          replace H := Option.bind_eq_some_iff.mp H
          obtain ⟨t318, A910, H⟩ := H
          replace H : (if t318 ≥ 0 then (cohousingref26_Next.l3 k4 l2 x9_2 x17_4 (wrap64 (x18_4 + 1)) l0_0 l0_1 l0_0 x317001_4) else (if x18_4 < (x9_2.length : Int) then (if (rd x9_2 x18_4) = 0 then (if x17_4.length < 17592186044416 then (if x317001_4.length < 3518437208883 then (cohousingref26_Next.l3 k4 l2 x9_2 (x17_4 ++ [rd x9_2 x18_4]) (wrap64 (x18_4 + 1)) l0_0 l0_1 l0_0 (x317001_4 ++ [(⟨(rd_T46 l0_1 x18_4).f0, rd x9_2 x18_4, (rd_T46 l0_1 x18_4).f2⟩ : S46)])) else (none)) else (none)) else ((cohousingref23_In.f k4 x17_4 (rd x9_2 x18_4)).bind fun t331 => (if t331 ≥ 0 then (some (([] : List (S84)), ([] : List (S46)), 22)) else (if x17_4.length < 17592186044416 then (if x317001_4.length < 3518437208883 then (cohousingref26_Next.l3 k4 l2 x9_2 (x17_4 ++ [rd x9_2 x18_4]) (wrap64 (x18_4 + 1)) l0_0 l0_1 l0_0 (x317001_4 ++ [(⟨(rd_T46 l0_1 x18_4).f0, rd x9_2 x18_4, (rd_T46 l0_1 x18_4).f2⟩ : S46)])) else (none)) else (none))))) else (none))) = some (r1, r2, r3) := H
          have A91 := mk_ A910
          clear A910
          by_cases c92 : t318 ≥ 0
          ·rw [if_pos c92] at H
           have c92b0 : decide (0 ≤ t318) = true := decide_eq_true c92
           clear c92
           have H' := mk_ H
           clear H
           have hnb93 := NB293_294.out
           have hnc93 := NB294_293.out
           have hnb94 := NB293_316.out
           have hnc94 := NB316_293.out
           have hcz95_0 := bc0_ BK293.out
           have hcz95_1 := bc1_ BK293.out
           have hfz95_0 := blk_frozen BK293.out 0
           have hfz95_1 := blk_frozen BK293.out 1
           have p317 : 0 ≤ (x18_4 : Int) := od_
           have q317 : x18_4 < (l0_1.length : Int) := od_
           obtain ⟨ad317, A317_2, c317_2, e317, hx317_0, hx317_1, hx317_2, hl317_2, hi317_2⟩ := at_T46 (Kd.V_reads' HO_294001.out).2.2 x18_4 p317 q317
           cases e317
           obtain ⟨ce317, hce317, hMe317, hcc317⟩ := Kd.V_get HO_294001.out z46 x18_4 p317 (by first | exact q317 | exact od_ | (have e_ := (Kd.V_reads' HO_294001.out).1; omega))
           obtain ⟨ua317_2, uc317_2, rfl, ul317_2, ge317_2⟩ := k46_openF hMe317
           have hv317_2 := hcc317 2 _ rfl
           rw [add_field _ _ 2 (by omega)] at hv317_2
           replace hv317_2 := Option.some.inj (hv317_2.symm.trans hx317_2)
           injection hv317_2 with hva_ hvn_ hvc_
           rw [hva_] at ge317_2
           rw [hvc_] at ul317_2
           have HL317_2 := mk_ (show Kd.V (Kd.int .i64) 3 _ w.heap.size _ _ ((rd_T46 l0_1 x18_4).f2) from Kd.V_mk ul317_2 ge317_2)
           clear hva_ hvn_ hvc_ ge317_2 ul317_2
           clear hcc317 hce317
           have HR317_2 := mk_ hi317_2
           have HC317_2 := mk_ hl317_2
           clear hi317_2 hl317_2
           replace p317 := eq_true p317
           replace q317 := eq_true q317
           go_wp2_with (first | ((with_reducible refine gate_callee (f := 24) rfl ?_); refine gl_ (some 134) Try.func24 #[.slice A2 l2.length c2, .int .i64 ((rd_T46 l0_1 x18_4).f0)] ?_; (with_reducible refine (cohousingref23_In.calls k4 _ _ l2 ((rd_T46 l0_1 x18_4).f0) t318 _ ?side1 ?side2 A91.out).mono ?_); (case side1 => exact cc_ ((Kd.C_below HR2.out HB.out))); (case side2 => exact HC2.out); rintro e w' ⟨rfl, ⟨nd, rfl⟩⟩; refine ⟨_, rfl, ?_⟩))
           go_roundg k4
           case measure => have := HK1.out; have := HK2.out; have := HK3.out; have := HK4.out; omega
           case rel => exact ⟨(x17_4), (wrap64 (x18_4 + 1)), (x317001_4), (u317001), sd_, H', ⟨by have := HK1.out; have := HK2.out; have := HK3.out; have := HK4.out; omega⟩, ⟨rr_ HO_9⟩, ⟨rr_ HO_17⟩, ⟨vv_ HO_294000⟩, ⟨vv_ HO_294001⟩, ⟨vv_ HO_317000⟩, ⟨nn_ HO_317001⟩, ⟨kk_ BK293⟩, ⟨kk_ BK294⟩, ⟨kk_ BK316⟩, ⟨bs3_ HB GE293 GE294 GE316⟩⟩
          rw [if_neg c92] at H
          have c92b0 : decide (0 ≤ t318) = false := decide_eq_false c92
          clear c92
          by_cases c96 : x18_4 < (x9_2.length : Int)
          rotate_left
          ·rw [if_neg c96] at H
           exact absurd H (by simp)
          rw [if_pos c96] at H
          have c96b0 : decide (x18_4 < (x9_2.length : Int)) = true := decide_eq_true c96
          clear c96
          by_cases c97 : (rd x9_2 x18_4) = 0
          ·rw [if_pos c97] at H
           have c97b0 : ((rd x9_2 x18_4) == 0) = true := beq_iff_eq.mpr c97
           have c97b1 : ((rd x9_2 x18_4) != 0) = false := bne_eq_false_iff_eq.mpr c97
           clear c97
           by_cases c98 : x17_4.length < 17592186044416
           rotate_left
           ·rw [if_neg c98] at H
            exact absurd H (by simp)
           rw [if_pos c98] at H
           have LMc98 := mk_ c98
           clear c98
           obtain ⟨y321, hy321⟩ : ∃ y_ : List Int, y_ = (x17_4 ++ [rd x9_2 x18_4]) := ⟨_, rfl⟩
           replace H : (if x317001_4.length < 3518437208883 then (cohousingref26_Next.l3 k4 l2 x9_2 y321 (wrap64 (x18_4 + 1)) l0_0 l0_1 l0_0 (x317001_4 ++ [(⟨(rd_T46 l0_1 x18_4).f0, rd x9_2 x18_4, (rd_T46 l0_1 x18_4).f2⟩ : S46)])) else (none)) = some (r1, r2, r3) := by first | (rw [hy321]; with_reducible exact H) | (have H2_ := (Option.bind_some _ _).symm.trans H; rw [hy321]; with_reducible exact H2_) | (have H2_ := (Option.bind_some _ _).symm.trans H; with_reducible exact H2_) | with_reducible exact H | (rw [hy321]; exact H) | exact H
           have Ny321 := mk_ hy321
           clear hy321
           by_cases c99 : x317001_4.length < 3518437208883
           rotate_left
           ·rw [if_neg c99] at H
            exact absurd H (by simp)
           rw [if_pos c99] at H
           have LMc99 := mk_ c99
           clear c99
           obtain ⟨y327, hy327⟩ : ∃ y_ : List (S46), y_ = (x317001_4 ++ [(⟨(rd_T46 l0_1 x18_4).f0, rd x9_2 x18_4, (rd_T46 l0_1 x18_4).f2⟩ : S46)]) := ⟨_, rfl⟩
           replace H : (cohousingref26_Next.l3 k4 l2 x9_2 y321 (wrap64 (x18_4 + 1)) l0_0 l0_1 l0_0 y327) = some (r1, r2, r3) := by first | (rw [hy327]; with_reducible exact H) | (have H2_ := (Option.bind_some _ _).symm.trans H; rw [hy327]; with_reducible exact H2_) | (have H2_ := (Option.bind_some _ _).symm.trans H; with_reducible exact H2_) | with_reducible exact H | (rw [hy327]; exact H) | exact H
           have Ny327 := mk_ hy327
           clear hy327
           have H' := mk_ H
           clear H
           have hnb100 := NB293_294.out
           have hnc100 := NB294_293.out
           have hnb101 := NB293_316.out
           have hnc101 := NB316_293.out
           have hcz102_0 := bc0_ BK293.out
           have hcz102_1 := bc1_ BK293.out
           have hfz102_0 := blk_frozen BK293.out 0
           have hfz102_1 := blk_frozen BK293.out 1
           have p317 : 0 ≤ (x18_4 : Int) := od_
           have q317 : x18_4 < (l0_1.length : Int) := od_
           obtain ⟨ad317, A317_2, c317_2, e317, hx317_0, hx317_1, hx317_2, hl317_2, hi317_2⟩ := at_T46 (Kd.V_reads' HO_294001.out).2.2 x18_4 p317 q317
           cases e317
           obtain ⟨ce317, hce317, hMe317, hcc317⟩ := Kd.V_get HO_294001.out z46 x18_4 p317 (by first | exact q317 | exact od_ | (have e_ := (Kd.V_reads' HO_294001.out).1; omega))
           obtain ⟨ua317_2, uc317_2, rfl, ul317_2, ge317_2⟩ := k46_openF hMe317
           have hv317_2 := hcc317 2 _ rfl
           rw [add_field _ _ 2 (by omega)] at hv317_2
           replace hv317_2 := Option.some.inj (hv317_2.symm.trans hx317_2)
           injection hv317_2 with hva_ hvn_ hvc_
           rw [hva_] at ge317_2
           rw [hvc_] at ul317_2
           have HL317_2 := mk_ (show Kd.V (Kd.int .i64) 3 _ w.heap.size _ _ ((rd_T46 l0_1 x18_4).f2) from Kd.V_mk ul317_2 ge317_2)
           clear hva_ hvn_ hvc_ ge317_2 ul317_2
           clear hcc317 hce317
           have HR317_2 := mk_ hi317_2
           have HC317_2 := mk_ hl317_2
           clear hi317_2 hl317_2
           replace p317 := eq_true p317
           replace q317 := eq_true q317
           go_wp2_with (first | ((with_reducible refine gate_callee (f := 24) rfl ?_); refine gl_ (some 134) Try.func24 #[.slice A2 l2.length c2, .int .i64 ((rd_T46 l0_1 x18_4).f0)] ?_; (with_reducible refine (cohousingref23_In.calls k4 _ _ l2 ((rd_T46 l0_1 x18_4).f0) t318 _ ?side1 ?side2 A91.out).mono ?_); (case side1 => exact cc_ ((Kd.C_below HR2.out HB.out))); (case side2 => exact HC2.out); rintro e w' ⟨rfl, ⟨nd, rfl⟩⟩; refine ⟨_, rfl, ?_⟩; (try (rw [drewN_self wr]; generalize hq_ : World.drewN wr _ = wr; have n0_ : Aside0 (Kd.V (Kd.int .i64) 3 wr w.heap.size (fun k_ => ((P0_0_ k_ ∨ P0_1_ k_) ∨ w.heap.size ≤ k_) ∧ some k_ ≠ (u17 : Value).ownBlock ∧ some k_ ≠ (u317001 : Value).ownBlock ∧ some k_ ≠ (v297 : Value).ownBlock ∧ k_ ≠ gb293 ∧ k_ ≠ gb294 ∧ k_ ≠ gb316) (.slice A317_2 ((rd_T46 l0_1 x18_4).f2).length c317_2) ((rd_T46 l0_1 x18_4).f2)) := ⟨by rw [← hq_]; exact (vm_ HL317_2)⟩; have n1_ : Aside0 (Kd.R (Kd.int .i64) 3 wr w.heap.size (fun k_ => (w.heap.size ≤ k_) ∧ some k_ ≠ (v297 : Value).ownBlock) u17 x17_4) := ⟨by rw [← hq_]; exact (rr_ HO_17)⟩; have n2_ : Aside0 (Kd.V k84 84 wr w.heap.size (fun k_ => ((P0_0_ k_ ∨ P0_1_ k_) ∨ w.heap.size ≤ k_) ∧ some k_ ≠ (u17 : Value).ownBlock ∧ some k_ ≠ (u317001 : Value).ownBlock ∧ some k_ ≠ (v297 : Value).ownBlock ∧ k_ ≠ gb293 ∧ k_ ≠ gb294 ∧ k_ ≠ gb316) (.slice A0_0 l0_0.length c0_0) l0_0) := ⟨by rw [← hq_]; exact (vm_ HO_294000)⟩; have n3_ : Aside0 (Kd.V k46 46 wr w.heap.size (fun k_ => ((P0_0_ k_ ∨ P0_1_ k_) ∨ w.heap.size ≤ k_) ∧ some k_ ≠ (u17 : Value).ownBlock ∧ some k_ ≠ (u317001 : Value).ownBlock ∧ some k_ ≠ (v297 : Value).ownBlock ∧ k_ ≠ gb293 ∧ k_ ≠ gb294 ∧ k_ ≠ gb316) (.slice (some ad317) l0_1.length c0_1) l0_1) := ⟨by rw [← hq_]; exact (vm_ HO_294001)⟩; have n4_ : Aside0 (Kd.V k84 84 wr w.heap.size (fun k_ => ((P0_0_ k_ ∨ P0_1_ k_) ∨ w.heap.size ≤ k_) ∧ some k_ ≠ (u17 : Value).ownBlock ∧ some k_ ≠ (u317001 : Value).ownBlock ∧ some k_ ≠ (v297 : Value).ownBlock ∧ k_ ≠ gb293 ∧ k_ ≠ gb294 ∧ k_ ≠ gb316) (.slice A0_0 l0_0.length c0_0) l0_0) := ⟨by rw [← hq_]; exact (vm_ HO_317000)⟩; have n5_ : Aside0 (Kd.N k46 46 wr w.heap.size (fun k_ => ((P0_0_ k_ ∨ P0_1_ k_) ∨ w.heap.size ≤ k_) ∧ some k_ ≠ (u17 : Value).ownBlock ∧ some k_ ≠ (v297 : Value).ownBlock ∧ k_ ≠ gb293 ∧ k_ ≠ gb294 ∧ k_ ≠ gb316) u317001 x317001_4) := ⟨by rw [← hq_]; exact (nm_ HO_317001)⟩; have n6_ : Aside0 (Kd.R (Kd.int .i64) 3 wr w.heap.size (fun k_ => (w.heap.size ≤ k_) ∧ some k_ ≠ (u17 : Value).ownBlock) v297 x9_2) := ⟨by rw [← hq_]; exact (rr_ HO_9)⟩; have n7_ : Aside0 (wr.heap[gb293]? = some (.cells #[.slice A0_0 l0_0.length c0_0, .slice (some ad317) l0_1.length c0_1] 25 (0, 0))) := ⟨by rw [← hq_]; exact (kk_ BK293)⟩; have n8_ : Aside0 (wr.heap[gb294]? = some (.cells #[.slice none 0 0, .slice none 0 0] 25 (0, 0))) := ⟨by rw [← hq_]; exact (kk_ BK294)⟩; have n9_ : Aside0 (wr.heap[gb316]? = some (.cells #[.slice A0_0 l0_0.length c0_0, u317001] 25 (0, 0))) := ⟨by rw [← hq_]; exact (kk_ BK316)⟩; have n10_ : Aside0 (Below w.heap.size w wr) := ⟨by rw [← hq_]; exact (bs3_ HB GE293 GE294 GE316)⟩; have n11_ : Aside0 (Kd.C (Kd.int .i64) wr A317_2 ((rd_T46 l0_1 x18_4).f2).length ((rd_T46 l0_1 x18_4).f2)) := ⟨by rw [← hq_]; exact (cc_ HR317_2.out)⟩; clear HL317_2 HO_17 HO_294000 HO_294001 HO_317000 HO_317001 HO_9 BK293 BK294 BK316 HB HR317_2 hq_; revert n0_ n1_ n2_ n3_ n4_ n5_ n6_ n7_ n8_ n9_ n10_ n11_; intro HL317_2 HO_17 HO_294000 HO_294001 HO_317000 HO_317001 HO_9 BK293 BK294 BK316 HB HR317_2)); obtain ⟨Ao103, co103, eo103⟩ := Kd.R_slice HO_9.out; subst eo103; have p319 : 0 ≤ (x18_4 : Int) := od_; have q319 : x18_4 < (x9_2.length : Int) := od_; obtain ⟨ad319, e319, hx319_0⟩ := Kd.at_int (Kd.R_reads' HO_9.out).2.2 x18_4 p319 q319; cases e319; replace p319 := eq_true p319; replace q319 := eq_true q319; have p320 : 0 ≤ (x18_4 : Int) := od_; have q320 : x18_4 < (x9_2.length : Int) := od_; obtain ⟨ad320, e320, hx320_0⟩ := Kd.at_int (Kd.R_reads' HO_9.out).2.2 x18_4 p320 q320; obtain rfl : ad319 = ad320 := (by injection e320); replace p320 := eq_true p320; replace q320 := eq_true q320) | ((with_reducible refine gate_builtin (b := .append) (xs := #[.tmp 151, .tmp 156]) rfl ?_); at_builtin; refine Kd.R_append (Kd.int .i64) (w0 := w) w.heap.size rfl (.tmp 151) (.tmp 156) 29 3 (.int .i64 0) 8 rfl Try.underlying29 info3 rfl (by decide) (by omega) u17 x17_4 (rd x9_2 x18_4) [.int .i64 (rd x9_2 x18_4)] (fun k_ => (w.heap.size ≤ k_) ∧ some k_ ≠ (.slice (some ad319) x9_2.length co103 : Value).ownBlock) (fun _ => False) rfl rfl ?aP (fun _ hk => hk.elim) ?aF ?aO ?aB ?aS ?aL ?_; (case aP => exact rfl); (case aB => exact (bs3_ HB GE293 GE294 GE316)); (case aF => exact (fun k_ hk => ⟨(Nat.le_trans (below_size (bs3_ HB GE293 GE294 GE316)) hk), Kd.fresh' (Kd.R_lt (rr_ HO_9)) k_ hk⟩)); (case aO => exact (rr_ HO_17)); (case aS => exact (below_size (bs3_ HB GE293 GE294 GE316))); (case aL => have := LMc98.out; omega); intro v322 w104 ho hb hg hat; rw [← Ny321.out] at ho; have n0_ := mk_ (Kd.R_after (ok := (fun k_ => (w.heap.size ≤ k_))) (rr_ HO_9) hg hat); have n1_ := mk_ (Kd.V_afterv (ok := (fun k_ => ((P0_0_ k_ ∨ P0_1_ k_) ∨ w.heap.size ≤ k_) ∧ some k_ ≠ (.slice (some ad319) x9_2.length co103 : Value).ownBlock ∧ some k_ ≠ (u317001 : Value).ownBlock ∧ k_ ≠ gb293 ∧ k_ ≠ gb294 ∧ k_ ≠ gb316)) (vm_ HO_294000) hg hat); have n2_ := mk_ (Kd.V_afterv (ok := (fun k_ => ((P0_0_ k_ ∨ P0_1_ k_) ∨ w.heap.size ≤ k_) ∧ some k_ ≠ (.slice (some ad319) x9_2.length co103 : Value).ownBlock ∧ some k_ ≠ (u317001 : Value).ownBlock ∧ k_ ≠ gb293 ∧ k_ ≠ gb294 ∧ k_ ≠ gb316)) (vm_ HO_294001) hg hat); have n3_ := mk_ (Kd.V_afterv (ok := (fun k_ => ((P0_0_ k_ ∨ P0_1_ k_) ∨ w.heap.size ≤ k_) ∧ some k_ ≠ (.slice (some ad319) x9_2.length co103 : Value).ownBlock ∧ some k_ ≠ (u317001 : Value).ownBlock ∧ k_ ≠ gb293 ∧ k_ ≠ gb294 ∧ k_ ≠ gb316)) (vm_ HO_317000) hg hat); have n4_ := mk_ (Kd.N_afterv (ok := (fun k_ => ((P0_0_ k_ ∨ P0_1_ k_) ∨ w.heap.size ≤ k_) ∧ some k_ ≠ (.slice (some ad319) x9_2.length co103 : Value).ownBlock ∧ k_ ≠ gb293 ∧ k_ ≠ gb294 ∧ k_ ≠ gb316)) (nm_ HO_317001) hg hat); have n5_ := mk_ (blk_grown (kk_ BK293) hg (Kd.R_ne HO_17.out BK293.out (by decide))); have n6_ := mk_ (blk_grown (kk_ BK294) hg (Kd.R_ne HO_17.out BK294.out (by decide))); have n7_ := mk_ (blk_grown (kk_ BK316) hg (Kd.R_ne HO_17.out BK316.out (by decide))); have n8_ := mk_ (Kd.V_afterv (ok := (fun k_ => ((P0_0_ k_ ∨ P0_1_ k_) ∨ w.heap.size ≤ k_) ∧ some k_ ≠ (.slice (some ad319) x9_2.length co103 : Value).ownBlock ∧ some k_ ≠ (u317001 : Value).ownBlock ∧ k_ ≠ gb293 ∧ k_ ≠ gb294 ∧ k_ ≠ gb316)) (vm_ HL317_2) hg hat); have n9_ := mk_ (hb); have n10_ := mk_ (ho); clear HO_9 HO_294000 HO_294001 HO_317000 HO_317001 BK293 BK294 BK316 HL317_2 HB HO_17; revert n0_ n1_ n2_ n3_ n4_ n5_ n6_ n7_ n8_ n9_ n10_; intro HO_9 HO_294000 HO_294001 HO_317000 HO_317001 BK293 BK294 BK316 HL317_2 HB HO323; clear ho hb hg hat; have hcz105_0 := bc0_ BK293.out; have hcz105_1 := bc1_ BK293.out; have hfz105_0 := blk_frozen BK293.out 0; have hfz105_1 := blk_frozen BK293.out 1; have p324 : 0 ≤ (x18_4 : Int) := od_; have q324 : x18_4 < (l0_1.length : Int) := od_; obtain ⟨ad324, A324_2, c324_2, e324, hx324_0, hx324_1, hx324_2, hl324_2, hi324_2⟩ := at_T46 (Kd.V_reads' HO_294001.out).2.2 x18_4 p324 q324; obtain rfl : ad317 = ad324 := (by injection e324); obtain ⟨ce324, hce324, hMe324, hcc324⟩ := Kd.V_get HO_294001.out z46 x18_4 p324 (by first | exact q324 | exact od_ | (have e_ := (Kd.V_reads' HO_294001.out).1; omega)); obtain ⟨ua324_2, uc324_2, rfl, ul324_2, ge324_2⟩ := k46_openF hMe324; have hv324_2 := hcc324 2 _ rfl; rw [add_field _ _ 2 (by omega)] at hv324_2; replace hv324_2 := Option.some.inj (hv324_2.symm.trans hx324_2); injection hv324_2 with hva_ hvn_ hvc_; rw [hva_] at ge324_2; rw [hvc_] at ul324_2; have HL324_2 := mk_ (show Kd.V (Kd.int .i64) 3 _ w.heap.size _ _ ((rd_T46 l0_1 x18_4).f2) from Kd.V_mk ul324_2 ge324_2); clear hva_ hvn_ hvc_ ge324_2 ul324_2; clear hcc324 hce324; have HR324_2 := mk_ hi324_2; have HC324_2 := mk_ hl324_2; clear hi324_2 hl324_2; replace p324 := eq_true p324; replace q324 := eq_true q324) | ((with_reducible refine gate_dst (N := 19) rfl ?_); refine box_event ?hg (N := 19) ?hd (cs := #[.int .i64 0, .int .i64 0, .slice none 0 0]) (t := 46) ?hr ?_; (case hd => rfl); (case hg => rfl); (case hr => first | (go_simp; done) | (go_simp; rfl)); intro gb325 hg w106 hbox hb; have n0_ := mk_ (Kd.R_below (rr_ HO_9) hb); have n1_ := mk_ (Kd.V_below (Kd.V_elderB (vv_ HO_294000) gb325 (Nat.le_of_eq hg.symm)) hb); have n2_ := mk_ (Kd.V_below (Kd.V_elderB (vv_ HO_294001) gb325 (Nat.le_of_eq hg.symm)) hb); have n3_ := mk_ (Kd.V_below (Kd.V_elderB (vv_ HO_317000) gb325 (Nat.le_of_eq hg.symm)) hb); have n4_ := mk_ (Kd.N_below (Kd.N_elderB (nn_ HO_317001) gb325 (Nat.le_of_eq hg.symm)) hb); have n5_ := mk_ (Kd.V_below (Kd.V_elderB (vv_ HL317_2) gb325 (Nat.le_of_eq hg.symm)) hb); have n6_ := mk_ (Kd.R_below (rr_ HO323) hb); have n7_ := mk_ (Kd.V_below (Kd.V_elderB (vv_ HL324_2) gb325 (Nat.le_of_eq hg.symm)) hb); have n8_ := mk_ (blk_below (kk_ BK293) hb); have n9_ := mk_ (blk_below (kk_ BK294) hb); have n10_ := mk_ (blk_below (kk_ BK316) hb); have n11_ := mk_ (Kd.C_below (cc_ HR324_2.out) hb); have n12_ := mk_ (below_step (bs3_ HB GE293 GE294 GE316) hb); have n13_ := mk_ (hbox); have n14_ := mk_ (bz_ hg (bs3_ HB GE293 GE294 GE316)); have n15_ := mk_ (bz_ hg (bs3_ HB GE293 GE294 GE316)); have n16_ := mk_ (bl_ hg (kk_ BK293)); have n17_ := mk_ (bg_ hg (kk_ BK293)); have n18_ := mk_ (bl_ hg (kk_ BK294)); have n19_ := mk_ (bg_ hg (kk_ BK294)); have n20_ := mk_ (bl_ hg (kk_ BK316)); have n21_ := mk_ (bg_ hg (kk_ BK316)); clear HO_9 HO_294000 HO_294001 HO_317000 HO_317001 HL317_2 HO323 HL324_2 BK293 BK294 BK316 HR324_2 HB; revert n0_ n1_ n2_ n3_ n4_ n5_ n6_ n7_ n8_ n9_ n10_ n11_ n12_ n13_ n14_ n15_ n16_ n17_ n18_ n19_ n20_ n21_; intro HO_9 HO_294000 HO_294001 HO_317000 HO_317001 HL317_2 HO323 HL324_2 BK293 BK294 BK316 HR324_2 HB BK325 GW325 GE325 NB293_325 NB325_293 NB294_325 NB325_294 NB316_325 NB325_316; clear hb hbox hg; have hnb107 := NB325_293.out; have hnc107 := NB293_325.out; have hnb108 := NB325_294.out; have hnc108 := NB294_325.out; have hnb109 := NB325_316.out; have hnc109 := NB316_325.out; have hcz110_0 := bc0_ BK325.out; have hcz110_1 := bc1_ BK325.out; have hcz110_2 := bc2_ BK325.out; have hfz110_0 := blk_frozen BK325.out 0; have hfz110_1 := blk_frozen BK325.out 1; have hfz110_2 := blk_frozen BK325.out 2) | ((with_reducible refine gate_store (t := 46) (p := 19) rfl ?_); refine store_event (t := 46) (p := 19) (v := ?vo_w111) (w1 := (((w106.setCell ⟨gb325, 0, none⟩ (.int .i64 ((rd_T46 l0_1 x18_4).f0))).setCell ⟨gb325, 1, none⟩ (.int .i64 ((rd_T46 l0_1 x18_4).f1))).setCell ⟨gb325, 2, none⟩ (.slice A324_2 ((rd_T46 l0_1 x18_4).f2).length c324_2))) ?hg ?ho ?hn ?hr ?_; (case ho => rfl); (case hg => rfl); (case hn => rfl); (case hr => first | (go_simp; done) | (go_simp; rfl)); intro w111 hw; have n0_ : Aside0 (Kd.R (Kd.int .i64) 3 w111 w.heap.size (fun k_ => (w.heap.size ≤ k_) ∧ some k_ ≠ (v322 : Value).ownBlock) (.slice (some ad319) x9_2.length co103) x9_2) := ⟨(by rw [hw]; exact (by (with_reducible repeat (first | apply Kd.R_alloc | apply Kd.R_drewN | apply Kd.R_drew)); exact Kd.R_mono (Kd.R_far (p := ⟨gb325, 2, none⟩) (Kd.R_far (p := ⟨gb325, 1, none⟩) (Kd.R_far (p := ⟨gb325, 0, none⟩) (Kd.R_types HO_9.out BK325.out (by decide)) (fun _ hk => hk.2) (.int .i64 ((rd_T46 l0_1 x18_4).f0))) (fun _ hk => hk.2) (.int .i64 ((rd_T46 l0_1 x18_4).f1))) (fun _ hk => hk.2) (.slice A324_2 ((rd_T46 l0_1 x18_4).f2).length c324_2)) wm_))⟩; have n1_ : Aside0 (Kd.V k84 84 w111 w.heap.size (fun k_ => ((P0_0_ k_ ∨ P0_1_ k_) ∨ w.heap.size ≤ k_) ∧ some k_ ≠ (.slice (some ad319) x9_2.length co103 : Value).ownBlock ∧ some k_ ≠ (u317001 : Value).ownBlock ∧ some k_ ≠ (v322 : Value).ownBlock ∧ k_ ≠ gb293 ∧ k_ ≠ gb294 ∧ k_ ≠ gb316 ∧ k_ ≠ gb325) (.slice A0_0 l0_0.length c0_0) l0_0) := ⟨(by rw [hw]; exact (by (with_reducible repeat (first | apply Kd.V_alloc | apply Kd.V_drewN | apply Kd.V_drew)); exact Kd.V_mono (Kd.V_far (p := ⟨gb325, 2, none⟩) (Kd.V_far (p := ⟨gb325, 1, none⟩) (Kd.V_far (p := ⟨gb325, 0, none⟩) (Kd.V_mono HO_294000.out (fun k_ hk => (⟨hk, hk.2⟩ : _ ∧ k_ ≠ gb325))) (fun _ hk => hk.2) (.int .i64 ((rd_T46 l0_1 x18_4).f0))) (fun _ hk => hk.2) (.int .i64 ((rd_T46 l0_1 x18_4).f1))) (fun _ hk => hk.2) (.slice A324_2 ((rd_T46 l0_1 x18_4).f2).length c324_2)) wm_))⟩; have n2_ : Aside0 (Kd.V k46 46 w111 w.heap.size (fun k_ => ((P0_0_ k_ ∨ P0_1_ k_) ∨ w.heap.size ≤ k_) ∧ some k_ ≠ (.slice (some ad319) x9_2.length co103 : Value).ownBlock ∧ some k_ ≠ (u317001 : Value).ownBlock ∧ some k_ ≠ (v322 : Value).ownBlock ∧ k_ ≠ gb293 ∧ k_ ≠ gb294 ∧ k_ ≠ gb316 ∧ k_ ≠ gb325) (.slice (some ad317) l0_1.length c0_1) l0_1) := ⟨(by rw [hw]; exact (by (with_reducible repeat (first | apply Kd.V_alloc | apply Kd.V_drewN | apply Kd.V_drew)); exact Kd.V_mono (Kd.V_far (p := ⟨gb325, 2, none⟩) (Kd.V_far (p := ⟨gb325, 1, none⟩) (Kd.V_far (p := ⟨gb325, 0, none⟩) (Kd.V_mono HO_294001.out (fun k_ hk => (⟨hk, hk.2⟩ : _ ∧ k_ ≠ gb325))) (fun _ hk => hk.2) (.int .i64 ((rd_T46 l0_1 x18_4).f0))) (fun _ hk => hk.2) (.int .i64 ((rd_T46 l0_1 x18_4).f1))) (fun _ hk => hk.2) (.slice A324_2 ((rd_T46 l0_1 x18_4).f2).length c324_2)) wm_))⟩; have n3_ : Aside0 (Kd.V k84 84 w111 w.heap.size (fun k_ => ((P0_0_ k_ ∨ P0_1_ k_) ∨ w.heap.size ≤ k_) ∧ some k_ ≠ (.slice (some ad319) x9_2.length co103 : Value).ownBlock ∧ some k_ ≠ (u317001 : Value).ownBlock ∧ some k_ ≠ (v322 : Value).ownBlock ∧ k_ ≠ gb293 ∧ k_ ≠ gb294 ∧ k_ ≠ gb316 ∧ k_ ≠ gb325) (.slice A0_0 l0_0.length c0_0) l0_0) := ⟨(by rw [hw]; exact (by (with_reducible repeat (first | apply Kd.V_alloc | apply Kd.V_drewN | apply Kd.V_drew)); exact Kd.V_mono (Kd.V_far (p := ⟨gb325, 2, none⟩) (Kd.V_far (p := ⟨gb325, 1, none⟩) (Kd.V_far (p := ⟨gb325, 0, none⟩) (Kd.V_mono HO_317000.out (fun k_ hk => (⟨hk, hk.2⟩ : _ ∧ k_ ≠ gb325))) (fun _ hk => hk.2) (.int .i64 ((rd_T46 l0_1 x18_4).f0))) (fun _ hk => hk.2) (.int .i64 ((rd_T46 l0_1 x18_4).f1))) (fun _ hk => hk.2) (.slice A324_2 ((rd_T46 l0_1 x18_4).f2).length c324_2)) wm_))⟩; have n4_ : Aside0 (Kd.N k46 46 w111 w.heap.size (fun k_ => ((P0_0_ k_ ∨ P0_1_ k_) ∨ w.heap.size ≤ k_) ∧ some k_ ≠ (.slice (some ad319) x9_2.length co103 : Value).ownBlock ∧ some k_ ≠ (v322 : Value).ownBlock ∧ k_ ≠ gb293 ∧ k_ ≠ gb294 ∧ k_ ≠ gb316 ∧ k_ ≠ gb325) u317001 x317001_4) := ⟨(by rw [hw]; exact (by (with_reducible repeat (first | apply Kd.N_alloc | apply Kd.N_drewN | apply Kd.N_drew)); exact Kd.N_mono (Kd.N_far (p := ⟨gb325, 2, none⟩) (Kd.N_far (p := ⟨gb325, 1, none⟩) (Kd.N_far (p := ⟨gb325, 0, none⟩) (Kd.N_mono HO_317001.out (fun k_ hk => (⟨hk, hk.2⟩ : _ ∧ k_ ≠ gb325))) (fun _ hk => hk.2) (.int .i64 ((rd_T46 l0_1 x18_4).f0))) (fun _ hk => hk.2) (.int .i64 ((rd_T46 l0_1 x18_4).f1))) (fun _ hk => hk.2) (.slice A324_2 ((rd_T46 l0_1 x18_4).f2).length c324_2)) wm_))⟩; have n5_ : Aside0 (Kd.V (Kd.int .i64) 3 w111 w.heap.size (fun k_ => ((P0_0_ k_ ∨ P0_1_ k_) ∨ w.heap.size ≤ k_) ∧ some k_ ≠ (.slice (some ad319) x9_2.length co103 : Value).ownBlock ∧ some k_ ≠ (u317001 : Value).ownBlock ∧ some k_ ≠ (v322 : Value).ownBlock ∧ k_ ≠ gb293 ∧ k_ ≠ gb294 ∧ k_ ≠ gb316 ∧ k_ ≠ gb325) (.slice A317_2 ((rd_T46 l0_1 x18_4).f2).length c317_2) ((rd_T46 l0_1 x18_4).f2)) := ⟨(by rw [hw]; exact (by (with_reducible repeat (first | apply Kd.V_alloc | apply Kd.V_drewN | apply Kd.V_drew)); exact Kd.V_mono (Kd.V_far (p := ⟨gb325, 2, none⟩) (Kd.V_far (p := ⟨gb325, 1, none⟩) (Kd.V_far (p := ⟨gb325, 0, none⟩) (Kd.V_mono HL317_2.out (fun k_ hk => (⟨hk, hk.2⟩ : _ ∧ k_ ≠ gb325))) (fun _ hk => hk.2) (.int .i64 ((rd_T46 l0_1 x18_4).f0))) (fun _ hk => hk.2) (.int .i64 ((rd_T46 l0_1 x18_4).f1))) (fun _ hk => hk.2) (.slice A324_2 ((rd_T46 l0_1 x18_4).f2).length c324_2)) wm_))⟩; have n6_ : Aside0 (Kd.R (Kd.int .i64) 3 w111 w.heap.size (fun k_ => (w.heap.size ≤ k_) ∧ some k_ ≠ (.slice (some ad319) x9_2.length co103 : Value).ownBlock) v322 y321) := ⟨(by rw [hw]; exact (by (with_reducible repeat (first | apply Kd.R_alloc | apply Kd.R_drewN | apply Kd.R_drew)); exact Kd.R_mono (Kd.R_far (p := ⟨gb325, 2, none⟩) (Kd.R_far (p := ⟨gb325, 1, none⟩) (Kd.R_far (p := ⟨gb325, 0, none⟩) (Kd.R_types HO323.out BK325.out (by decide)) (fun _ hk => hk.2) (.int .i64 ((rd_T46 l0_1 x18_4).f0))) (fun _ hk => hk.2) (.int .i64 ((rd_T46 l0_1 x18_4).f1))) (fun _ hk => hk.2) (.slice A324_2 ((rd_T46 l0_1 x18_4).f2).length c324_2)) wm_))⟩; have n7_ : Aside0 (Kd.V (Kd.int .i64) 3 w111 w.heap.size (fun k_ => ((P0_0_ k_ ∨ P0_1_ k_) ∨ w.heap.size ≤ k_) ∧ some k_ ≠ (.slice (some ad319) x9_2.length co103 : Value).ownBlock ∧ some k_ ≠ (u317001 : Value).ownBlock ∧ some k_ ≠ (v322 : Value).ownBlock ∧ k_ ≠ gb293 ∧ k_ ≠ gb294 ∧ k_ ≠ gb316 ∧ k_ ≠ gb325) (.slice A324_2 ((rd_T46 l0_1 x18_4).f2).length c324_2) ((rd_T46 l0_1 x18_4).f2)) := ⟨(by rw [hw]; exact (by (with_reducible repeat (first | apply Kd.V_alloc | apply Kd.V_drewN | apply Kd.V_drew)); exact Kd.V_mono (Kd.V_far (p := ⟨gb325, 2, none⟩) (Kd.V_far (p := ⟨gb325, 1, none⟩) (Kd.V_far (p := ⟨gb325, 0, none⟩) (Kd.V_mono HL324_2.out (fun k_ hk => (⟨hk, hk.2⟩ : _ ∧ k_ ≠ gb325))) (fun _ hk => hk.2) (.int .i64 ((rd_T46 l0_1 x18_4).f0))) (fun _ hk => hk.2) (.int .i64 ((rd_T46 l0_1 x18_4).f1))) (fun _ hk => hk.2) (.slice A324_2 ((rd_T46 l0_1 x18_4).f2).length c324_2)) wm_))⟩; have n8_ : Aside0 (w111.heap[gb293]? = some (.cells #[.slice A0_0 l0_0.length c0_0, .slice (some ad317) l0_1.length c0_1] 25 (0, 0))) := ⟨(by rw [hw]; exact (by (with_reducible repeat (first | refine blk_drewN ?_ _ | refine blk_drew ?_ | refine blk_alloc ?_ _)); refine blk_far ?_ NB293_325.out _; (with_reducible repeat (first | refine blk_drewN ?_ _ | refine blk_drew ?_ | refine blk_alloc ?_ _)); refine blk_far ?_ NB293_325.out _; (with_reducible repeat (first | refine blk_drewN ?_ _ | refine blk_drew ?_ | refine blk_alloc ?_ _)); refine blk_far ?_ NB293_325.out _; (with_reducible repeat (first | refine blk_drewN ?_ _ | refine blk_drew ?_ | refine blk_alloc ?_ _)); exact BK293.out))⟩; have n9_ : Aside0 (w111.heap[gb294]? = some (.cells #[.slice none 0 0, .slice none 0 0] 25 (0, 0))) := ⟨(by rw [hw]; exact (by (with_reducible repeat (first | refine blk_drewN ?_ _ | refine blk_drew ?_ | refine blk_alloc ?_ _)); refine blk_far ?_ NB294_325.out _; (with_reducible repeat (first | refine blk_drewN ?_ _ | refine blk_drew ?_ | refine blk_alloc ?_ _)); refine blk_far ?_ NB294_325.out _; (with_reducible repeat (first | refine blk_drewN ?_ _ | refine blk_drew ?_ | refine blk_alloc ?_ _)); refine blk_far ?_ NB294_325.out _; (with_reducible repeat (first | refine blk_drewN ?_ _ | refine blk_drew ?_ | refine blk_alloc ?_ _)); exact BK294.out))⟩; have n10_ : Aside0 (w111.heap[gb316]? = some (.cells #[.slice A0_0 l0_0.length c0_0, u317001] 25 (0, 0))) := ⟨(by rw [hw]; exact (by (with_reducible repeat (first | refine blk_drewN ?_ _ | refine blk_drew ?_ | refine blk_alloc ?_ _)); refine blk_far ?_ NB316_325.out _; (with_reducible repeat (first | refine blk_drewN ?_ _ | refine blk_drew ?_ | refine blk_alloc ?_ _)); refine blk_far ?_ NB316_325.out _; (with_reducible repeat (first | refine blk_drewN ?_ _ | refine blk_drew ?_ | refine blk_alloc ?_ _)); refine blk_far ?_ NB316_325.out _; (with_reducible repeat (first | refine blk_drewN ?_ _ | refine blk_drew ?_ | refine blk_alloc ?_ _)); exact BK316.out))⟩; have n11_ : Aside0 (w111.heap[gb325]? = some (.cells #[.int .i64 ((rd_T46 l0_1 x18_4).f0), .int .i64 ((rd_T46 l0_1 x18_4).f1), .slice A324_2 ((rd_T46 l0_1 x18_4).f2).length c324_2] 46 (0, 0))) := ⟨(by rw [hw]; exact (by (with_reducible repeat (first | refine blk_drewN ?_ _ | refine blk_drew ?_ | refine blk_alloc ?_ _)); refine blk_put (cs := #[.int .i64 ((rd_T46 l0_1 x18_4).f0), .int .i64 ((rd_T46 l0_1 x18_4).f1), .slice none 0 0]) ?_ 2 _ rfl; (with_reducible repeat (first | refine blk_drewN ?_ _ | refine blk_drew ?_ | refine blk_alloc ?_ _)); refine blk_put (cs := #[.int .i64 ((rd_T46 l0_1 x18_4).f0), .int .i64 0, .slice none 0 0]) ?_ 1 _ rfl; (with_reducible repeat (first | refine blk_drewN ?_ _ | refine blk_drew ?_ | refine blk_alloc ?_ _)); refine blk_put (cs := #[.int .i64 0, .int .i64 0, .slice none 0 0]) ?_ 0 _ rfl; (with_reducible repeat (first | refine blk_drewN ?_ _ | refine blk_drew ?_ | refine blk_alloc ?_ _)); exact BK325.out))⟩; have n12_ : Aside0 (Below w.heap.size w w111) := ⟨(by rw [hw]; exact (bs4_ HB GE293 GE294 GE316 GE325))⟩; clear hw; clear HO_9 HO_294000 HO_294001 HO_317000 HO_317001 HL317_2 HO323 HL324_2 BK293 BK294 BK316 BK325 HB; revert n0_ n1_ n2_ n3_ n4_ n5_ n6_ n7_ n8_ n9_ n10_ n11_ n12_; intro HO_9 HO_294000 HO_294001 HO_317000 HO_317001 HL317_2 HO323 HL324_2 BK293 BK294 BK316 BK325 HB; have p326 : 0 ≤ (x18_4 : Int) := od_; have q326 : x18_4 < (x9_2.length : Int) := od_; obtain ⟨ad326, e326, hx326_0⟩ := Kd.at_int (Kd.R_reads' HO_9.out).2.2 x18_4 p326 q326; obtain rfl : ad319 = ad326 := (by injection e326); replace p326 := eq_true p326; replace q326 := eq_true q326; have hcz112_0 := bc0_ BK325.out; have hcz112_1 := bc1_ BK325.out; have hcz112_2 := bc2_ BK325.out; have hfz112_0 := blk_frozen BK325.out 0; have hfz112_1 := blk_frozen BK325.out 1; have hfz112_2 := blk_frozen BK325.out 2) | ((with_reducible refine gate_store (t := 3) (p := 167) rfl ?_); refine store_event (t := 3) (p := 167) (v := ?vo_w113) (w1 := (w111.setCell ⟨gb325, 1, none⟩ (.int .i64 (rd x9_2 x18_4)))) ?hg ?ho ?hn ?hr ?_; (case ho => rfl); (case hg => rfl); (case hn => rfl); (case hr => first | (go_simp; done) | (go_simp; rfl)); intro w113 hw; have n0_ : Aside0 (Kd.R (Kd.int .i64) 3 w113 w.heap.size (fun k_ => (w.heap.size ≤ k_) ∧ some k_ ≠ (v322 : Value).ownBlock) (.slice (some ad319) x9_2.length co103) x9_2) := ⟨(by rw [hw]; exact (by (with_reducible repeat (first | apply Kd.R_alloc | apply Kd.R_drewN | apply Kd.R_drew)); exact Kd.R_mono (Kd.R_far (p := ⟨gb325, 1, none⟩) (Kd.R_types HO_9.out BK325.out (by decide)) (fun _ hk => hk.2) (.int .i64 (rd x9_2 x18_4))) wm_))⟩; have n1_ : Aside0 (Kd.V k84 84 w113 w.heap.size (fun k_ => ((P0_0_ k_ ∨ P0_1_ k_) ∨ w.heap.size ≤ k_) ∧ some k_ ≠ (.slice (some ad319) x9_2.length co103 : Value).ownBlock ∧ some k_ ≠ (u317001 : Value).ownBlock ∧ some k_ ≠ (v322 : Value).ownBlock ∧ k_ ≠ gb293 ∧ k_ ≠ gb294 ∧ k_ ≠ gb316 ∧ k_ ≠ gb325) (.slice A0_0 l0_0.length c0_0) l0_0) := ⟨(by rw [hw]; exact (by (with_reducible repeat (first | apply Kd.V_alloc | apply Kd.V_drewN | apply Kd.V_drew)); exact Kd.V_mono (Kd.V_far (p := ⟨gb325, 1, none⟩) (Kd.V_mono HO_294000.out (fun k_ hk => (⟨hk, hk.2.2.2.2.2.2.2⟩ : _ ∧ k_ ≠ gb325))) (fun _ hk => hk.2) (.int .i64 (rd x9_2 x18_4))) wm_))⟩; have n2_ : Aside0 (Kd.V k46 46 w113 w.heap.size (fun k_ => ((P0_0_ k_ ∨ P0_1_ k_) ∨ w.heap.size ≤ k_) ∧ some k_ ≠ (.slice (some ad319) x9_2.length co103 : Value).ownBlock ∧ some k_ ≠ (u317001 : Value).ownBlock ∧ some k_ ≠ (v322 : Value).ownBlock ∧ k_ ≠ gb293 ∧ k_ ≠ gb294 ∧ k_ ≠ gb316 ∧ k_ ≠ gb325) (.slice (some ad317) l0_1.length c0_1) l0_1) := ⟨(by rw [hw]; exact (by (with_reducible repeat (first | apply Kd.V_alloc | apply Kd.V_drewN | apply Kd.V_drew)); exact Kd.V_mono (Kd.V_far (p := ⟨gb325, 1, none⟩) (Kd.V_mono HO_294001.out (fun k_ hk => (⟨hk, hk.2.2.2.2.2.2.2⟩ : _ ∧ k_ ≠ gb325))) (fun _ hk => hk.2) (.int .i64 (rd x9_2 x18_4))) wm_))⟩; have n3_ : Aside0 (Kd.V k84 84 w113 w.heap.size (fun k_ => ((P0_0_ k_ ∨ P0_1_ k_) ∨ w.heap.size ≤ k_) ∧ some k_ ≠ (.slice (some ad319) x9_2.length co103 : Value).ownBlock ∧ some k_ ≠ (u317001 : Value).ownBlock ∧ some k_ ≠ (v322 : Value).ownBlock ∧ k_ ≠ gb293 ∧ k_ ≠ gb294 ∧ k_ ≠ gb316 ∧ k_ ≠ gb325) (.slice A0_0 l0_0.length c0_0) l0_0) := ⟨(by rw [hw]; exact (by (with_reducible repeat (first | apply Kd.V_alloc | apply Kd.V_drewN | apply Kd.V_drew)); exact Kd.V_mono (Kd.V_far (p := ⟨gb325, 1, none⟩) (Kd.V_mono HO_317000.out (fun k_ hk => (⟨hk, hk.2.2.2.2.2.2.2⟩ : _ ∧ k_ ≠ gb325))) (fun _ hk => hk.2) (.int .i64 (rd x9_2 x18_4))) wm_))⟩; have n4_ : Aside0 (Kd.N k46 46 w113 w.heap.size (fun k_ => ((P0_0_ k_ ∨ P0_1_ k_) ∨ w.heap.size ≤ k_) ∧ some k_ ≠ (.slice (some ad319) x9_2.length co103 : Value).ownBlock ∧ some k_ ≠ (v322 : Value).ownBlock ∧ k_ ≠ gb293 ∧ k_ ≠ gb294 ∧ k_ ≠ gb316 ∧ k_ ≠ gb325) u317001 x317001_4) := ⟨(by rw [hw]; exact (by (with_reducible repeat (first | apply Kd.N_alloc | apply Kd.N_drewN | apply Kd.N_drew)); exact Kd.N_mono (Kd.N_far (p := ⟨gb325, 1, none⟩) (Kd.N_mono HO_317001.out (fun k_ hk => (⟨hk, hk.2.2.2.2.2.2⟩ : _ ∧ k_ ≠ gb325))) (fun _ hk => hk.2) (.int .i64 (rd x9_2 x18_4))) wm_))⟩; have n5_ : Aside0 (Kd.V (Kd.int .i64) 3 w113 w.heap.size (fun k_ => ((P0_0_ k_ ∨ P0_1_ k_) ∨ w.heap.size ≤ k_) ∧ some k_ ≠ (.slice (some ad319) x9_2.length co103 : Value).ownBlock ∧ some k_ ≠ (u317001 : Value).ownBlock ∧ some k_ ≠ (v322 : Value).ownBlock ∧ k_ ≠ gb293 ∧ k_ ≠ gb294 ∧ k_ ≠ gb316 ∧ k_ ≠ gb325) (.slice A317_2 ((rd_T46 l0_1 x18_4).f2).length c317_2) ((rd_T46 l0_1 x18_4).f2)) := ⟨(by rw [hw]; exact (by (with_reducible repeat (first | apply Kd.V_alloc | apply Kd.V_drewN | apply Kd.V_drew)); exact Kd.V_mono (Kd.V_far (p := ⟨gb325, 1, none⟩) (Kd.V_mono HL317_2.out (fun k_ hk => (⟨hk, hk.2.2.2.2.2.2.2⟩ : _ ∧ k_ ≠ gb325))) (fun _ hk => hk.2) (.int .i64 (rd x9_2 x18_4))) wm_))⟩; have n6_ : Aside0 (Kd.R (Kd.int .i64) 3 w113 w.heap.size (fun k_ => (w.heap.size ≤ k_) ∧ some k_ ≠ (.slice (some ad319) x9_2.length co103 : Value).ownBlock) v322 y321) := ⟨(by rw [hw]; exact (by (with_reducible repeat (first | apply Kd.R_alloc | apply Kd.R_drewN | apply Kd.R_drew)); exact Kd.R_mono (Kd.R_far (p := ⟨gb325, 1, none⟩) (Kd.R_types HO323.out BK325.out (by decide)) (fun _ hk => hk.2) (.int .i64 (rd x9_2 x18_4))) wm_))⟩; have n7_ : Aside0 (Kd.V (Kd.int .i64) 3 w113 w.heap.size (fun k_ => ((P0_0_ k_ ∨ P0_1_ k_) ∨ w.heap.size ≤ k_) ∧ some k_ ≠ (.slice (some ad319) x9_2.length co103 : Value).ownBlock ∧ some k_ ≠ (u317001 : Value).ownBlock ∧ some k_ ≠ (v322 : Value).ownBlock ∧ k_ ≠ gb293 ∧ k_ ≠ gb294 ∧ k_ ≠ gb316 ∧ k_ ≠ gb325) (.slice A324_2 ((rd_T46 l0_1 x18_4).f2).length c324_2) ((rd_T46 l0_1 x18_4).f2)) := ⟨(by rw [hw]; exact (by (with_reducible repeat (first | apply Kd.V_alloc | apply Kd.V_drewN | apply Kd.V_drew)); exact Kd.V_mono (Kd.V_far (p := ⟨gb325, 1, none⟩) (Kd.V_mono HL324_2.out (fun k_ hk => (⟨hk, hk.2.2.2.2.2.2.2⟩ : _ ∧ k_ ≠ gb325))) (fun _ hk => hk.2) (.int .i64 (rd x9_2 x18_4))) wm_))⟩; have n8_ : Aside0 (w113.heap[gb293]? = some (.cells #[.slice A0_0 l0_0.length c0_0, .slice (some ad317) l0_1.length c0_1] 25 (0, 0))) := ⟨(by rw [hw]; exact (by (with_reducible repeat (first | refine blk_drewN ?_ _ | refine blk_drew ?_ | refine blk_alloc ?_ _)); refine blk_far ?_ NB293_325.out _; (with_reducible repeat (first | refine blk_drewN ?_ _ | refine blk_drew ?_ | refine blk_alloc ?_ _)); exact BK293.out))⟩; have n9_ : Aside0 (w113.heap[gb294]? = some (.cells #[.slice none 0 0, .slice none 0 0] 25 (0, 0))) := ⟨(by rw [hw]; exact (by (with_reducible repeat (first | refine blk_drewN ?_ _ | refine blk_drew ?_ | refine blk_alloc ?_ _)); refine blk_far ?_ NB294_325.out _; (with_reducible repeat (first | refine blk_drewN ?_ _ | refine blk_drew ?_ | refine blk_alloc ?_ _)); exact BK294.out))⟩; have n10_ : Aside0 (w113.heap[gb316]? = some (.cells #[.slice A0_0 l0_0.length c0_0, u317001] 25 (0, 0))) := ⟨(by rw [hw]; exact (by (with_reducible repeat (first | refine blk_drewN ?_ _ | refine blk_drew ?_ | refine blk_alloc ?_ _)); refine blk_far ?_ NB316_325.out _; (with_reducible repeat (first | refine blk_drewN ?_ _ | refine blk_drew ?_ | refine blk_alloc ?_ _)); exact BK316.out))⟩; have n11_ : Aside0 (w113.heap[gb325]? = some (.cells #[.int .i64 ((rd_T46 l0_1 x18_4).f0), .int .i64 (rd x9_2 x18_4), .slice A324_2 ((rd_T46 l0_1 x18_4).f2).length c324_2] 46 (0, 0))) := ⟨(by rw [hw]; exact (by (with_reducible repeat (first | refine blk_drewN ?_ _ | refine blk_drew ?_ | refine blk_alloc ?_ _)); refine blk_put (cs := #[.int .i64 ((rd_T46 l0_1 x18_4).f0), .int .i64 ((rd_T46 l0_1 x18_4).f1), .slice A324_2 ((rd_T46 l0_1 x18_4).f2).length c324_2]) ?_ 1 _ rfl; (with_reducible repeat (first | refine blk_drewN ?_ _ | refine blk_drew ?_ | refine blk_alloc ?_ _)); exact BK325.out))⟩; have n12_ : Aside0 (Below w.heap.size w w113) := ⟨(by rw [hw]; exact (bs4_ HB GE293 GE294 GE316 GE325))⟩; clear hw; clear HO_9 HO_294000 HO_294001 HO_317000 HO_317001 HL317_2 HO323 HL324_2 BK293 BK294 BK316 BK325 HB; revert n0_ n1_ n2_ n3_ n4_ n5_ n6_ n7_ n8_ n9_ n10_ n11_ n12_; intro HO_9 HO_294000 HO_294001 HO_317000 HO_317001 HL317_2 HO323 HL324_2 BK293 BK294 BK316 BK325 HB; have hnb114 := NB316_294.out; have hnc114 := NB294_316.out; have hcz115_0 := bc0_ BK316.out; have hcz115_1 := bc1_ BK316.out; have hfz115_0 := blk_frozen BK316.out 0; have hfz115_1 := blk_frozen BK316.out 1; have hcz116_0 := bc0_ BK325.out; have hcz116_1 := bc1_ BK325.out; have hcz116_2 := bc2_ BK325.out; have hfz116_0 := blk_frozen BK325.out 0; have hfz116_1 := blk_frozen BK325.out 1; have hfz116_2 := blk_frozen BK325.out 2) | ((with_reducible refine gate_builtin (b := .append) (xs := #[.tmp 169, .tmp 171]) rfl ?_); at_builtin; refine Kd.N_append k46 (w0 := w) w.heap.size rfl (.tmp 169) (.tmp 171) 23 46 (.agg #[(.int .i64 0), (.int .i64 0), (.slice none 0 0)]) 40 rfl Try.underlying23 info46 rfl (by decide) (by omega) u317001 x317001_4 (⟨(rd_T46 l0_1 x18_4).f0, rd x9_2 x18_4, (rd_T46 l0_1 x18_4).f2⟩ : S46) [.int .i64 ((rd_T46 l0_1 x18_4).f0), .int .i64 (rd x9_2 x18_4), .slice A324_2 ((rd_T46 l0_1 x18_4).f2).length c324_2] (fun k_ => ((P0_0_ k_ ∨ P0_1_ k_) ∨ w.heap.size ≤ k_) ∧ some k_ ≠ (.slice (some ad319) x9_2.length co103 : Value).ownBlock ∧ some k_ ≠ (v322 : Value).ownBlock ∧ k_ ≠ gb293 ∧ k_ ≠ gb294 ∧ k_ ≠ gb316 ∧ k_ ≠ gb325) (fun k_ => ((fun k_ => ((P0_0_ k_ ∨ P0_1_ k_) ∨ w.heap.size ≤ k_) ∧ some k_ ≠ (.slice (some ad319) x9_2.length co103 : Value).ownBlock ∧ some k_ ≠ (v322 : Value).ownBlock ∧ k_ ≠ gb293 ∧ k_ ≠ gb294 ∧ k_ ≠ gb316 ∧ k_ ≠ gb325)) k_ ∧ some k_ ≠ (u317001 : Value).ownBlock) rfl rfl ?aP (fun _ hk => hk) ?aF ?aO ?aB ?aS ?aL ?_; (case aP => exact (k46_mkF _ _ (⟨(rd_T46 l0_1 x18_4).f0, rd x9_2 x18_4, (rd_T46 l0_1 x18_4).f2⟩ : S46) (Kd.V_reads' (Kd.V_mono (ok' := (fun k_ => ((fun k_ => ((P0_0_ k_ ∨ P0_1_ k_) ∨ w.heap.size ≤ k_) ∧ some k_ ≠ (.slice (some ad319) x9_2.length co103 : Value).ownBlock ∧ some k_ ≠ (v322 : Value).ownBlock ∧ k_ ≠ gb293 ∧ k_ ≠ gb294 ∧ k_ ≠ gb316 ∧ k_ ≠ gb325)) k_ ∧ some k_ ≠ (u317001 : Value).ownBlock)) (HL324_2.out) (fun k_ hk => ⟨⟨hk.1, ⟨hk.2.1, ⟨hk.2.2.2.1, ⟨hk.2.2.2.2.1, ⟨hk.2.2.2.2.2.1, ⟨hk.2.2.2.2.2.2.1, hk.2.2.2.2.2.2.2⟩⟩⟩⟩⟩⟩, hk.2.2.1⟩))).2.1 (Kd.V_F (Kd.V_mono (ok' := (fun k_ => ((fun k_ => ((P0_0_ k_ ∨ P0_1_ k_) ∨ w.heap.size ≤ k_) ∧ some k_ ≠ (.slice (some ad319) x9_2.length co103 : Value).ownBlock ∧ some k_ ≠ (v322 : Value).ownBlock ∧ k_ ≠ gb293 ∧ k_ ≠ gb294 ∧ k_ ≠ gb316 ∧ k_ ≠ gb325)) k_ ∧ some k_ ≠ (u317001 : Value).ownBlock)) (HL324_2.out) (fun k_ hk => ⟨⟨hk.1, ⟨hk.2.1, ⟨hk.2.2.2.1, ⟨hk.2.2.2.2.1, ⟨hk.2.2.2.2.2.1, ⟨hk.2.2.2.2.2.2.1, hk.2.2.2.2.2.2.2⟩⟩⟩⟩⟩⟩, hk.2.2.1⟩))))); (case aB => exact (bs4_ HB GE293 GE294 GE316 GE325)); (case aF => exact (fun k_ hk => ⟨(.inr (Nat.le_trans (below_size (bs4_ HB GE293 GE294 GE316 GE325)) hk)), Kd.fresh' (Kd.R_lt (rr_ HO_9)) k_ hk, Kd.fresh' (Kd.R_lt (rr_ HO323)) k_ hk, Kd.freshB (g := gb293) (o := .cells #[.slice A0_0 l0_0.length c0_0, .slice (some ad317) l0_1.length c0_1] 25 (0, 0)) (kk_ BK293) k_ hk, Kd.freshB (g := gb294) (o := .cells #[.slice none 0 0, .slice none 0 0] 25 (0, 0)) (kk_ BK294) k_ hk, Kd.freshB (g := gb316) (o := .cells #[.slice A0_0 l0_0.length c0_0, u317001] 25 (0, 0)) (kk_ BK316) k_ hk, Kd.freshB (g := gb325) (o := .cells #[.int .i64 ((rd_T46 l0_1 x18_4).f0), .int .i64 (rd x9_2 x18_4), .slice A324_2 ((rd_T46 l0_1 x18_4).f2).length c324_2] 46 (0, 0)) (kk_ BK325) k_ hk⟩)); (case aO => exact (nn_ HO_317001)); (case aS => exact (below_size (bs4_ HB GE293 GE294 GE316 GE325))); (case aL => have := LMc99.out; omega); intro v328 w117 ho hb hg hat; rw [← Ny327.out] at ho; have n0_ := mk_ (Kd.R_over' (rr_ HO_9) (Kd.N_typed (nn_ HO_317001)) (by decide) hg); have n1_ := mk_ (Kd.V_afterv (ok := (fun k_ => ((P0_0_ k_ ∨ P0_1_ k_) ∨ w.heap.size ≤ k_) ∧ some k_ ≠ (.slice (some ad319) x9_2.length co103 : Value).ownBlock ∧ some k_ ≠ (v322 : Value).ownBlock ∧ k_ ≠ gb293 ∧ k_ ≠ gb294 ∧ k_ ≠ gb316 ∧ k_ ≠ gb325)) (vm_ HO_294000) hg hat); have n2_ := mk_ (Kd.V_afterv (ok := (fun k_ => ((P0_0_ k_ ∨ P0_1_ k_) ∨ w.heap.size ≤ k_) ∧ some k_ ≠ (.slice (some ad319) x9_2.length co103 : Value).ownBlock ∧ some k_ ≠ (v322 : Value).ownBlock ∧ k_ ≠ gb293 ∧ k_ ≠ gb294 ∧ k_ ≠ gb316 ∧ k_ ≠ gb325)) (vm_ HO_294001) hg hat); have n3_ := mk_ (Kd.V_afterv (ok := (fun k_ => ((P0_0_ k_ ∨ P0_1_ k_) ∨ w.heap.size ≤ k_) ∧ some k_ ≠ (.slice (some ad319) x9_2.length co103 : Value).ownBlock ∧ some k_ ≠ (v322 : Value).ownBlock ∧ k_ ≠ gb293 ∧ k_ ≠ gb294 ∧ k_ ≠ gb316 ∧ k_ ≠ gb325)) (vm_ HO_317000) hg hat); have n4_ := mk_ (blk_grown (kk_ BK293) hg (Kd.N_ne HO_317001.out BK293.out (by decide))); have n5_ := mk_ (blk_grown (kk_ BK294) hg (Kd.N_ne HO_317001.out BK294.out (by decide))); have n6_ := mk_ (blk_grown (kk_ BK316) hg (Kd.N_ne HO_317001.out BK316.out (by decide))); have n7_ := mk_ (Kd.V_afterv (ok := (fun k_ => ((P0_0_ k_ ∨ P0_1_ k_) ∨ w.heap.size ≤ k_) ∧ some k_ ≠ (.slice (some ad319) x9_2.length co103 : Value).ownBlock ∧ some k_ ≠ (v322 : Value).ownBlock ∧ k_ ≠ gb293 ∧ k_ ≠ gb294 ∧ k_ ≠ gb316 ∧ k_ ≠ gb325)) (vm_ HL317_2) hg hat); have n8_ := mk_ (Kd.R_over' (rr_ HO323) (Kd.N_typed (nn_ HO_317001)) (by decide) hg); have n9_ := mk_ (Kd.V_afterv (ok := (fun k_ => ((P0_0_ k_ ∨ P0_1_ k_) ∨ w.heap.size ≤ k_) ∧ some k_ ≠ (.slice (some ad319) x9_2.length co103 : Value).ownBlock ∧ some k_ ≠ (v322 : Value).ownBlock ∧ k_ ≠ gb293 ∧ k_ ≠ gb294 ∧ k_ ≠ gb316 ∧ k_ ≠ gb325)) (vm_ HL324_2) hg hat); have n10_ := mk_ (blk_grown (kk_ BK325) hg (Kd.N_away HO_317001.out (fun _ hk => hk.2.2.2.2.2.2))); have n11_ := mk_ (hb); have n12_ := mk_ (ho); clear HO_9 HO_294000 HO_294001 HO_317000 BK293 BK294 BK316 HL317_2 HO323 HL324_2 BK325 HB HO_317001; revert n0_ n1_ n2_ n3_ n4_ n5_ n6_ n7_ n8_ n9_ n10_ n11_ n12_; intro HO_9 HO_294000 HO_294001 HO_317000 BK293 BK294 BK316 HL317_2 HO323 HL324_2 BK325 HB HO329; clear ho hb hg hat; obtain ⟨Ao118, co118, eo118⟩ := Kd.N_slice HO329.out; subst eo118; have hcz119_0 := bc0_ BK316.out; have hcz119_1 := bc1_ BK316.out; have hfz119_0 := blk_frozen BK316.out 0; have hfz119_1 := blk_frozen BK316.out 1))
           go_roundg k4
           case measure => have := HK1.out; have := HK2.out; have := HK3.out; have := HK4.out; omega
           case rel => exact ⟨(y321), (wrap64 (x18_4 + 1)), (y327), (.slice Ao118 y327.length co118), sd_, H', ⟨by have := HK1.out; have := HK2.out; have := HK3.out; have := HK4.out; omega⟩, ⟨by (with_reducible repeat (first | apply Kd.R_alloc | apply Kd.R_drewN | apply Kd.R_drew)); exact Kd.R_mono (Kd.R_far (p := ⟨gb316, 1, none⟩) (Kd.R_types HO_9.out BK316.out (by decide)) (fun _ hk => hk.2) (.slice Ao118 y327.length co118)) wm_⟩, ⟨by (with_reducible repeat (first | apply Kd.R_alloc | apply Kd.R_drewN | apply Kd.R_drew)); exact Kd.R_mono (Kd.R_far (p := ⟨gb316, 1, none⟩) (Kd.R_types HO323.out BK316.out (by decide)) (fun _ hk => hk.2) (.slice Ao118 y327.length co118)) wm_⟩, ⟨by (with_reducible repeat (first | apply Kd.V_alloc | apply Kd.V_drewN | apply Kd.V_drew)); exact Kd.V_mono (Kd.V_far (p := ⟨gb316, 1, none⟩) (Kd.V_mono HO_294000.out (fun k_ hk => (⟨hk, hk.1.2.2.2.2.2.1⟩ : _ ∧ k_ ≠ gb316))) (fun _ hk => hk.2) (.slice Ao118 y327.length co118)) wm_⟩, ⟨by (with_reducible repeat (first | apply Kd.V_alloc | apply Kd.V_drewN | apply Kd.V_drew)); exact Kd.V_mono (Kd.V_far (p := ⟨gb316, 1, none⟩) (Kd.V_mono HO_294001.out (fun k_ hk => (⟨hk, hk.1.2.2.2.2.2.1⟩ : _ ∧ k_ ≠ gb316))) (fun _ hk => hk.2) (.slice Ao118 y327.length co118)) wm_⟩, ⟨by (with_reducible repeat (first | apply Kd.V_alloc | apply Kd.V_drewN | apply Kd.V_drew)); exact Kd.V_mono (Kd.V_far (p := ⟨gb316, 1, none⟩) (Kd.V_mono HO_317000.out (fun k_ hk => (⟨hk, hk.1.2.2.2.2.2.1⟩ : _ ∧ k_ ≠ gb316))) (fun _ hk => hk.2) (.slice Ao118 y327.length co118)) wm_⟩, ⟨by (with_reducible repeat (first | apply Kd.N_alloc | apply Kd.N_drewN | apply Kd.N_drew)); exact Kd.N_mono (Kd.N_far (p := ⟨gb316, 1, none⟩) (Kd.N_mono HO329.out (fun k_ hk => (⟨hk, hk.2.2.2.2.2.1⟩ : _ ∧ k_ ≠ gb316))) (fun _ hk => hk.2) (.slice Ao118 y327.length co118)) wm_⟩, ⟨by (with_reducible repeat (first | refine blk_drewN ?_ _ | refine blk_drew ?_ | refine blk_alloc ?_ _)); refine blk_far ?_ NB293_316.out _; (with_reducible repeat (first | refine blk_drewN ?_ _ | refine blk_drew ?_ | refine blk_alloc ?_ _)); exact BK293.out⟩, ⟨by (with_reducible repeat (first | refine blk_drewN ?_ _ | refine blk_drew ?_ | refine blk_alloc ?_ _)); refine blk_far ?_ NB294_316.out _; (with_reducible repeat (first | refine blk_drewN ?_ _ | refine blk_drew ?_ | refine blk_alloc ?_ _)); exact BK294.out⟩, ⟨by (with_reducible repeat (first | refine blk_drewN ?_ _ | refine blk_drew ?_ | refine blk_alloc ?_ _)); refine blk_put (cs := #[.slice A0_0 l0_0.length c0_0, u317001]) ?_ 1 _ rfl; (with_reducible repeat (first | refine blk_drewN ?_ _ | refine blk_drew ?_ | refine blk_alloc ?_ _)); exact BK316.out⟩, ⟨bs4_ HB GE293 GE294 GE316 GE325⟩⟩
          rw [if_neg c97] at H
          have c97b0 : ((rd x9_2 x18_4) == 0) = false := beq_eq_false_iff_ne.mpr c97
          have c97b1 : ((rd x9_2 x18_4) != 0) = true := bne_iff_ne.mpr c97
          replace H := Option.bind_eq_some_iff.mp H
          obtain ⟨t331, A1200, H⟩ := H
          replace H : (if t331 ≥ 0 then (some (([] : List (S84)), ([] : List (S46)), 22)) else (if x17_4.length < 17592186044416 then (if x317001_4.length < 3518437208883 then (cohousingref26_Next.l3 k4 l2 x9_2 (x17_4 ++ [rd x9_2 x18_4]) (wrap64 (x18_4 + 1)) l0_0 l0_1 l0_0 (x317001_4 ++ [(⟨(rd_T46 l0_1 x18_4).f0, rd x9_2 x18_4, (rd_T46 l0_1 x18_4).f2⟩ : S46)])) else (none)) else (none))) = some (r1, r2, r3) := H
          have A120 := mk_ A1200
          clear A1200
          by_cases c121 : t331 ≥ 0
          ·rw [if_pos c121] at H
           have c121b0 : decide (0 ≤ t331) = true := decide_eq_true c121
           clear c121
           simp only [Option.some.injEq, Prod.mk.injEq] at H
           obtain ⟨rfl, rfl, rfl⟩ := H
           have hnb122 := NB293_294.out
           have hnc122 := NB294_293.out
           have hnb123 := NB293_316.out
           have hnc123 := NB316_293.out
           have hcz124_0 := bc0_ BK293.out
           have hcz124_1 := bc1_ BK293.out
           have hfz124_0 := blk_frozen BK293.out 0
           have hfz124_1 := blk_frozen BK293.out 1
           have p317 : 0 ≤ (x18_4 : Int) := od_
           have q317 : x18_4 < (l0_1.length : Int) := od_
           obtain ⟨ad317, A317_2, c317_2, e317, hx317_0, hx317_1, hx317_2, hl317_2, hi317_2⟩ := at_T46 (Kd.V_reads' HO_294001.out).2.2 x18_4 p317 q317
           cases e317
           obtain ⟨ce317, hce317, hMe317, hcc317⟩ := Kd.V_get HO_294001.out z46 x18_4 p317 (by first | exact q317 | exact od_ | (have e_ := (Kd.V_reads' HO_294001.out).1; omega))
           obtain ⟨ua317_2, uc317_2, rfl, ul317_2, ge317_2⟩ := k46_openF hMe317
           have hv317_2 := hcc317 2 _ rfl
           rw [add_field _ _ 2 (by omega)] at hv317_2
           replace hv317_2 := Option.some.inj (hv317_2.symm.trans hx317_2)
           injection hv317_2 with hva_ hvn_ hvc_
           rw [hva_] at ge317_2
           rw [hvc_] at ul317_2
           have HL317_2 := mk_ (show Kd.V (Kd.int .i64) 3 _ w.heap.size _ _ ((rd_T46 l0_1 x18_4).f2) from Kd.V_mk ul317_2 ge317_2)
           clear hva_ hvn_ hvc_ ge317_2 ul317_2
           clear hcc317 hce317
           have HR317_2 := mk_ hi317_2
           have HC317_2 := mk_ hl317_2
           clear hi317_2 hl317_2
           replace p317 := eq_true p317
           replace q317 := eq_true q317
           go_wp2_with (first | ((with_reducible refine gate_callee (f := 24) rfl ?_); refine gl_ (some 134) Try.func24 #[.slice A2 l2.length c2, .int .i64 ((rd_T46 l0_1 x18_4).f0)] ?_; (with_reducible refine (cohousingref23_In.calls k4 _ _ l2 ((rd_T46 l0_1 x18_4).f0) t318 _ ?side1 ?side2 A91.out).mono ?_); (case side1 => exact cc_ ((Kd.C_below HR2.out HB.out))); (case side2 => exact HC2.out); rintro e w' ⟨rfl, ⟨nd, rfl⟩⟩; refine ⟨_, rfl, ?_⟩; (try (rw [drewN_self wr]; generalize hq_ : World.drewN wr _ = wr; have n0_ : Aside0 (Kd.V (Kd.int .i64) 3 wr w.heap.size (fun k_ => ((P0_0_ k_ ∨ P0_1_ k_) ∨ w.heap.size ≤ k_) ∧ some k_ ≠ (u17 : Value).ownBlock ∧ some k_ ≠ (u317001 : Value).ownBlock ∧ some k_ ≠ (v297 : Value).ownBlock ∧ k_ ≠ gb293 ∧ k_ ≠ gb294 ∧ k_ ≠ gb316) (.slice A317_2 ((rd_T46 l0_1 x18_4).f2).length c317_2) ((rd_T46 l0_1 x18_4).f2)) := ⟨by rw [← hq_]; exact (vm_ HL317_2)⟩; have n1_ : Aside0 (Kd.R (Kd.int .i64) 3 wr w.heap.size (fun k_ => (w.heap.size ≤ k_) ∧ some k_ ≠ (v297 : Value).ownBlock) u17 x17_4) := ⟨by rw [← hq_]; exact (rr_ HO_17)⟩; have n2_ : Aside0 (Kd.V k84 84 wr w.heap.size (fun k_ => ((P0_0_ k_ ∨ P0_1_ k_) ∨ w.heap.size ≤ k_) ∧ some k_ ≠ (u17 : Value).ownBlock ∧ some k_ ≠ (u317001 : Value).ownBlock ∧ some k_ ≠ (v297 : Value).ownBlock ∧ k_ ≠ gb293 ∧ k_ ≠ gb294 ∧ k_ ≠ gb316) (.slice A0_0 l0_0.length c0_0) l0_0) := ⟨by rw [← hq_]; exact (vm_ HO_294000)⟩; have n3_ : Aside0 (Kd.V k46 46 wr w.heap.size (fun k_ => ((P0_0_ k_ ∨ P0_1_ k_) ∨ w.heap.size ≤ k_) ∧ some k_ ≠ (u17 : Value).ownBlock ∧ some k_ ≠ (u317001 : Value).ownBlock ∧ some k_ ≠ (v297 : Value).ownBlock ∧ k_ ≠ gb293 ∧ k_ ≠ gb294 ∧ k_ ≠ gb316) (.slice (some ad317) l0_1.length c0_1) l0_1) := ⟨by rw [← hq_]; exact (vm_ HO_294001)⟩; have n4_ : Aside0 (Kd.V k84 84 wr w.heap.size (fun k_ => ((P0_0_ k_ ∨ P0_1_ k_) ∨ w.heap.size ≤ k_) ∧ some k_ ≠ (u17 : Value).ownBlock ∧ some k_ ≠ (u317001 : Value).ownBlock ∧ some k_ ≠ (v297 : Value).ownBlock ∧ k_ ≠ gb293 ∧ k_ ≠ gb294 ∧ k_ ≠ gb316) (.slice A0_0 l0_0.length c0_0) l0_0) := ⟨by rw [← hq_]; exact (vm_ HO_317000)⟩; have n5_ : Aside0 (Kd.N k46 46 wr w.heap.size (fun k_ => ((P0_0_ k_ ∨ P0_1_ k_) ∨ w.heap.size ≤ k_) ∧ some k_ ≠ (u17 : Value).ownBlock ∧ some k_ ≠ (v297 : Value).ownBlock ∧ k_ ≠ gb293 ∧ k_ ≠ gb294 ∧ k_ ≠ gb316) u317001 x317001_4) := ⟨by rw [← hq_]; exact (nm_ HO_317001)⟩; have n6_ : Aside0 (Kd.R (Kd.int .i64) 3 wr w.heap.size (fun k_ => (w.heap.size ≤ k_) ∧ some k_ ≠ (u17 : Value).ownBlock) v297 x9_2) := ⟨by rw [← hq_]; exact (rr_ HO_9)⟩; have n7_ : Aside0 (wr.heap[gb293]? = some (.cells #[.slice A0_0 l0_0.length c0_0, .slice (some ad317) l0_1.length c0_1] 25 (0, 0))) := ⟨by rw [← hq_]; exact (kk_ BK293)⟩; have n8_ : Aside0 (wr.heap[gb294]? = some (.cells #[.slice none 0 0, .slice none 0 0] 25 (0, 0))) := ⟨by rw [← hq_]; exact (kk_ BK294)⟩; have n9_ : Aside0 (wr.heap[gb316]? = some (.cells #[.slice A0_0 l0_0.length c0_0, u317001] 25 (0, 0))) := ⟨by rw [← hq_]; exact (kk_ BK316)⟩; have n10_ : Aside0 (Below w.heap.size w wr) := ⟨by rw [← hq_]; exact (bs3_ HB GE293 GE294 GE316)⟩; have n11_ : Aside0 (Kd.C (Kd.int .i64) wr A317_2 ((rd_T46 l0_1 x18_4).f2).length ((rd_T46 l0_1 x18_4).f2)) := ⟨by rw [← hq_]; exact (cc_ HR317_2.out)⟩; clear HL317_2 HO_17 HO_294000 HO_294001 HO_317000 HO_317001 HO_9 BK293 BK294 BK316 HB HR317_2 hq_; revert n0_ n1_ n2_ n3_ n4_ n5_ n6_ n7_ n8_ n9_ n10_ n11_; intro HL317_2 HO_17 HO_294000 HO_294001 HO_317000 HO_317001 HO_9 BK293 BK294 BK316 HB HR317_2)); obtain ⟨Ao125, co125, eo125⟩ := Kd.R_slice HO_9.out; subst eo125; have p319 : 0 ≤ (x18_4 : Int) := od_; have q319 : x18_4 < (x9_2.length : Int) := od_; obtain ⟨ad319, e319, hx319_0⟩ := Kd.at_int (Kd.R_reads' HO_9.out).2.2 x18_4 p319 q319; cases e319; replace p319 := eq_true p319; replace q319 := eq_true q319; have p330 : 0 ≤ (x18_4 : Int) := od_; have q330 : x18_4 < (x9_2.length : Int) := od_; obtain ⟨ad330, e330, hx330_0⟩ := Kd.at_int (Kd.R_reads' HO_9.out).2.2 x18_4 p330 q330; obtain rfl : ad319 = ad330 := (by injection e330); replace p330 := eq_true p330; replace q330 := eq_true q330; obtain ⟨Ao126, co126, eo126⟩ := Kd.R_slice HO_17.out; subst eo126) | (go_at_call 24; (with_reducible refine (cohousingref23_In.calls k4 _ _ x17_4 (rd x9_2 x18_4) t331 _ ?side1 ?side2 A120.out).mono ?_); (case side1 => exact cc_ ((Kd.R_reads' HO_17.out).2.2)); (case side2 => exact (Kd.R_reads' HO_17.out).2.1); rintro e w' ⟨rfl, ⟨nd, rfl⟩⟩; (try (rw [drewN_self wr]; generalize hq_ : World.drewN wr _ = wr; have n0_ : Aside0 (Kd.V (Kd.int .i64) 3 wr w.heap.size (fun k_ => ((P0_0_ k_ ∨ P0_1_ k_) ∨ w.heap.size ≤ k_) ∧ some k_ ≠ (.slice Ao126 x17_4.length co126 : Value).ownBlock ∧ some k_ ≠ (u317001 : Value).ownBlock ∧ some k_ ≠ (.slice (some ad319) x9_2.length co125 : Value).ownBlock ∧ k_ ≠ gb293 ∧ k_ ≠ gb294 ∧ k_ ≠ gb316) (.slice A317_2 ((rd_T46 l0_1 x18_4).f2).length c317_2) ((rd_T46 l0_1 x18_4).f2)) := ⟨by rw [← hq_]; exact (vm_ HL317_2)⟩; have n1_ : Aside0 (Kd.R (Kd.int .i64) 3 wr w.heap.size (fun k_ => (w.heap.size ≤ k_) ∧ some k_ ≠ (.slice (some ad319) x9_2.length co125 : Value).ownBlock) (.slice Ao126 x17_4.length co126) x17_4) := ⟨by rw [← hq_]; exact (rr_ HO_17)⟩; have n2_ : Aside0 (Kd.V k84 84 wr w.heap.size (fun k_ => ((P0_0_ k_ ∨ P0_1_ k_) ∨ w.heap.size ≤ k_) ∧ some k_ ≠ (.slice Ao126 x17_4.length co126 : Value).ownBlock ∧ some k_ ≠ (u317001 : Value).ownBlock ∧ some k_ ≠ (.slice (some ad319) x9_2.length co125 : Value).ownBlock ∧ k_ ≠ gb293 ∧ k_ ≠ gb294 ∧ k_ ≠ gb316) (.slice A0_0 l0_0.length c0_0) l0_0) := ⟨by rw [← hq_]; exact (vm_ HO_294000)⟩; have n3_ : Aside0 (Kd.V k46 46 wr w.heap.size (fun k_ => ((P0_0_ k_ ∨ P0_1_ k_) ∨ w.heap.size ≤ k_) ∧ some k_ ≠ (.slice Ao126 x17_4.length co126 : Value).ownBlock ∧ some k_ ≠ (u317001 : Value).ownBlock ∧ some k_ ≠ (.slice (some ad319) x9_2.length co125 : Value).ownBlock ∧ k_ ≠ gb293 ∧ k_ ≠ gb294 ∧ k_ ≠ gb316) (.slice (some ad317) l0_1.length c0_1) l0_1) := ⟨by rw [← hq_]; exact (vm_ HO_294001)⟩; have n4_ : Aside0 (Kd.V k84 84 wr w.heap.size (fun k_ => ((P0_0_ k_ ∨ P0_1_ k_) ∨ w.heap.size ≤ k_) ∧ some k_ ≠ (.slice Ao126 x17_4.length co126 : Value).ownBlock ∧ some k_ ≠ (u317001 : Value).ownBlock ∧ some k_ ≠ (.slice (some ad319) x9_2.length co125 : Value).ownBlock ∧ k_ ≠ gb293 ∧ k_ ≠ gb294 ∧ k_ ≠ gb316) (.slice A0_0 l0_0.length c0_0) l0_0) := ⟨by rw [← hq_]; exact (vm_ HO_317000)⟩; have n5_ : Aside0 (Kd.N k46 46 wr w.heap.size (fun k_ => ((P0_0_ k_ ∨ P0_1_ k_) ∨ w.heap.size ≤ k_) ∧ some k_ ≠ (.slice Ao126 x17_4.length co126 : Value).ownBlock ∧ some k_ ≠ (.slice (some ad319) x9_2.length co125 : Value).ownBlock ∧ k_ ≠ gb293 ∧ k_ ≠ gb294 ∧ k_ ≠ gb316) u317001 x317001_4) := ⟨by rw [← hq_]; exact (nm_ HO_317001)⟩; have n6_ : Aside0 (Kd.R (Kd.int .i64) 3 wr w.heap.size (fun k_ => (w.heap.size ≤ k_) ∧ some k_ ≠ (.slice Ao126 x17_4.length co126 : Value).ownBlock) (.slice (some ad319) x9_2.length co125) x9_2) := ⟨by rw [← hq_]; exact (rr_ HO_9)⟩; have n7_ : Aside0 (wr.heap[gb293]? = some (.cells #[.slice A0_0 l0_0.length c0_0, .slice (some ad317) l0_1.length c0_1] 25 (0, 0))) := ⟨by rw [← hq_]; exact (kk_ BK293)⟩; have n8_ : Aside0 (wr.heap[gb294]? = some (.cells #[.slice none 0 0, .slice none 0 0] 25 (0, 0))) := ⟨by rw [← hq_]; exact (kk_ BK294)⟩; have n9_ : Aside0 (wr.heap[gb316]? = some (.cells #[.slice A0_0 l0_0.length c0_0, u317001] 25 (0, 0))) := ⟨by rw [← hq_]; exact (kk_ BK316)⟩; have n10_ : Aside0 (Below w.heap.size w wr) := ⟨by rw [← hq_]; exact (bs3_ HB GE293 GE294 GE316)⟩; have n11_ : Aside0 (Kd.C (Kd.int .i64) wr A317_2 ((rd_T46 l0_1 x18_4).f2).length ((rd_T46 l0_1 x18_4).f2)) := ⟨by rw [← hq_]; exact (cc_ HR317_2.out)⟩; clear HL317_2 HO_17 HO_294000 HO_294001 HO_317000 HO_317001 HO_9 BK293 BK294 BK316 HB HR317_2 hq_; revert n0_ n1_ n2_ n3_ n4_ n5_ n6_ n7_ n8_ n9_ n10_ n11_; intro HL317_2 HO_17 HO_294000 HO_294001 HO_317000 HO_317001 HO_9 BK293 BK294 BK316 HB HR317_2)); have hnb127 := NB294_316.out; have hnc127 := NB316_294.out; have hcz128_0 := bc0_ BK294.out; have hcz128_1 := bc1_ BK294.out; have hfz128_0 := blk_frozen BK294.out 0; have hfz128_1 := blk_frozen BK294.out 1))
           refine bodyPost_ret (results_ct rfl _ _ gb294 25 #[.slice none 0 0, .slice none 0 0] (0, 0) _ rfl (by (with_reducible repeat (first | refine blk_drewN ?_ _ | refine blk_drew ?_ | refine blk_alloc ?_ _)); refine blk_put (cs := #[.slice none 0 0, .slice none 0 0]) ?_ 1 _ rfl; (with_reducible repeat (first | refine blk_drewN ?_ _ | refine blk_drew ?_ | refine blk_alloc ?_ _)); refine blk_put (cs := #[.slice none 0 0, .slice none 0 0]) ?_ 0 _ rfl; (with_reducible repeat (first | refine blk_drewN ?_ _ | refine blk_drew ?_ | refine blk_alloc ?_ _)); exact BK294.out) Try.underlying25 rfl (by kernel_rfl)) rfl ?_
           exact ⟨_, _, ew_, Kd.V_mono (Kd.R_V (by first | exact (Kd.R_nil _ _ _ w.heap.size (fun k_ => w.heap.size ≤ k_)) | exact Kd.R_nil _ _ _ _ _ | exact Kd.N_nil _ _ _ _ _ | exact Kd.V_nil _ _ _ _ _ | exact Kd.Q_nil _ _ _ _ _ | exact Kd.S_nil _ _ _ _ _)) (fun k_ hk => by first | exact ⟨.inr hk, by simp [Value.ownBlock]⟩ | exact ⟨(.inr (hk.1)), hk.2⟩ | exact (.inr (hk))), by first | exact Kd.S_nil _ _ _ _ _ | exact Kd.N_nil _ _ _ _ _ | exact Kd.V_nil _ _ _ _ _ | exact Kd.Q_nil _ _ _ _ _ | exact Kd.R_nil _ _ _ _ _, bs3_ HB GE293 GE294 GE316⟩
          rw [if_neg c121] at H
          have c121b0 : decide (0 ≤ t331) = false := decide_eq_false c121
          clear c121
          by_cases c129 : x17_4.length < 17592186044416
          rotate_left
          ·rw [if_neg c129] at H
           exact absurd H (by simp)
          rw [if_pos c129] at H
          have LMc129 := mk_ c129
          clear c129
          obtain ⟨y333, hy333⟩ : ∃ y_ : List Int, y_ = (x17_4 ++ [rd x9_2 x18_4]) := ⟨_, rfl⟩
          replace H : (if x317001_4.length < 3518437208883 then (cohousingref26_Next.l3 k4 l2 x9_2 y333 (wrap64 (x18_4 + 1)) l0_0 l0_1 l0_0 (x317001_4 ++ [(⟨(rd_T46 l0_1 x18_4).f0, rd x9_2 x18_4, (rd_T46 l0_1 x18_4).f2⟩ : S46)])) else (none)) = some (r1, r2, r3) := by first | (rw [hy333]; with_reducible exact H) | (have H2_ := (Option.bind_some _ _).symm.trans H; rw [hy333]; with_reducible exact H2_) | (have H2_ := (Option.bind_some _ _).symm.trans H; with_reducible exact H2_) | with_reducible exact H | (rw [hy333]; exact H) | exact H
          have Ny333 := mk_ hy333
          clear hy333
          by_cases c130 : x317001_4.length < 3518437208883
          rotate_left
          ·rw [if_neg c130] at H
           exact absurd H (by simp)
          rw [if_pos c130] at H
          have LMc130 := mk_ c130
          clear c130
          obtain ⟨y339, hy339⟩ : ∃ y_ : List (S46), y_ = (x317001_4 ++ [(⟨(rd_T46 l0_1 x18_4).f0, rd x9_2 x18_4, (rd_T46 l0_1 x18_4).f2⟩ : S46)]) := ⟨_, rfl⟩
          replace H : (cohousingref26_Next.l3 k4 l2 x9_2 y333 (wrap64 (x18_4 + 1)) l0_0 l0_1 l0_0 y339) = some (r1, r2, r3) := by first | (rw [hy339]; with_reducible exact H) | (have H2_ := (Option.bind_some _ _).symm.trans H; rw [hy339]; with_reducible exact H2_) | (have H2_ := (Option.bind_some _ _).symm.trans H; with_reducible exact H2_) | with_reducible exact H | (rw [hy339]; exact H) | exact H
          have Ny339 := mk_ hy339
          clear hy339
          have H' := mk_ H
          clear H
          have hnb131 := NB293_294.out
          have hnc131 := NB294_293.out
          have hnb132 := NB293_316.out
          have hnc132 := NB316_293.out
          have hcz133_0 := bc0_ BK293.out
          have hcz133_1 := bc1_ BK293.out
          have hfz133_0 := blk_frozen BK293.out 0
          have hfz133_1 := blk_frozen BK293.out 1
          have p317 : 0 ≤ (x18_4 : Int) := od_
          have q317 : x18_4 < (l0_1.length : Int) := od_
          obtain ⟨ad317, A317_2, c317_2, e317, hx317_0, hx317_1, hx317_2, hl317_2, hi317_2⟩ := at_T46 (Kd.V_reads' HO_294001.out).2.2 x18_4 p317 q317
          cases e317
          obtain ⟨ce317, hce317, hMe317, hcc317⟩ := Kd.V_get HO_294001.out z46 x18_4 p317 (by first | exact q317 | exact od_ | (have e_ := (Kd.V_reads' HO_294001.out).1; omega))
          obtain ⟨ua317_2, uc317_2, rfl, ul317_2, ge317_2⟩ := k46_openF hMe317
          have hv317_2 := hcc317 2 _ rfl
          rw [add_field _ _ 2 (by omega)] at hv317_2
          replace hv317_2 := Option.some.inj (hv317_2.symm.trans hx317_2)
          injection hv317_2 with hva_ hvn_ hvc_
          rw [hva_] at ge317_2
          rw [hvc_] at ul317_2
          have HL317_2 := mk_ (show Kd.V (Kd.int .i64) 3 _ w.heap.size _ _ ((rd_T46 l0_1 x18_4).f2) from Kd.V_mk ul317_2 ge317_2)
          clear hva_ hvn_ hvc_ ge317_2 ul317_2
          clear hcc317 hce317
          have HR317_2 := mk_ hi317_2
          have HC317_2 := mk_ hl317_2
          clear hi317_2 hl317_2
          replace p317 := eq_true p317
          replace q317 := eq_true q317
          go_wp2_with (first | ((with_reducible refine gate_callee (f := 24) rfl ?_); refine gl_ (some 134) Try.func24 #[.slice A2 l2.length c2, .int .i64 ((rd_T46 l0_1 x18_4).f0)] ?_; (with_reducible refine (cohousingref23_In.calls k4 _ _ l2 ((rd_T46 l0_1 x18_4).f0) t318 _ ?side1 ?side2 A91.out).mono ?_); (case side1 => exact cc_ ((Kd.C_below HR2.out HB.out))); (case side2 => exact HC2.out); rintro e w' ⟨rfl, ⟨nd, rfl⟩⟩; refine ⟨_, rfl, ?_⟩; (try (rw [drewN_self wr]; generalize hq_ : World.drewN wr _ = wr; have n0_ : Aside0 (Kd.V (Kd.int .i64) 3 wr w.heap.size (fun k_ => ((P0_0_ k_ ∨ P0_1_ k_) ∨ w.heap.size ≤ k_) ∧ some k_ ≠ (u17 : Value).ownBlock ∧ some k_ ≠ (u317001 : Value).ownBlock ∧ some k_ ≠ (v297 : Value).ownBlock ∧ k_ ≠ gb293 ∧ k_ ≠ gb294 ∧ k_ ≠ gb316) (.slice A317_2 ((rd_T46 l0_1 x18_4).f2).length c317_2) ((rd_T46 l0_1 x18_4).f2)) := ⟨by rw [← hq_]; exact (vm_ HL317_2)⟩; have n1_ : Aside0 (Kd.R (Kd.int .i64) 3 wr w.heap.size (fun k_ => (w.heap.size ≤ k_) ∧ some k_ ≠ (v297 : Value).ownBlock) u17 x17_4) := ⟨by rw [← hq_]; exact (rr_ HO_17)⟩; have n2_ : Aside0 (Kd.V k84 84 wr w.heap.size (fun k_ => ((P0_0_ k_ ∨ P0_1_ k_) ∨ w.heap.size ≤ k_) ∧ some k_ ≠ (u17 : Value).ownBlock ∧ some k_ ≠ (u317001 : Value).ownBlock ∧ some k_ ≠ (v297 : Value).ownBlock ∧ k_ ≠ gb293 ∧ k_ ≠ gb294 ∧ k_ ≠ gb316) (.slice A0_0 l0_0.length c0_0) l0_0) := ⟨by rw [← hq_]; exact (vm_ HO_294000)⟩; have n3_ : Aside0 (Kd.V k46 46 wr w.heap.size (fun k_ => ((P0_0_ k_ ∨ P0_1_ k_) ∨ w.heap.size ≤ k_) ∧ some k_ ≠ (u17 : Value).ownBlock ∧ some k_ ≠ (u317001 : Value).ownBlock ∧ some k_ ≠ (v297 : Value).ownBlock ∧ k_ ≠ gb293 ∧ k_ ≠ gb294 ∧ k_ ≠ gb316) (.slice (some ad317) l0_1.length c0_1) l0_1) := ⟨by rw [← hq_]; exact (vm_ HO_294001)⟩; have n4_ : Aside0 (Kd.V k84 84 wr w.heap.size (fun k_ => ((P0_0_ k_ ∨ P0_1_ k_) ∨ w.heap.size ≤ k_) ∧ some k_ ≠ (u17 : Value).ownBlock ∧ some k_ ≠ (u317001 : Value).ownBlock ∧ some k_ ≠ (v297 : Value).ownBlock ∧ k_ ≠ gb293 ∧ k_ ≠ gb294 ∧ k_ ≠ gb316) (.slice A0_0 l0_0.length c0_0) l0_0) := ⟨by rw [← hq_]; exact (vm_ HO_317000)⟩; have n5_ : Aside0 (Kd.N k46 46 wr w.heap.size (fun k_ => ((P0_0_ k_ ∨ P0_1_ k_) ∨ w.heap.size ≤ k_) ∧ some k_ ≠ (u17 : Value).ownBlock ∧ some k_ ≠ (v297 : Value).ownBlock ∧ k_ ≠ gb293 ∧ k_ ≠ gb294 ∧ k_ ≠ gb316) u317001 x317001_4) := ⟨by rw [← hq_]; exact (nm_ HO_317001)⟩; have n6_ : Aside0 (Kd.R (Kd.int .i64) 3 wr w.heap.size (fun k_ => (w.heap.size ≤ k_) ∧ some k_ ≠ (u17 : Value).ownBlock) v297 x9_2) := ⟨by rw [← hq_]; exact (rr_ HO_9)⟩; have n7_ : Aside0 (wr.heap[gb293]? = some (.cells #[.slice A0_0 l0_0.length c0_0, .slice (some ad317) l0_1.length c0_1] 25 (0, 0))) := ⟨by rw [← hq_]; exact (kk_ BK293)⟩; have n8_ : Aside0 (wr.heap[gb294]? = some (.cells #[.slice none 0 0, .slice none 0 0] 25 (0, 0))) := ⟨by rw [← hq_]; exact (kk_ BK294)⟩; have n9_ : Aside0 (wr.heap[gb316]? = some (.cells #[.slice A0_0 l0_0.length c0_0, u317001] 25 (0, 0))) := ⟨by rw [← hq_]; exact (kk_ BK316)⟩; have n10_ : Aside0 (Below w.heap.size w wr) := ⟨by rw [← hq_]; exact (bs3_ HB GE293 GE294 GE316)⟩; have n11_ : Aside0 (Kd.C (Kd.int .i64) wr A317_2 ((rd_T46 l0_1 x18_4).f2).length ((rd_T46 l0_1 x18_4).f2)) := ⟨by rw [← hq_]; exact (cc_ HR317_2.out)⟩; clear HL317_2 HO_17 HO_294000 HO_294001 HO_317000 HO_317001 HO_9 BK293 BK294 BK316 HB HR317_2 hq_; revert n0_ n1_ n2_ n3_ n4_ n5_ n6_ n7_ n8_ n9_ n10_ n11_; intro HL317_2 HO_17 HO_294000 HO_294001 HO_317000 HO_317001 HO_9 BK293 BK294 BK316 HB HR317_2)); obtain ⟨Ao134, co134, eo134⟩ := Kd.R_slice HO_9.out; subst eo134; have p319 : 0 ≤ (x18_4 : Int) := od_; have q319 : x18_4 < (x9_2.length : Int) := od_; obtain ⟨ad319, e319, hx319_0⟩ := Kd.at_int (Kd.R_reads' HO_9.out).2.2 x18_4 p319 q319; cases e319; replace p319 := eq_true p319; replace q319 := eq_true q319; have p330 : 0 ≤ (x18_4 : Int) := od_; have q330 : x18_4 < (x9_2.length : Int) := od_; obtain ⟨ad330, e330, hx330_0⟩ := Kd.at_int (Kd.R_reads' HO_9.out).2.2 x18_4 p330 q330; obtain rfl : ad319 = ad330 := (by injection e330); replace p330 := eq_true p330; replace q330 := eq_true q330; obtain ⟨Ao135, co135, eo135⟩ := Kd.R_slice HO_17.out; subst eo135) | (go_at_call 24; (with_reducible refine (cohousingref23_In.calls k4 _ _ x17_4 (rd x9_2 x18_4) t331 _ ?side1 ?side2 A120.out).mono ?_); (case side1 => exact cc_ ((Kd.R_reads' HO_17.out).2.2)); (case side2 => exact (Kd.R_reads' HO_17.out).2.1); rintro e w' ⟨rfl, ⟨nd, rfl⟩⟩; (try (rw [drewN_self wr]; generalize hq_ : World.drewN wr _ = wr; have n0_ : Aside0 (Kd.V (Kd.int .i64) 3 wr w.heap.size (fun k_ => ((P0_0_ k_ ∨ P0_1_ k_) ∨ w.heap.size ≤ k_) ∧ some k_ ≠ (.slice Ao135 x17_4.length co135 : Value).ownBlock ∧ some k_ ≠ (u317001 : Value).ownBlock ∧ some k_ ≠ (.slice (some ad319) x9_2.length co134 : Value).ownBlock ∧ k_ ≠ gb293 ∧ k_ ≠ gb294 ∧ k_ ≠ gb316) (.slice A317_2 ((rd_T46 l0_1 x18_4).f2).length c317_2) ((rd_T46 l0_1 x18_4).f2)) := ⟨by rw [← hq_]; exact (vm_ HL317_2)⟩; have n1_ : Aside0 (Kd.R (Kd.int .i64) 3 wr w.heap.size (fun k_ => (w.heap.size ≤ k_) ∧ some k_ ≠ (.slice (some ad319) x9_2.length co134 : Value).ownBlock) (.slice Ao135 x17_4.length co135) x17_4) := ⟨by rw [← hq_]; exact (rr_ HO_17)⟩; have n2_ : Aside0 (Kd.V k84 84 wr w.heap.size (fun k_ => ((P0_0_ k_ ∨ P0_1_ k_) ∨ w.heap.size ≤ k_) ∧ some k_ ≠ (.slice Ao135 x17_4.length co135 : Value).ownBlock ∧ some k_ ≠ (u317001 : Value).ownBlock ∧ some k_ ≠ (.slice (some ad319) x9_2.length co134 : Value).ownBlock ∧ k_ ≠ gb293 ∧ k_ ≠ gb294 ∧ k_ ≠ gb316) (.slice A0_0 l0_0.length c0_0) l0_0) := ⟨by rw [← hq_]; exact (vm_ HO_294000)⟩; have n3_ : Aside0 (Kd.V k46 46 wr w.heap.size (fun k_ => ((P0_0_ k_ ∨ P0_1_ k_) ∨ w.heap.size ≤ k_) ∧ some k_ ≠ (.slice Ao135 x17_4.length co135 : Value).ownBlock ∧ some k_ ≠ (u317001 : Value).ownBlock ∧ some k_ ≠ (.slice (some ad319) x9_2.length co134 : Value).ownBlock ∧ k_ ≠ gb293 ∧ k_ ≠ gb294 ∧ k_ ≠ gb316) (.slice (some ad317) l0_1.length c0_1) l0_1) := ⟨by rw [← hq_]; exact (vm_ HO_294001)⟩; have n4_ : Aside0 (Kd.V k84 84 wr w.heap.size (fun k_ => ((P0_0_ k_ ∨ P0_1_ k_) ∨ w.heap.size ≤ k_) ∧ some k_ ≠ (.slice Ao135 x17_4.length co135 : Value).ownBlock ∧ some k_ ≠ (u317001 : Value).ownBlock ∧ some k_ ≠ (.slice (some ad319) x9_2.length co134 : Value).ownBlock ∧ k_ ≠ gb293 ∧ k_ ≠ gb294 ∧ k_ ≠ gb316) (.slice A0_0 l0_0.length c0_0) l0_0) := ⟨by rw [← hq_]; exact (vm_ HO_317000)⟩; have n5_ : Aside0 (Kd.N k46 46 wr w.heap.size (fun k_ => ((P0_0_ k_ ∨ P0_1_ k_) ∨ w.heap.size ≤ k_) ∧ some k_ ≠ (.slice Ao135 x17_4.length co135 : Value).ownBlock ∧ some k_ ≠ (.slice (some ad319) x9_2.length co134 : Value).ownBlock ∧ k_ ≠ gb293 ∧ k_ ≠ gb294 ∧ k_ ≠ gb316) u317001 x317001_4) := ⟨by rw [← hq_]; exact (nm_ HO_317001)⟩; have n6_ : Aside0 (Kd.R (Kd.int .i64) 3 wr w.heap.size (fun k_ => (w.heap.size ≤ k_) ∧ some k_ ≠ (.slice Ao135 x17_4.length co135 : Value).ownBlock) (.slice (some ad319) x9_2.length co134) x9_2) := ⟨by rw [← hq_]; exact (rr_ HO_9)⟩; have n7_ : Aside0 (wr.heap[gb293]? = some (.cells #[.slice A0_0 l0_0.length c0_0, .slice (some ad317) l0_1.length c0_1] 25 (0, 0))) := ⟨by rw [← hq_]; exact (kk_ BK293)⟩; have n8_ : Aside0 (wr.heap[gb294]? = some (.cells #[.slice none 0 0, .slice none 0 0] 25 (0, 0))) := ⟨by rw [← hq_]; exact (kk_ BK294)⟩; have n9_ : Aside0 (wr.heap[gb316]? = some (.cells #[.slice A0_0 l0_0.length c0_0, u317001] 25 (0, 0))) := ⟨by rw [← hq_]; exact (kk_ BK316)⟩; have n10_ : Aside0 (Below w.heap.size w wr) := ⟨by rw [← hq_]; exact (bs3_ HB GE293 GE294 GE316)⟩; have n11_ : Aside0 (Kd.C (Kd.int .i64) wr A317_2 ((rd_T46 l0_1 x18_4).f2).length ((rd_T46 l0_1 x18_4).f2)) := ⟨by rw [← hq_]; exact (cc_ HR317_2.out)⟩; clear HL317_2 HO_17 HO_294000 HO_294001 HO_317000 HO_317001 HO_9 BK293 BK294 BK316 HB HR317_2 hq_; revert n0_ n1_ n2_ n3_ n4_ n5_ n6_ n7_ n8_ n9_ n10_ n11_; intro HL317_2 HO_17 HO_294000 HO_294001 HO_317000 HO_317001 HO_9 BK293 BK294 BK316 HB HR317_2)); have p332 : 0 ≤ (x18_4 : Int) := od_; have q332 : x18_4 < (x9_2.length : Int) := od_; obtain ⟨ad332, e332, hx332_0⟩ := Kd.at_int (Kd.R_reads' HO_9.out).2.2 x18_4 p332 q332; obtain rfl : ad319 = ad332 := (by injection e332); replace p332 := eq_true p332; replace q332 := eq_true q332) | ((with_reducible refine gate_builtin (b := .append) (xs := #[.tmp 151, .tmp 156]) rfl ?_); at_builtin; refine Kd.R_append (Kd.int .i64) (w0 := w) w.heap.size rfl (.tmp 151) (.tmp 156) 29 3 (.int .i64 0) 8 rfl Try.underlying29 info3 rfl (by decide) (by omega) (.slice Ao135 x17_4.length co135) x17_4 (rd x9_2 x18_4) [.int .i64 (rd x9_2 x18_4)] (fun k_ => (w.heap.size ≤ k_) ∧ some k_ ≠ (.slice (some ad319) x9_2.length co134 : Value).ownBlock) (fun _ => False) rfl rfl ?aP (fun _ hk => hk.elim) ?aF ?aO ?aB ?aS ?aL ?_; (case aP => exact rfl); (case aB => exact (bs3_ HB GE293 GE294 GE316)); (case aF => exact (fun k_ hk => ⟨(Nat.le_trans (below_size (bs3_ HB GE293 GE294 GE316)) hk), Kd.fresh' (Kd.R_lt (rr_ HO_9)) k_ hk⟩)); (case aO => exact (rr_ HO_17)); (case aS => exact (below_size (bs3_ HB GE293 GE294 GE316))); (case aL => have := LMc129.out; omega); intro v334 w136 ho hb hg hat; rw [← Ny333.out] at ho; have n0_ := mk_ (Kd.R_after (ok := (fun k_ => (w.heap.size ≤ k_))) (rr_ HO_9) hg hat); have n1_ := mk_ (Kd.V_afterv (ok := (fun k_ => ((P0_0_ k_ ∨ P0_1_ k_) ∨ w.heap.size ≤ k_) ∧ some k_ ≠ (.slice (some ad319) x9_2.length co134 : Value).ownBlock ∧ some k_ ≠ (u317001 : Value).ownBlock ∧ k_ ≠ gb293 ∧ k_ ≠ gb294 ∧ k_ ≠ gb316)) (vm_ HO_294000) hg hat); have n2_ := mk_ (Kd.V_afterv (ok := (fun k_ => ((P0_0_ k_ ∨ P0_1_ k_) ∨ w.heap.size ≤ k_) ∧ some k_ ≠ (.slice (some ad319) x9_2.length co134 : Value).ownBlock ∧ some k_ ≠ (u317001 : Value).ownBlock ∧ k_ ≠ gb293 ∧ k_ ≠ gb294 ∧ k_ ≠ gb316)) (vm_ HO_294001) hg hat); have n3_ := mk_ (Kd.V_afterv (ok := (fun k_ => ((P0_0_ k_ ∨ P0_1_ k_) ∨ w.heap.size ≤ k_) ∧ some k_ ≠ (.slice (some ad319) x9_2.length co134 : Value).ownBlock ∧ some k_ ≠ (u317001 : Value).ownBlock ∧ k_ ≠ gb293 ∧ k_ ≠ gb294 ∧ k_ ≠ gb316)) (vm_ HO_317000) hg hat); have n4_ := mk_ (Kd.N_afterv (ok := (fun k_ => ((P0_0_ k_ ∨ P0_1_ k_) ∨ w.heap.size ≤ k_) ∧ some k_ ≠ (.slice (some ad319) x9_2.length co134 : Value).ownBlock ∧ k_ ≠ gb293 ∧ k_ ≠ gb294 ∧ k_ ≠ gb316)) (nm_ HO_317001) hg hat); have n5_ := mk_ (blk_grown (kk_ BK293) hg (Kd.R_ne HO_17.out BK293.out (by decide))); have n6_ := mk_ (blk_grown (kk_ BK294) hg (Kd.R_ne HO_17.out BK294.out (by decide))); have n7_ := mk_ (blk_grown (kk_ BK316) hg (Kd.R_ne HO_17.out BK316.out (by decide))); have n8_ := mk_ (Kd.V_afterv (ok := (fun k_ => ((P0_0_ k_ ∨ P0_1_ k_) ∨ w.heap.size ≤ k_) ∧ some k_ ≠ (.slice (some ad319) x9_2.length co134 : Value).ownBlock ∧ some k_ ≠ (u317001 : Value).ownBlock ∧ k_ ≠ gb293 ∧ k_ ≠ gb294 ∧ k_ ≠ gb316)) (vm_ HL317_2) hg hat); have n9_ := mk_ (hb); have n10_ := mk_ (ho); clear HO_9 HO_294000 HO_294001 HO_317000 HO_317001 BK293 BK294 BK316 HL317_2 HB HO_17; revert n0_ n1_ n2_ n3_ n4_ n5_ n6_ n7_ n8_ n9_ n10_; intro HO_9 HO_294000 HO_294001 HO_317000 HO_317001 BK293 BK294 BK316 HL317_2 HB HO335; clear ho hb hg hat; have hcz137_0 := bc0_ BK293.out; have hcz137_1 := bc1_ BK293.out; have hfz137_0 := blk_frozen BK293.out 0; have hfz137_1 := blk_frozen BK293.out 1; have p336 : 0 ≤ (x18_4 : Int) := od_; have q336 : x18_4 < (l0_1.length : Int) := od_; obtain ⟨ad336, A336_2, c336_2, e336, hx336_0, hx336_1, hx336_2, hl336_2, hi336_2⟩ := at_T46 (Kd.V_reads' HO_294001.out).2.2 x18_4 p336 q336; obtain rfl : ad317 = ad336 := (by injection e336); obtain ⟨ce336, hce336, hMe336, hcc336⟩ := Kd.V_get HO_294001.out z46 x18_4 p336 (by first | exact q336 | exact od_ | (have e_ := (Kd.V_reads' HO_294001.out).1; omega)); obtain ⟨ua336_2, uc336_2, rfl, ul336_2, ge336_2⟩ := k46_openF hMe336; have hv336_2 := hcc336 2 _ rfl; rw [add_field _ _ 2 (by omega)] at hv336_2; replace hv336_2 := Option.some.inj (hv336_2.symm.trans hx336_2); injection hv336_2 with hva_ hvn_ hvc_; rw [hva_] at ge336_2; rw [hvc_] at ul336_2; have HL336_2 := mk_ (show Kd.V (Kd.int .i64) 3 _ w.heap.size _ _ ((rd_T46 l0_1 x18_4).f2) from Kd.V_mk ul336_2 ge336_2); clear hva_ hvn_ hvc_ ge336_2 ul336_2; clear hcc336 hce336; have HR336_2 := mk_ hi336_2; have HC336_2 := mk_ hl336_2; clear hi336_2 hl336_2; replace p336 := eq_true p336; replace q336 := eq_true q336) | ((with_reducible refine gate_dst (N := 19) rfl ?_); refine box_event ?hg (N := 19) ?hd (cs := #[.int .i64 0, .int .i64 0, .slice none 0 0]) (t := 46) ?hr ?_; (case hd => rfl); (case hg => rfl); (case hr => first | (go_simp; done) | (go_simp; rfl)); intro gb337 hg w138 hbox hb; have n0_ := mk_ (Kd.R_below (rr_ HO_9) hb); have n1_ := mk_ (Kd.V_below (Kd.V_elderB (vv_ HO_294000) gb337 (Nat.le_of_eq hg.symm)) hb); have n2_ := mk_ (Kd.V_below (Kd.V_elderB (vv_ HO_294001) gb337 (Nat.le_of_eq hg.symm)) hb); have n3_ := mk_ (Kd.V_below (Kd.V_elderB (vv_ HO_317000) gb337 (Nat.le_of_eq hg.symm)) hb); have n4_ := mk_ (Kd.N_below (Kd.N_elderB (nn_ HO_317001) gb337 (Nat.le_of_eq hg.symm)) hb); have n5_ := mk_ (Kd.V_below (Kd.V_elderB (vv_ HL317_2) gb337 (Nat.le_of_eq hg.symm)) hb); have n6_ := mk_ (Kd.R_below (rr_ HO335) hb); have n7_ := mk_ (Kd.V_below (Kd.V_elderB (vv_ HL336_2) gb337 (Nat.le_of_eq hg.symm)) hb); have n8_ := mk_ (blk_below (kk_ BK293) hb); have n9_ := mk_ (blk_below (kk_ BK294) hb); have n10_ := mk_ (blk_below (kk_ BK316) hb); have n11_ := mk_ (Kd.C_below (cc_ HR336_2.out) hb); have n12_ := mk_ (below_step (bs3_ HB GE293 GE294 GE316) hb); have n13_ := mk_ (hbox); have n14_ := mk_ (bz_ hg (bs3_ HB GE293 GE294 GE316)); have n15_ := mk_ (bz_ hg (bs3_ HB GE293 GE294 GE316)); have n16_ := mk_ (bl_ hg (kk_ BK293)); have n17_ := mk_ (bg_ hg (kk_ BK293)); have n18_ := mk_ (bl_ hg (kk_ BK294)); have n19_ := mk_ (bg_ hg (kk_ BK294)); have n20_ := mk_ (bl_ hg (kk_ BK316)); have n21_ := mk_ (bg_ hg (kk_ BK316)); clear HO_9 HO_294000 HO_294001 HO_317000 HO_317001 HL317_2 HO335 HL336_2 BK293 BK294 BK316 HR336_2 HB; revert n0_ n1_ n2_ n3_ n4_ n5_ n6_ n7_ n8_ n9_ n10_ n11_ n12_ n13_ n14_ n15_ n16_ n17_ n18_ n19_ n20_ n21_; intro HO_9 HO_294000 HO_294001 HO_317000 HO_317001 HL317_2 HO335 HL336_2 BK293 BK294 BK316 HR336_2 HB BK337 GW337 GE337 NB293_337 NB337_293 NB294_337 NB337_294 NB316_337 NB337_316; clear hb hbox hg; have hnb139 := NB337_293.out; have hnc139 := NB293_337.out; have hnb140 := NB337_294.out; have hnc140 := NB294_337.out; have hnb141 := NB337_316.out; have hnc141 := NB316_337.out; have hcz142_0 := bc0_ BK337.out; have hcz142_1 := bc1_ BK337.out; have hcz142_2 := bc2_ BK337.out; have hfz142_0 := blk_frozen BK337.out 0; have hfz142_1 := blk_frozen BK337.out 1; have hfz142_2 := blk_frozen BK337.out 2) | ((with_reducible refine gate_store (t := 46) (p := 19) rfl ?_); refine store_event (t := 46) (p := 19) (v := ?vo_w143) (w1 := (((w138.setCell ⟨gb337, 0, none⟩ (.int .i64 ((rd_T46 l0_1 x18_4).f0))).setCell ⟨gb337, 1, none⟩ (.int .i64 ((rd_T46 l0_1 x18_4).f1))).setCell ⟨gb337, 2, none⟩ (.slice A336_2 ((rd_T46 l0_1 x18_4).f2).length c336_2))) ?hg ?ho ?hn ?hr ?_; (case ho => rfl); (case hg => rfl); (case hn => rfl); (case hr => first | (go_simp; done) | (go_simp; rfl)); intro w143 hw; have n0_ : Aside0 (Kd.R (Kd.int .i64) 3 w143 w.heap.size (fun k_ => (w.heap.size ≤ k_) ∧ some k_ ≠ (v334 : Value).ownBlock) (.slice (some ad319) x9_2.length co134) x9_2) := ⟨(by rw [hw]; exact (by (with_reducible repeat (first | apply Kd.R_alloc | apply Kd.R_drewN | apply Kd.R_drew)); exact Kd.R_mono (Kd.R_far (p := ⟨gb337, 2, none⟩) (Kd.R_far (p := ⟨gb337, 1, none⟩) (Kd.R_far (p := ⟨gb337, 0, none⟩) (Kd.R_types HO_9.out BK337.out (by decide)) (fun _ hk => hk.2) (.int .i64 ((rd_T46 l0_1 x18_4).f0))) (fun _ hk => hk.2) (.int .i64 ((rd_T46 l0_1 x18_4).f1))) (fun _ hk => hk.2) (.slice A336_2 ((rd_T46 l0_1 x18_4).f2).length c336_2)) wm_))⟩; have n1_ : Aside0 (Kd.V k84 84 w143 w.heap.size (fun k_ => ((P0_0_ k_ ∨ P0_1_ k_) ∨ w.heap.size ≤ k_) ∧ some k_ ≠ (.slice (some ad319) x9_2.length co134 : Value).ownBlock ∧ some k_ ≠ (u317001 : Value).ownBlock ∧ some k_ ≠ (v334 : Value).ownBlock ∧ k_ ≠ gb293 ∧ k_ ≠ gb294 ∧ k_ ≠ gb316 ∧ k_ ≠ gb337) (.slice A0_0 l0_0.length c0_0) l0_0) := ⟨(by rw [hw]; exact (by (with_reducible repeat (first | apply Kd.V_alloc | apply Kd.V_drewN | apply Kd.V_drew)); exact Kd.V_mono (Kd.V_far (p := ⟨gb337, 2, none⟩) (Kd.V_far (p := ⟨gb337, 1, none⟩) (Kd.V_far (p := ⟨gb337, 0, none⟩) (Kd.V_mono HO_294000.out (fun k_ hk => (⟨hk, hk.2⟩ : _ ∧ k_ ≠ gb337))) (fun _ hk => hk.2) (.int .i64 ((rd_T46 l0_1 x18_4).f0))) (fun _ hk => hk.2) (.int .i64 ((rd_T46 l0_1 x18_4).f1))) (fun _ hk => hk.2) (.slice A336_2 ((rd_T46 l0_1 x18_4).f2).length c336_2)) wm_))⟩; have n2_ : Aside0 (Kd.V k46 46 w143 w.heap.size (fun k_ => ((P0_0_ k_ ∨ P0_1_ k_) ∨ w.heap.size ≤ k_) ∧ some k_ ≠ (.slice (some ad319) x9_2.length co134 : Value).ownBlock ∧ some k_ ≠ (u317001 : Value).ownBlock ∧ some k_ ≠ (v334 : Value).ownBlock ∧ k_ ≠ gb293 ∧ k_ ≠ gb294 ∧ k_ ≠ gb316 ∧ k_ ≠ gb337) (.slice (some ad317) l0_1.length c0_1) l0_1) := ⟨(by rw [hw]; exact (by (with_reducible repeat (first | apply Kd.V_alloc | apply Kd.V_drewN | apply Kd.V_drew)); exact Kd.V_mono (Kd.V_far (p := ⟨gb337, 2, none⟩) (Kd.V_far (p := ⟨gb337, 1, none⟩) (Kd.V_far (p := ⟨gb337, 0, none⟩) (Kd.V_mono HO_294001.out (fun k_ hk => (⟨hk, hk.2⟩ : _ ∧ k_ ≠ gb337))) (fun _ hk => hk.2) (.int .i64 ((rd_T46 l0_1 x18_4).f0))) (fun _ hk => hk.2) (.int .i64 ((rd_T46 l0_1 x18_4).f1))) (fun _ hk => hk.2) (.slice A336_2 ((rd_T46 l0_1 x18_4).f2).length c336_2)) wm_))⟩; have n3_ : Aside0 (Kd.V k84 84 w143 w.heap.size (fun k_ => ((P0_0_ k_ ∨ P0_1_ k_) ∨ w.heap.size ≤ k_) ∧ some k_ ≠ (.slice (some ad319) x9_2.length co134 : Value).ownBlock ∧ some k_ ≠ (u317001 : Value).ownBlock ∧ some k_ ≠ (v334 : Value).ownBlock ∧ k_ ≠ gb293 ∧ k_ ≠ gb294 ∧ k_ ≠ gb316 ∧ k_ ≠ gb337) (.slice A0_0 l0_0.length c0_0) l0_0) := ⟨(by rw [hw]; exact (by (with_reducible repeat (first | apply Kd.V_alloc | apply Kd.V_drewN | apply Kd.V_drew)); exact Kd.V_mono (Kd.V_far (p := ⟨gb337, 2, none⟩) (Kd.V_far (p := ⟨gb337, 1, none⟩) (Kd.V_far (p := ⟨gb337, 0, none⟩) (Kd.V_mono HO_317000.out (fun k_ hk => (⟨hk, hk.2⟩ : _ ∧ k_ ≠ gb337))) (fun _ hk => hk.2) (.int .i64 ((rd_T46 l0_1 x18_4).f0))) (fun _ hk => hk.2) (.int .i64 ((rd_T46 l0_1 x18_4).f1))) (fun _ hk => hk.2) (.slice A336_2 ((rd_T46 l0_1 x18_4).f2).length c336_2)) wm_))⟩; have n4_ : Aside0 (Kd.N k46 46 w143 w.heap.size (fun k_ => ((P0_0_ k_ ∨ P0_1_ k_) ∨ w.heap.size ≤ k_) ∧ some k_ ≠ (.slice (some ad319) x9_2.length co134 : Value).ownBlock ∧ some k_ ≠ (v334 : Value).ownBlock ∧ k_ ≠ gb293 ∧ k_ ≠ gb294 ∧ k_ ≠ gb316 ∧ k_ ≠ gb337) u317001 x317001_4) := ⟨(by rw [hw]; exact (by (with_reducible repeat (first | apply Kd.N_alloc | apply Kd.N_drewN | apply Kd.N_drew)); exact Kd.N_mono (Kd.N_far (p := ⟨gb337, 2, none⟩) (Kd.N_far (p := ⟨gb337, 1, none⟩) (Kd.N_far (p := ⟨gb337, 0, none⟩) (Kd.N_mono HO_317001.out (fun k_ hk => (⟨hk, hk.2⟩ : _ ∧ k_ ≠ gb337))) (fun _ hk => hk.2) (.int .i64 ((rd_T46 l0_1 x18_4).f0))) (fun _ hk => hk.2) (.int .i64 ((rd_T46 l0_1 x18_4).f1))) (fun _ hk => hk.2) (.slice A336_2 ((rd_T46 l0_1 x18_4).f2).length c336_2)) wm_))⟩; have n5_ : Aside0 (Kd.V (Kd.int .i64) 3 w143 w.heap.size (fun k_ => ((P0_0_ k_ ∨ P0_1_ k_) ∨ w.heap.size ≤ k_) ∧ some k_ ≠ (.slice (some ad319) x9_2.length co134 : Value).ownBlock ∧ some k_ ≠ (u317001 : Value).ownBlock ∧ some k_ ≠ (v334 : Value).ownBlock ∧ k_ ≠ gb293 ∧ k_ ≠ gb294 ∧ k_ ≠ gb316 ∧ k_ ≠ gb337) (.slice A317_2 ((rd_T46 l0_1 x18_4).f2).length c317_2) ((rd_T46 l0_1 x18_4).f2)) := ⟨(by rw [hw]; exact (by (with_reducible repeat (first | apply Kd.V_alloc | apply Kd.V_drewN | apply Kd.V_drew)); exact Kd.V_mono (Kd.V_far (p := ⟨gb337, 2, none⟩) (Kd.V_far (p := ⟨gb337, 1, none⟩) (Kd.V_far (p := ⟨gb337, 0, none⟩) (Kd.V_mono HL317_2.out (fun k_ hk => (⟨hk, hk.2⟩ : _ ∧ k_ ≠ gb337))) (fun _ hk => hk.2) (.int .i64 ((rd_T46 l0_1 x18_4).f0))) (fun _ hk => hk.2) (.int .i64 ((rd_T46 l0_1 x18_4).f1))) (fun _ hk => hk.2) (.slice A336_2 ((rd_T46 l0_1 x18_4).f2).length c336_2)) wm_))⟩; have n6_ : Aside0 (Kd.R (Kd.int .i64) 3 w143 w.heap.size (fun k_ => (w.heap.size ≤ k_) ∧ some k_ ≠ (.slice (some ad319) x9_2.length co134 : Value).ownBlock) v334 y333) := ⟨(by rw [hw]; exact (by (with_reducible repeat (first | apply Kd.R_alloc | apply Kd.R_drewN | apply Kd.R_drew)); exact Kd.R_mono (Kd.R_far (p := ⟨gb337, 2, none⟩) (Kd.R_far (p := ⟨gb337, 1, none⟩) (Kd.R_far (p := ⟨gb337, 0, none⟩) (Kd.R_types HO335.out BK337.out (by decide)) (fun _ hk => hk.2) (.int .i64 ((rd_T46 l0_1 x18_4).f0))) (fun _ hk => hk.2) (.int .i64 ((rd_T46 l0_1 x18_4).f1))) (fun _ hk => hk.2) (.slice A336_2 ((rd_T46 l0_1 x18_4).f2).length c336_2)) wm_))⟩; have n7_ : Aside0 (Kd.V (Kd.int .i64) 3 w143 w.heap.size (fun k_ => ((P0_0_ k_ ∨ P0_1_ k_) ∨ w.heap.size ≤ k_) ∧ some k_ ≠ (.slice (some ad319) x9_2.length co134 : Value).ownBlock ∧ some k_ ≠ (u317001 : Value).ownBlock ∧ some k_ ≠ (v334 : Value).ownBlock ∧ k_ ≠ gb293 ∧ k_ ≠ gb294 ∧ k_ ≠ gb316 ∧ k_ ≠ gb337) (.slice A336_2 ((rd_T46 l0_1 x18_4).f2).length c336_2) ((rd_T46 l0_1 x18_4).f2)) := ⟨(by rw [hw]; exact (by (with_reducible repeat (first | apply Kd.V_alloc | apply Kd.V_drewN | apply Kd.V_drew)); exact Kd.V_mono (Kd.V_far (p := ⟨gb337, 2, none⟩) (Kd.V_far (p := ⟨gb337, 1, none⟩) (Kd.V_far (p := ⟨gb337, 0, none⟩) (Kd.V_mono HL336_2.out (fun k_ hk => (⟨hk, hk.2⟩ : _ ∧ k_ ≠ gb337))) (fun _ hk => hk.2) (.int .i64 ((rd_T46 l0_1 x18_4).f0))) (fun _ hk => hk.2) (.int .i64 ((rd_T46 l0_1 x18_4).f1))) (fun _ hk => hk.2) (.slice A336_2 ((rd_T46 l0_1 x18_4).f2).length c336_2)) wm_))⟩; have n8_ : Aside0 (w143.heap[gb293]? = some (.cells #[.slice A0_0 l0_0.length c0_0, .slice (some ad317) l0_1.length c0_1] 25 (0, 0))) := ⟨(by rw [hw]; exact (by (with_reducible repeat (first | refine blk_drewN ?_ _ | refine blk_drew ?_ | refine blk_alloc ?_ _)); refine blk_far ?_ NB293_337.out _; (with_reducible repeat (first | refine blk_drewN ?_ _ | refine blk_drew ?_ | refine blk_alloc ?_ _)); refine blk_far ?_ NB293_337.out _; (with_reducible repeat (first | refine blk_drewN ?_ _ | refine blk_drew ?_ | refine blk_alloc ?_ _)); refine blk_far ?_ NB293_337.out _; (with_reducible repeat (first | refine blk_drewN ?_ _ | refine blk_drew ?_ | refine blk_alloc ?_ _)); exact BK293.out))⟩; have n9_ : Aside0 (w143.heap[gb294]? = some (.cells #[.slice none 0 0, .slice none 0 0] 25 (0, 0))) := ⟨(by rw [hw]; exact (by (with_reducible repeat (first | refine blk_drewN ?_ _ | refine blk_drew ?_ | refine blk_alloc ?_ _)); refine blk_far ?_ NB294_337.out _; (with_reducible repeat (first | refine blk_drewN ?_ _ | refine blk_drew ?_ | refine blk_alloc ?_ _)); refine blk_far ?_ NB294_337.out _; (with_reducible repeat (first | refine blk_drewN ?_ _ | refine blk_drew ?_ | refine blk_alloc ?_ _)); refine blk_far ?_ NB294_337.out _; (with_reducible repeat (first | refine blk_drewN ?_ _ | refine blk_drew ?_ | refine blk_alloc ?_ _)); exact BK294.out))⟩; have n10_ : Aside0 (w143.heap[gb316]? = some (.cells #[.slice A0_0 l0_0.length c0_0, u317001] 25 (0, 0))) := ⟨(by rw [hw]; exact (by (with_reducible repeat (first | refine blk_drewN ?_ _ | refine blk_drew ?_ | refine blk_alloc ?_ _)); refine blk_far ?_ NB316_337.out _; (with_reducible repeat (first | refine blk_drewN ?_ _ | refine blk_drew ?_ | refine blk_alloc ?_ _)); refine blk_far ?_ NB316_337.out _; (with_reducible repeat (first | refine blk_drewN ?_ _ | refine blk_drew ?_ | refine blk_alloc ?_ _)); refine blk_far ?_ NB316_337.out _; (with_reducible repeat (first | refine blk_drewN ?_ _ | refine blk_drew ?_ | refine blk_alloc ?_ _)); exact BK316.out))⟩; have n11_ : Aside0 (w143.heap[gb337]? = some (.cells #[.int .i64 ((rd_T46 l0_1 x18_4).f0), .int .i64 ((rd_T46 l0_1 x18_4).f1), .slice A336_2 ((rd_T46 l0_1 x18_4).f2).length c336_2] 46 (0, 0))) := ⟨(by rw [hw]; exact (by (with_reducible repeat (first | refine blk_drewN ?_ _ | refine blk_drew ?_ | refine blk_alloc ?_ _)); refine blk_put (cs := #[.int .i64 ((rd_T46 l0_1 x18_4).f0), .int .i64 ((rd_T46 l0_1 x18_4).f1), .slice none 0 0]) ?_ 2 _ rfl; (with_reducible repeat (first | refine blk_drewN ?_ _ | refine blk_drew ?_ | refine blk_alloc ?_ _)); refine blk_put (cs := #[.int .i64 ((rd_T46 l0_1 x18_4).f0), .int .i64 0, .slice none 0 0]) ?_ 1 _ rfl; (with_reducible repeat (first | refine blk_drewN ?_ _ | refine blk_drew ?_ | refine blk_alloc ?_ _)); refine blk_put (cs := #[.int .i64 0, .int .i64 0, .slice none 0 0]) ?_ 0 _ rfl; (with_reducible repeat (first | refine blk_drewN ?_ _ | refine blk_drew ?_ | refine blk_alloc ?_ _)); exact BK337.out))⟩; have n12_ : Aside0 (Below w.heap.size w w143) := ⟨(by rw [hw]; exact (bs4_ HB GE293 GE294 GE316 GE337))⟩; clear hw; clear HO_9 HO_294000 HO_294001 HO_317000 HO_317001 HL317_2 HO335 HL336_2 BK293 BK294 BK316 BK337 HB; revert n0_ n1_ n2_ n3_ n4_ n5_ n6_ n7_ n8_ n9_ n10_ n11_ n12_; intro HO_9 HO_294000 HO_294001 HO_317000 HO_317001 HL317_2 HO335 HL336_2 BK293 BK294 BK316 BK337 HB; have p338 : 0 ≤ (x18_4 : Int) := od_; have q338 : x18_4 < (x9_2.length : Int) := od_; obtain ⟨ad338, e338, hx338_0⟩ := Kd.at_int (Kd.R_reads' HO_9.out).2.2 x18_4 p338 q338; obtain rfl : ad319 = ad338 := (by injection e338); replace p338 := eq_true p338; replace q338 := eq_true q338; have hcz144_0 := bc0_ BK337.out; have hcz144_1 := bc1_ BK337.out; have hcz144_2 := bc2_ BK337.out; have hfz144_0 := blk_frozen BK337.out 0; have hfz144_1 := blk_frozen BK337.out 1; have hfz144_2 := blk_frozen BK337.out 2) | ((with_reducible refine gate_store (t := 3) (p := 167) rfl ?_); refine store_event (t := 3) (p := 167) (v := ?vo_w145) (w1 := (w143.setCell ⟨gb337, 1, none⟩ (.int .i64 (rd x9_2 x18_4)))) ?hg ?ho ?hn ?hr ?_; (case ho => rfl); (case hg => rfl); (case hn => rfl); (case hr => first | (go_simp; done) | (go_simp; rfl)); intro w145 hw; have n0_ : Aside0 (Kd.R (Kd.int .i64) 3 w145 w.heap.size (fun k_ => (w.heap.size ≤ k_) ∧ some k_ ≠ (v334 : Value).ownBlock) (.slice (some ad319) x9_2.length co134) x9_2) := ⟨(by rw [hw]; exact (by (with_reducible repeat (first | apply Kd.R_alloc | apply Kd.R_drewN | apply Kd.R_drew)); exact Kd.R_mono (Kd.R_far (p := ⟨gb337, 1, none⟩) (Kd.R_types HO_9.out BK337.out (by decide)) (fun _ hk => hk.2) (.int .i64 (rd x9_2 x18_4))) wm_))⟩; have n1_ : Aside0 (Kd.V k84 84 w145 w.heap.size (fun k_ => ((P0_0_ k_ ∨ P0_1_ k_) ∨ w.heap.size ≤ k_) ∧ some k_ ≠ (.slice (some ad319) x9_2.length co134 : Value).ownBlock ∧ some k_ ≠ (u317001 : Value).ownBlock ∧ some k_ ≠ (v334 : Value).ownBlock ∧ k_ ≠ gb293 ∧ k_ ≠ gb294 ∧ k_ ≠ gb316 ∧ k_ ≠ gb337) (.slice A0_0 l0_0.length c0_0) l0_0) := ⟨(by rw [hw]; exact (by (with_reducible repeat (first | apply Kd.V_alloc | apply Kd.V_drewN | apply Kd.V_drew)); exact Kd.V_mono (Kd.V_far (p := ⟨gb337, 1, none⟩) (Kd.V_mono HO_294000.out (fun k_ hk => (⟨hk, hk.2.2.2.2.2.2.2⟩ : _ ∧ k_ ≠ gb337))) (fun _ hk => hk.2) (.int .i64 (rd x9_2 x18_4))) wm_))⟩; have n2_ : Aside0 (Kd.V k46 46 w145 w.heap.size (fun k_ => ((P0_0_ k_ ∨ P0_1_ k_) ∨ w.heap.size ≤ k_) ∧ some k_ ≠ (.slice (some ad319) x9_2.length co134 : Value).ownBlock ∧ some k_ ≠ (u317001 : Value).ownBlock ∧ some k_ ≠ (v334 : Value).ownBlock ∧ k_ ≠ gb293 ∧ k_ ≠ gb294 ∧ k_ ≠ gb316 ∧ k_ ≠ gb337) (.slice (some ad317) l0_1.length c0_1) l0_1) := ⟨(by rw [hw]; exact (by (with_reducible repeat (first | apply Kd.V_alloc | apply Kd.V_drewN | apply Kd.V_drew)); exact Kd.V_mono (Kd.V_far (p := ⟨gb337, 1, none⟩) (Kd.V_mono HO_294001.out (fun k_ hk => (⟨hk, hk.2.2.2.2.2.2.2⟩ : _ ∧ k_ ≠ gb337))) (fun _ hk => hk.2) (.int .i64 (rd x9_2 x18_4))) wm_))⟩; have n3_ : Aside0 (Kd.V k84 84 w145 w.heap.size (fun k_ => ((P0_0_ k_ ∨ P0_1_ k_) ∨ w.heap.size ≤ k_) ∧ some k_ ≠ (.slice (some ad319) x9_2.length co134 : Value).ownBlock ∧ some k_ ≠ (u317001 : Value).ownBlock ∧ some k_ ≠ (v334 : Value).ownBlock ∧ k_ ≠ gb293 ∧ k_ ≠ gb294 ∧ k_ ≠ gb316 ∧ k_ ≠ gb337) (.slice A0_0 l0_0.length c0_0) l0_0) := ⟨(by rw [hw]; exact (by (with_reducible repeat (first | apply Kd.V_alloc | apply Kd.V_drewN | apply Kd.V_drew)); exact Kd.V_mono (Kd.V_far (p := ⟨gb337, 1, none⟩) (Kd.V_mono HO_317000.out (fun k_ hk => (⟨hk, hk.2.2.2.2.2.2.2⟩ : _ ∧ k_ ≠ gb337))) (fun _ hk => hk.2) (.int .i64 (rd x9_2 x18_4))) wm_))⟩; have n4_ : Aside0 (Kd.N k46 46 w145 w.heap.size (fun k_ => ((P0_0_ k_ ∨ P0_1_ k_) ∨ w.heap.size ≤ k_) ∧ some k_ ≠ (.slice (some ad319) x9_2.length co134 : Value).ownBlock ∧ some k_ ≠ (v334 : Value).ownBlock ∧ k_ ≠ gb293 ∧ k_ ≠ gb294 ∧ k_ ≠ gb316 ∧ k_ ≠ gb337) u317001 x317001_4) := ⟨(by rw [hw]; exact (by (with_reducible repeat (first | apply Kd.N_alloc | apply Kd.N_drewN | apply Kd.N_drew)); exact Kd.N_mono (Kd.N_far (p := ⟨gb337, 1, none⟩) (Kd.N_mono HO_317001.out (fun k_ hk => (⟨hk, hk.2.2.2.2.2.2⟩ : _ ∧ k_ ≠ gb337))) (fun _ hk => hk.2) (.int .i64 (rd x9_2 x18_4))) wm_))⟩; have n5_ : Aside0 (Kd.V (Kd.int .i64) 3 w145 w.heap.size (fun k_ => ((P0_0_ k_ ∨ P0_1_ k_) ∨ w.heap.size ≤ k_) ∧ some k_ ≠ (.slice (some ad319) x9_2.length co134 : Value).ownBlock ∧ some k_ ≠ (u317001 : Value).ownBlock ∧ some k_ ≠ (v334 : Value).ownBlock ∧ k_ ≠ gb293 ∧ k_ ≠ gb294 ∧ k_ ≠ gb316 ∧ k_ ≠ gb337) (.slice A317_2 ((rd_T46 l0_1 x18_4).f2).length c317_2) ((rd_T46 l0_1 x18_4).f2)) := ⟨(by rw [hw]; exact (by (with_reducible repeat (first | apply Kd.V_alloc | apply Kd.V_drewN | apply Kd.V_drew)); exact Kd.V_mono (Kd.V_far (p := ⟨gb337, 1, none⟩) (Kd.V_mono HL317_2.out (fun k_ hk => (⟨hk, hk.2.2.2.2.2.2.2⟩ : _ ∧ k_ ≠ gb337))) (fun _ hk => hk.2) (.int .i64 (rd x9_2 x18_4))) wm_))⟩; have n6_ : Aside0 (Kd.R (Kd.int .i64) 3 w145 w.heap.size (fun k_ => (w.heap.size ≤ k_) ∧ some k_ ≠ (.slice (some ad319) x9_2.length co134 : Value).ownBlock) v334 y333) := ⟨(by rw [hw]; exact (by (with_reducible repeat (first | apply Kd.R_alloc | apply Kd.R_drewN | apply Kd.R_drew)); exact Kd.R_mono (Kd.R_far (p := ⟨gb337, 1, none⟩) (Kd.R_types HO335.out BK337.out (by decide)) (fun _ hk => hk.2) (.int .i64 (rd x9_2 x18_4))) wm_))⟩; have n7_ : Aside0 (Kd.V (Kd.int .i64) 3 w145 w.heap.size (fun k_ => ((P0_0_ k_ ∨ P0_1_ k_) ∨ w.heap.size ≤ k_) ∧ some k_ ≠ (.slice (some ad319) x9_2.length co134 : Value).ownBlock ∧ some k_ ≠ (u317001 : Value).ownBlock ∧ some k_ ≠ (v334 : Value).ownBlock ∧ k_ ≠ gb293 ∧ k_ ≠ gb294 ∧ k_ ≠ gb316 ∧ k_ ≠ gb337) (.slice A336_2 ((rd_T46 l0_1 x18_4).f2).length c336_2) ((rd_T46 l0_1 x18_4).f2)) := ⟨(by rw [hw]; exact (by (with_reducible repeat (first | apply Kd.V_alloc | apply Kd.V_drewN | apply Kd.V_drew)); exact Kd.V_mono (Kd.V_far (p := ⟨gb337, 1, none⟩) (Kd.V_mono HL336_2.out (fun k_ hk => (⟨hk, hk.2.2.2.2.2.2.2⟩ : _ ∧ k_ ≠ gb337))) (fun _ hk => hk.2) (.int .i64 (rd x9_2 x18_4))) wm_))⟩; have n8_ : Aside0 (w145.heap[gb293]? = some (.cells #[.slice A0_0 l0_0.length c0_0, .slice (some ad317) l0_1.length c0_1] 25 (0, 0))) := ⟨(by rw [hw]; exact (by (with_reducible repeat (first | refine blk_drewN ?_ _ | refine blk_drew ?_ | refine blk_alloc ?_ _)); refine blk_far ?_ NB293_337.out _; (with_reducible repeat (first | refine blk_drewN ?_ _ | refine blk_drew ?_ | refine blk_alloc ?_ _)); exact BK293.out))⟩; have n9_ : Aside0 (w145.heap[gb294]? = some (.cells #[.slice none 0 0, .slice none 0 0] 25 (0, 0))) := ⟨(by rw [hw]; exact (by (with_reducible repeat (first | refine blk_drewN ?_ _ | refine blk_drew ?_ | refine blk_alloc ?_ _)); refine blk_far ?_ NB294_337.out _; (with_reducible repeat (first | refine blk_drewN ?_ _ | refine blk_drew ?_ | refine blk_alloc ?_ _)); exact BK294.out))⟩; have n10_ : Aside0 (w145.heap[gb316]? = some (.cells #[.slice A0_0 l0_0.length c0_0, u317001] 25 (0, 0))) := ⟨(by rw [hw]; exact (by (with_reducible repeat (first | refine blk_drewN ?_ _ | refine blk_drew ?_ | refine blk_alloc ?_ _)); refine blk_far ?_ NB316_337.out _; (with_reducible repeat (first | refine blk_drewN ?_ _ | refine blk_drew ?_ | refine blk_alloc ?_ _)); exact BK316.out))⟩; have n11_ : Aside0 (w145.heap[gb337]? = some (.cells #[.int .i64 ((rd_T46 l0_1 x18_4).f0), .int .i64 (rd x9_2 x18_4), .slice A336_2 ((rd_T46 l0_1 x18_4).f2).length c336_2] 46 (0, 0))) := ⟨(by rw [hw]; exact (by (with_reducible repeat (first | refine blk_drewN ?_ _ | refine blk_drew ?_ | refine blk_alloc ?_ _)); refine blk_put (cs := #[.int .i64 ((rd_T46 l0_1 x18_4).f0), .int .i64 ((rd_T46 l0_1 x18_4).f1), .slice A336_2 ((rd_T46 l0_1 x18_4).f2).length c336_2]) ?_ 1 _ rfl; (with_reducible repeat (first | refine blk_drewN ?_ _ | refine blk_drew ?_ | refine blk_alloc ?_ _)); exact BK337.out))⟩; have n12_ : Aside0 (Below w.heap.size w w145) := ⟨(by rw [hw]; exact (bs4_ HB GE293 GE294 GE316 GE337))⟩; clear hw; clear HO_9 HO_294000 HO_294001 HO_317000 HO_317001 HL317_2 HO335 HL336_2 BK293 BK294 BK316 BK337 HB; revert n0_ n1_ n2_ n3_ n4_ n5_ n6_ n7_ n8_ n9_ n10_ n11_ n12_; intro HO_9 HO_294000 HO_294001 HO_317000 HO_317001 HL317_2 HO335 HL336_2 BK293 BK294 BK316 BK337 HB; have hnb146 := NB316_294.out; have hnc146 := NB294_316.out; have hcz147_0 := bc0_ BK316.out; have hcz147_1 := bc1_ BK316.out; have hfz147_0 := blk_frozen BK316.out 0; have hfz147_1 := blk_frozen BK316.out 1; have hcz148_0 := bc0_ BK337.out; have hcz148_1 := bc1_ BK337.out; have hcz148_2 := bc2_ BK337.out; have hfz148_0 := blk_frozen BK337.out 0; have hfz148_1 := blk_frozen BK337.out 1; have hfz148_2 := blk_frozen BK337.out 2) | ((with_reducible refine gate_builtin (b := .append) (xs := #[.tmp 169, .tmp 171]) rfl ?_); at_builtin; refine Kd.N_append k46 (w0 := w) w.heap.size rfl (.tmp 169) (.tmp 171) 23 46 (.agg #[(.int .i64 0), (.int .i64 0), (.slice none 0 0)]) 40 rfl Try.underlying23 info46 rfl (by decide) (by omega) u317001 x317001_4 (⟨(rd_T46 l0_1 x18_4).f0, rd x9_2 x18_4, (rd_T46 l0_1 x18_4).f2⟩ : S46) [.int .i64 ((rd_T46 l0_1 x18_4).f0), .int .i64 (rd x9_2 x18_4), .slice A336_2 ((rd_T46 l0_1 x18_4).f2).length c336_2] (fun k_ => ((P0_0_ k_ ∨ P0_1_ k_) ∨ w.heap.size ≤ k_) ∧ some k_ ≠ (.slice (some ad319) x9_2.length co134 : Value).ownBlock ∧ some k_ ≠ (v334 : Value).ownBlock ∧ k_ ≠ gb293 ∧ k_ ≠ gb294 ∧ k_ ≠ gb316 ∧ k_ ≠ gb337) (fun k_ => ((fun k_ => ((P0_0_ k_ ∨ P0_1_ k_) ∨ w.heap.size ≤ k_) ∧ some k_ ≠ (.slice (some ad319) x9_2.length co134 : Value).ownBlock ∧ some k_ ≠ (v334 : Value).ownBlock ∧ k_ ≠ gb293 ∧ k_ ≠ gb294 ∧ k_ ≠ gb316 ∧ k_ ≠ gb337)) k_ ∧ some k_ ≠ (u317001 : Value).ownBlock) rfl rfl ?aP (fun _ hk => hk) ?aF ?aO ?aB ?aS ?aL ?_; (case aP => exact (k46_mkF _ _ (⟨(rd_T46 l0_1 x18_4).f0, rd x9_2 x18_4, (rd_T46 l0_1 x18_4).f2⟩ : S46) (Kd.V_reads' (Kd.V_mono (ok' := (fun k_ => ((fun k_ => ((P0_0_ k_ ∨ P0_1_ k_) ∨ w.heap.size ≤ k_) ∧ some k_ ≠ (.slice (some ad319) x9_2.length co134 : Value).ownBlock ∧ some k_ ≠ (v334 : Value).ownBlock ∧ k_ ≠ gb293 ∧ k_ ≠ gb294 ∧ k_ ≠ gb316 ∧ k_ ≠ gb337)) k_ ∧ some k_ ≠ (u317001 : Value).ownBlock)) (HL336_2.out) (fun k_ hk => ⟨⟨hk.1, ⟨hk.2.1, ⟨hk.2.2.2.1, ⟨hk.2.2.2.2.1, ⟨hk.2.2.2.2.2.1, ⟨hk.2.2.2.2.2.2.1, hk.2.2.2.2.2.2.2⟩⟩⟩⟩⟩⟩, hk.2.2.1⟩))).2.1 (Kd.V_F (Kd.V_mono (ok' := (fun k_ => ((fun k_ => ((P0_0_ k_ ∨ P0_1_ k_) ∨ w.heap.size ≤ k_) ∧ some k_ ≠ (.slice (some ad319) x9_2.length co134 : Value).ownBlock ∧ some k_ ≠ (v334 : Value).ownBlock ∧ k_ ≠ gb293 ∧ k_ ≠ gb294 ∧ k_ ≠ gb316 ∧ k_ ≠ gb337)) k_ ∧ some k_ ≠ (u317001 : Value).ownBlock)) (HL336_2.out) (fun k_ hk => ⟨⟨hk.1, ⟨hk.2.1, ⟨hk.2.2.2.1, ⟨hk.2.2.2.2.1, ⟨hk.2.2.2.2.2.1, ⟨hk.2.2.2.2.2.2.1, hk.2.2.2.2.2.2.2⟩⟩⟩⟩⟩⟩, hk.2.2.1⟩))))); (case aB => exact (bs4_ HB GE293 GE294 GE316 GE337)); (case aF => exact (fun k_ hk => ⟨(.inr (Nat.le_trans (below_size (bs4_ HB GE293 GE294 GE316 GE337)) hk)), Kd.fresh' (Kd.R_lt (rr_ HO_9)) k_ hk, Kd.fresh' (Kd.R_lt (rr_ HO335)) k_ hk, Kd.freshB (g := gb293) (o := .cells #[.slice A0_0 l0_0.length c0_0, .slice (some ad317) l0_1.length c0_1] 25 (0, 0)) (kk_ BK293) k_ hk, Kd.freshB (g := gb294) (o := .cells #[.slice none 0 0, .slice none 0 0] 25 (0, 0)) (kk_ BK294) k_ hk, Kd.freshB (g := gb316) (o := .cells #[.slice A0_0 l0_0.length c0_0, u317001] 25 (0, 0)) (kk_ BK316) k_ hk, Kd.freshB (g := gb337) (o := .cells #[.int .i64 ((rd_T46 l0_1 x18_4).f0), .int .i64 (rd x9_2 x18_4), .slice A336_2 ((rd_T46 l0_1 x18_4).f2).length c336_2] 46 (0, 0)) (kk_ BK337) k_ hk⟩)); (case aO => exact (nn_ HO_317001)); (case aS => exact (below_size (bs4_ HB GE293 GE294 GE316 GE337))); (case aL => have := LMc130.out; omega); intro v340 w149 ho hb hg hat; rw [← Ny339.out] at ho; have n0_ := mk_ (Kd.R_over' (rr_ HO_9) (Kd.N_typed (nn_ HO_317001)) (by decide) hg); have n1_ := mk_ (Kd.V_afterv (ok := (fun k_ => ((P0_0_ k_ ∨ P0_1_ k_) ∨ w.heap.size ≤ k_) ∧ some k_ ≠ (.slice (some ad319) x9_2.length co134 : Value).ownBlock ∧ some k_ ≠ (v334 : Value).ownBlock ∧ k_ ≠ gb293 ∧ k_ ≠ gb294 ∧ k_ ≠ gb316 ∧ k_ ≠ gb337)) (vm_ HO_294000) hg hat); have n2_ := mk_ (Kd.V_afterv (ok := (fun k_ => ((P0_0_ k_ ∨ P0_1_ k_) ∨ w.heap.size ≤ k_) ∧ some k_ ≠ (.slice (some ad319) x9_2.length co134 : Value).ownBlock ∧ some k_ ≠ (v334 : Value).ownBlock ∧ k_ ≠ gb293 ∧ k_ ≠ gb294 ∧ k_ ≠ gb316 ∧ k_ ≠ gb337)) (vm_ HO_294001) hg hat); have n3_ := mk_ (Kd.V_afterv (ok := (fun k_ => ((P0_0_ k_ ∨ P0_1_ k_) ∨ w.heap.size ≤ k_) ∧ some k_ ≠ (.slice (some ad319) x9_2.length co134 : Value).ownBlock ∧ some k_ ≠ (v334 : Value).ownBlock ∧ k_ ≠ gb293 ∧ k_ ≠ gb294 ∧ k_ ≠ gb316 ∧ k_ ≠ gb337)) (vm_ HO_317000) hg hat); have n4_ := mk_ (blk_grown (kk_ BK293) hg (Kd.N_ne HO_317001.out BK293.out (by decide))); have n5_ := mk_ (blk_grown (kk_ BK294) hg (Kd.N_ne HO_317001.out BK294.out (by decide))); have n6_ := mk_ (blk_grown (kk_ BK316) hg (Kd.N_ne HO_317001.out BK316.out (by decide))); have n7_ := mk_ (Kd.V_afterv (ok := (fun k_ => ((P0_0_ k_ ∨ P0_1_ k_) ∨ w.heap.size ≤ k_) ∧ some k_ ≠ (.slice (some ad319) x9_2.length co134 : Value).ownBlock ∧ some k_ ≠ (v334 : Value).ownBlock ∧ k_ ≠ gb293 ∧ k_ ≠ gb294 ∧ k_ ≠ gb316 ∧ k_ ≠ gb337)) (vm_ HL317_2) hg hat); have n8_ := mk_ (Kd.R_over' (rr_ HO335) (Kd.N_typed (nn_ HO_317001)) (by decide) hg); have n9_ := mk_ (Kd.V_afterv (ok := (fun k_ => ((P0_0_ k_ ∨ P0_1_ k_) ∨ w.heap.size ≤ k_) ∧ some k_ ≠ (.slice (some ad319) x9_2.length co134 : Value).ownBlock ∧ some k_ ≠ (v334 : Value).ownBlock ∧ k_ ≠ gb293 ∧ k_ ≠ gb294 ∧ k_ ≠ gb316 ∧ k_ ≠ gb337)) (vm_ HL336_2) hg hat); have n10_ := mk_ (blk_grown (kk_ BK337) hg (Kd.N_away HO_317001.out (fun _ hk => hk.2.2.2.2.2.2))); have n11_ := mk_ (hb); have n12_ := mk_ (ho); clear HO_9 HO_294000 HO_294001 HO_317000 BK293 BK294 BK316 HL317_2 HO335 HL336_2 BK337 HB HO_317001; revert n0_ n1_ n2_ n3_ n4_ n5_ n6_ n7_ n8_ n9_ n10_ n11_ n12_; intro HO_9 HO_294000 HO_294001 HO_317000 BK293 BK294 BK316 HL317_2 HO335 HL336_2 BK337 HB HO341; clear ho hb hg hat; obtain ⟨Ao150, co150, eo150⟩ := Kd.N_slice HO341.out; subst eo150; have hcz151_0 := bc0_ BK316.out; have hcz151_1 := bc1_ BK316.out; have hfz151_0 := blk_frozen BK316.out 0; have hfz151_1 := blk_frozen BK316.out 1))
          go_roundg k4
          case measure => have := HK1.out; have := HK2.out; have := HK3.out; have := HK4.out; omega
          case rel => exact ⟨(y333), (wrap64 (x18_4 + 1)), (y339), (.slice Ao150 y339.length co150), sd_, H', ⟨by have := HK1.out; have := HK2.out; have := HK3.out; have := HK4.out; omega⟩, ⟨by (with_reducible repeat (first | apply Kd.R_alloc | apply Kd.R_drewN | apply Kd.R_drew)); exact Kd.R_mono (Kd.R_far (p := ⟨gb316, 1, none⟩) (Kd.R_types HO_9.out BK316.out (by decide)) (fun _ hk => hk.2) (.slice Ao150 y339.length co150)) wm_⟩, ⟨by (with_reducible repeat (first | apply Kd.R_alloc | apply Kd.R_drewN | apply Kd.R_drew)); exact Kd.R_mono (Kd.R_far (p := ⟨gb316, 1, none⟩) (Kd.R_types HO335.out BK316.out (by decide)) (fun _ hk => hk.2) (.slice Ao150 y339.length co150)) wm_⟩, ⟨by (with_reducible repeat (first | apply Kd.V_alloc | apply Kd.V_drewN | apply Kd.V_drew)); exact Kd.V_mono (Kd.V_far (p := ⟨gb316, 1, none⟩) (Kd.V_mono HO_294000.out (fun k_ hk => (⟨hk, hk.1.2.2.2.2.2.1⟩ : _ ∧ k_ ≠ gb316))) (fun _ hk => hk.2) (.slice Ao150 y339.length co150)) wm_⟩, ⟨by (with_reducible repeat (first | apply Kd.V_alloc | apply Kd.V_drewN | apply Kd.V_drew)); exact Kd.V_mono (Kd.V_far (p := ⟨gb316, 1, none⟩) (Kd.V_mono HO_294001.out (fun k_ hk => (⟨hk, hk.1.2.2.2.2.2.1⟩ : _ ∧ k_ ≠ gb316))) (fun _ hk => hk.2) (.slice Ao150 y339.length co150)) wm_⟩, ⟨by (with_reducible repeat (first | apply Kd.V_alloc | apply Kd.V_drewN | apply Kd.V_drew)); exact Kd.V_mono (Kd.V_far (p := ⟨gb316, 1, none⟩) (Kd.V_mono HO_317000.out (fun k_ hk => (⟨hk, hk.1.2.2.2.2.2.1⟩ : _ ∧ k_ ≠ gb316))) (fun _ hk => hk.2) (.slice Ao150 y339.length co150)) wm_⟩, ⟨by (with_reducible repeat (first | apply Kd.N_alloc | apply Kd.N_drewN | apply Kd.N_drew)); exact Kd.N_mono (Kd.N_far (p := ⟨gb316, 1, none⟩) (Kd.N_mono HO341.out (fun k_ hk => (⟨hk, hk.2.2.2.2.2.1⟩ : _ ∧ k_ ≠ gb316))) (fun _ hk => hk.2) (.slice Ao150 y339.length co150)) wm_⟩, ⟨by (with_reducible repeat (first | refine blk_drewN ?_ _ | refine blk_drew ?_ | refine blk_alloc ?_ _)); refine blk_far ?_ NB293_316.out _; (with_reducible repeat (first | refine blk_drewN ?_ _ | refine blk_drew ?_ | refine blk_alloc ?_ _)); exact BK293.out⟩, ⟨by (with_reducible repeat (first | refine blk_drewN ?_ _ | refine blk_drew ?_ | refine blk_alloc ?_ _)); refine blk_far ?_ NB294_316.out _; (with_reducible repeat (first | refine blk_drewN ?_ _ | refine blk_drew ?_ | refine blk_alloc ?_ _)); exact BK294.out⟩, ⟨by (with_reducible repeat (first | refine blk_drewN ?_ _ | refine blk_drew ?_ | refine blk_alloc ?_ _)); refine blk_put (cs := #[.slice A0_0 l0_0.length c0_0, u317001]) ?_ 1 _ rfl; (with_reducible repeat (first | refine blk_drewN ?_ _ | refine blk_drew ?_ | refine blk_alloc ?_ _)); exact BK316.out⟩, ⟨bs4_ HB GE293 GE294 GE316 GE337⟩⟩
       rw [if_pos c62] at H
       have c62b0 : decide (x15_3 < (l2.length : Int)) = true := decide_eq_true c62
       clear c62
       by_cases c63 : 0 ≤ x15_3
       rotate_left
       ·rw [if_neg c63] at H
        exact absurd H (by simp)
       rw [if_pos c63] at H
       have c63b0 : decide (0 ≤ x15_3) = true := decide_eq_true c63
       clear c63
       replace H := Option.bind_eq_some_iff.mp H
       obtain ⟨t313, A640, H⟩ := H
       replace H : (if t313 < 0 then (some (([] : List (S84)), ([] : List (S46)), 1)) else (if x15_3 > 0 then (if 0 ≤ (wrap64 (x15_3 - 1)) then (if (wrap64 (x15_3 - 1)) < (l2.length : Int) then (if (rd l2 x15_3) ≤ (rd l2 (wrap64 (x15_3 - 1))) then (some (([] : List (S84)), ([] : List (S46)), 1)) else (cohousingref26_Next.l2 k3 l2 x9_2 (wrap64 (x15_3 + 1)) l0_0 l0_1)) else (none)) else (none)) else (cohousingref26_Next.l2 k3 l2 x9_2 (wrap64 (x15_3 + 1)) l0_0 l0_1))) = some (r1, r2, r3) := H
       have A64 := mk_ A640
       clear A640
       by_cases c65 : t313 < 0
       ·rw [if_pos c65] at H
        have c65b0 : decide (t313 < 0) = true := decide_eq_true c65
        clear c65
        simp only [Option.some.injEq, Prod.mk.injEq] at H
        obtain ⟨rfl, rfl, rfl⟩ := H
        try go_wp2
        have n0_ := mk_ (Kd.R_drew HO_9.out)
        have n1_ := mk_ (Kd.V_drew HO_294000.out)
        have n2_ := mk_ (Kd.V_drew HO_294001.out)
        have n3_ := mk_ (blk_drew BK293.out)
        have n4_ := mk_ (blk_drew BK294.out)
        have n5_ := mk_ (below_drew1 HB.out)
        clear HO_9
        clear HO_294000
        clear HO_294001
        clear BK293
        clear BK294
        clear HB
        have HO_9 := n0_
        have HO_294000 := n1_
        have HO_294001 := n2_
        have BK293 := n3_
        have BK294 := n4_
        have HB := n5_
        clear n0_ n1_ n2_ n3_ n4_ n5_
        have p312 : 0 ≤ (x15_3 : Int) := od_
        have q312 : x15_3 < (l2.length : Int) := od_
        obtain ⟨ad312, e312, hx312_0⟩ := Kd.at_int HR2.out x15_3 p312 q312
        have hw312_0 := hx312_0
        cases e312
        replace hx312_0 := cb_ HB hx312_0
        replace p312 := eq_true p312
        replace q312 := eq_true q312
        refine start_ (n := 23) (S := fun w' => w'.cell? ⟨gb293, 0, none⟩ = some (.slice A0_0 l0_0.length c0_0) ∧ w'.cell? ⟨gb293, 1, none⟩ = some (.slice A0_1 l0_1.length c0_1) ∧ w'.cell? (ad312.add (x15_3).toNat) = some (.int .i64 (rd l2 x15_3))) (ds := []) #[n_, n_, n_, n_, n_, n_, n_, n_, n_, n_, n_, n_, n_, n_, n_, n_, n_, n_, n_, n_, n_, n_, n_] (by kernel_rfl) rfl rfl ⟨(blk_cell BK293.out 0).trans rfl, (blk_cell BK293.out 1).trans rfl, (cb_ HB hw312_0)⟩ (fun hHeld => ?_); refine with_tabW cohousingref26_Next.tab24 cohousingref26_Next.bits24 (fun HT_ HW_ => ?_)
        generalize wr.drew = w66 at HO_9 HO_294000 HO_294001 BK293 BK294 HB hx312_0 hHeld ⊢
        refine pu_ 1 94 (w_ 23 2) rfl HT_ ?_
        refine pu_ 2 95 (w_ 23 6) rfl HT_ ?_
        refine pu_ 3 96 (w_ 23 14) rfl HT_ ?_
        refine ta_ 0 93 (w_ 23 15) rfl HT_ HW_ hHeld (by rintro w' ⟨s0, s1, s2⟩; go_simp; with_reducible rfl) ?_
        refine ta_ 4 97 (w_ 23 31) rfl HT_ HW_ hHeld (by rintro w' ⟨s0, s1, s2⟩; go_simp; with_reducible rfl) ?_
        refine one_ (i := 5) (N := some 98) (w_ 23 63) rfl rfl (one_of HT_.out (by kernel_rfl)) (by decide) (fun K hK => ?_)
        refine goes_ Try.func27 (by kernel_rfl) rfl #[.agg #[.slice A0_0 l0_0.length c0_0, .slice A0_1 l0_1.length c0_1], .int .i64 (rd l2 x15_3)] (by rfl) rfl rfl (by (try simp only [List.map_toArray, List.map_cons, List.map_nil]); first | done | rfl | (simp only [List.length_drop, List.length_take]; rfl)) ?_
        with_reducible refine (cohousingref26_Party.calls k3 _ _ l0_0 _ _ l0_1 (rd l2 x15_3) t313 _ ?side1 ?side2 ?side3 ?side4 A64.out).mono ?_
        (case side1 => exact cc_ ((Kd.V_reads' HO_294000.out).2.2))
        (case side2 => exact (Kd.V_reads' HO_294000.out).2.1)
        (case side3 => exact cc_ ((Kd.V_reads' HO_294001.out).2.2))
        (case side4 => exact (Kd.V_reads' HO_294001.out).2.1)
        rintro e w67 ⟨rfl, hb⟩
        refine ⟨_, rfl, ?_⟩
        have n0_ := mk_ (Kd.R_below (rr_ HO_9) hb)
        have n1_ := mk_ (Kd.V_below (vv_ HO_294000) hb)
        have n2_ := mk_ (Kd.V_below (vv_ HO_294001) hb)
        have n3_ := mk_ (blk_below (kk_ BK293) hb)
        have n4_ := mk_ (blk_below (kk_ BK294) hb)
        have n5_ := mk_ (below_step (bs2_ HB GE293 GE294) hb)
        clear HO_9
        clear HO_294000
        clear HO_294001
        clear BK293
        clear BK294
        clear HB
        have HO_9 := n0_
        have HO_294000 := n1_
        have HO_294001 := n2_
        have BK293 := n3_
        have BK294 := n4_
        have HB := n5_
        clear n0_ n1_ n2_ n3_ n4_ n5_
        (try clear hb)
        (try clear hb2)
        (try clear hk)
        (try clear hi)
        refine hK.out _ _ ⟨(blk_cell BK293.out 0).trans rfl, (blk_cell BK293.out 1).trans rfl, (cb_ HB hw312_0)⟩ (fun hHeld => ?_)
        clear hK K
        refine norm_ (a' := ?_) ?_ ?_
        rotate_left
        ·show Act.put _ (some 98) _ = _
         simp only [Act.put, sI_, s0_, sS_, i64_w, i32_w]
         rfl
        refine pu_ 6 99 (w_ 23 127) rfl HT_ ?_
        refine pu_ 7 100 (w_ 23 255) rfl HT_ ?_
        refine pn_ 8 101 (w_ 23 511) rfl HT_ ?_
        refine pn_ 9 102 (w_ 23 1023) rfl HT_ ?_
        refine pn_ 10 103 (w_ 23 2047) rfl HT_ ?_
        refine pn_ 11 104 (w_ 23 4095) rfl HT_ ?_
        refine pn_ 12 105 (w_ 23 8191) rfl HT_ ?_
        refine pn_ 13 106 (w_ 23 16383) rfl HT_ ?_
        refine pn_ 14 107 (w_ 23 32767) rfl HT_ ?_
        refine pn_ 15 108 (w_ 23 65535) rfl HT_ ?_
        refine pn_ 16 109 (w_ 23 131071) rfl HT_ ?_
        refine pn_ 17 110 (w_ 23 262143) rfl HT_ ?_
        refine pn_ 18 111 (w_ 23 524287) rfl HT_ ?_
        refine pn_ 19 112 (w_ 23 1048575) rfl HT_ ?_
        refine pn_ 20 113 (w_ 23 2097151) rfl HT_ ?_
        refine pn_ 21 114 (w_ 23 4194303) rfl HT_ ?_
        refine pu_ 22 115 (w_ 23 8388607) rfl HT_ ?_
        refine done_ (done_of HT_.out (by kernel_rfl)) ?_
        have hnb68 := NB294_293.out
        have hnc68 := NB293_294.out
        have hcz69_0 := bc0_ BK294.out
        have hcz69_1 := bc1_ BK294.out
        have hfz69_0 := blk_frozen BK294.out 0
        have hfz69_1 := blk_frozen BK294.out 1
        try go_wp2
        refine bodyPost_ret (results_ct rfl _ _ gb294 25 #[.slice none 0 0, .slice none 0 0] (0, 0) _ rfl (by (with_reducible repeat (first | refine blk_drewN ?_ _ | refine blk_drew ?_ | refine blk_alloc ?_ _)); refine blk_put (cs := #[.slice none 0 0, .slice none 0 0]) ?_ 1 _ rfl; (with_reducible repeat (first | refine blk_drewN ?_ _ | refine blk_drew ?_ | refine blk_alloc ?_ _)); refine blk_put (cs := #[.slice none 0 0, .slice none 0 0]) ?_ 0 _ rfl; (with_reducible repeat (first | refine blk_drewN ?_ _ | refine blk_drew ?_ | refine blk_alloc ?_ _)); exact BK294.out) Try.underlying25 rfl (by kernel_rfl)) rfl ?_
        exact ⟨_, _, ew_, Kd.V_mono (Kd.R_V (by first | exact (Kd.R_nil _ _ _ w.heap.size (fun k_ => w.heap.size ≤ k_)) | exact Kd.R_nil _ _ _ _ _ | exact Kd.N_nil _ _ _ _ _ | exact Kd.V_nil _ _ _ _ _ | exact Kd.Q_nil _ _ _ _ _ | exact Kd.S_nil _ _ _ _ _)) (fun k_ hk => by first | exact ⟨.inr hk, by simp [Value.ownBlock]⟩ | exact ⟨(.inr (hk.1)), hk.2⟩ | exact (.inr (hk))), by first | exact Kd.S_nil _ _ _ _ _ | exact Kd.N_nil _ _ _ _ _ | exact Kd.V_nil _ _ _ _ _ | exact Kd.Q_nil _ _ _ _ _ | exact Kd.R_nil _ _ _ _ _, bs2_ HB GE293 GE294⟩
       rw [if_neg c65] at H
       have c65b0 : decide (t313 < 0) = false := decide_eq_false c65
       clear c65
       by_cases c70 : x15_3 > 0
       rotate_left
       ·rw [if_neg c70] at H
        have c70b0 : decide (0 < x15_3) = false := decide_eq_false c70
        clear c70
        have H' := mk_ H
        clear H
        try go_wp2
        have n0_ := mk_ (Kd.R_drew HO_9.out)
        have n1_ := mk_ (Kd.V_drew HO_294000.out)
        have n2_ := mk_ (Kd.V_drew HO_294001.out)
        have n3_ := mk_ (blk_drew BK293.out)
        have n4_ := mk_ (blk_drew BK294.out)
        have n5_ := mk_ (below_drew1 HB.out)
        clear HO_9
        clear HO_294000
        clear HO_294001
        clear BK293
        clear BK294
        clear HB
        have HO_9 := n0_
        have HO_294000 := n1_
        have HO_294001 := n2_
        have BK293 := n3_
        have BK294 := n4_
        have HB := n5_
        clear n0_ n1_ n2_ n3_ n4_ n5_
        have p312 : 0 ≤ (x15_3 : Int) := od_
        have q312 : x15_3 < (l2.length : Int) := od_
        obtain ⟨ad312, e312, hx312_0⟩ := Kd.at_int HR2.out x15_3 p312 q312
        have hw312_0 := hx312_0
        cases e312
        replace hx312_0 := cb_ HB hx312_0
        replace p312 := eq_true p312
        replace q312 := eq_true q312
        refine start_ (n := 23) (S := fun w' => w'.cell? ⟨gb293, 0, none⟩ = some (.slice A0_0 l0_0.length c0_0) ∧ w'.cell? ⟨gb293, 1, none⟩ = some (.slice A0_1 l0_1.length c0_1) ∧ w'.cell? (ad312.add (x15_3).toNat) = some (.int .i64 (rd l2 x15_3))) (ds := []) #[n_, n_, n_, n_, n_, n_, n_, n_, n_, n_, n_, n_, n_, n_, n_, n_, n_, n_, n_, n_, n_, n_, n_] (by kernel_rfl) rfl rfl ⟨(blk_cell BK293.out 0).trans rfl, (blk_cell BK293.out 1).trans rfl, (cb_ HB hw312_0)⟩ (fun hHeld => ?_); refine with_tabW cohousingref26_Next.tab24 cohousingref26_Next.bits24 (fun HT_ HW_ => ?_)
        generalize wr.drew = w81 at HO_9 HO_294000 HO_294001 BK293 BK294 HB hx312_0 hHeld ⊢
        refine pu_ 1 94 (w_ 23 2) rfl HT_ ?_
        refine pu_ 2 95 (w_ 23 6) rfl HT_ ?_
        refine pu_ 3 96 (w_ 23 14) rfl HT_ ?_
        refine ta_ 0 93 (w_ 23 15) rfl HT_ HW_ hHeld (by rintro w' ⟨s0, s1, s2⟩; go_simp; with_reducible rfl) ?_
        refine ta_ 4 97 (w_ 23 31) rfl HT_ HW_ hHeld (by rintro w' ⟨s0, s1, s2⟩; go_simp; with_reducible rfl) ?_
        refine one_ (i := 5) (N := some 98) (w_ 23 63) rfl rfl (one_of HT_.out (by kernel_rfl)) (by decide) (fun K hK => ?_)
        refine goes_ Try.func27 (by kernel_rfl) rfl #[.agg #[.slice A0_0 l0_0.length c0_0, .slice A0_1 l0_1.length c0_1], .int .i64 (rd l2 x15_3)] (by rfl) rfl rfl (by (try simp only [List.map_toArray, List.map_cons, List.map_nil]); first | done | rfl | (simp only [List.length_drop, List.length_take]; rfl)) ?_
        with_reducible refine (cohousingref26_Party.calls k3 _ _ l0_0 _ _ l0_1 (rd l2 x15_3) t313 _ ?side1 ?side2 ?side3 ?side4 A64.out).mono ?_
        (case side1 => exact cc_ ((Kd.V_reads' HO_294000.out).2.2))
        (case side2 => exact (Kd.V_reads' HO_294000.out).2.1)
        (case side3 => exact cc_ ((Kd.V_reads' HO_294001.out).2.2))
        (case side4 => exact (Kd.V_reads' HO_294001.out).2.1)
        rintro e w82 ⟨rfl, hb⟩
        refine ⟨_, rfl, ?_⟩
        have n0_ := mk_ (Kd.R_below (rr_ HO_9) hb)
        have n1_ := mk_ (Kd.V_below (vv_ HO_294000) hb)
        have n2_ := mk_ (Kd.V_below (vv_ HO_294001) hb)
        have n3_ := mk_ (blk_below (kk_ BK293) hb)
        have n4_ := mk_ (blk_below (kk_ BK294) hb)
        have n5_ := mk_ (below_step (bs2_ HB GE293 GE294) hb)
        clear HO_9
        clear HO_294000
        clear HO_294001
        clear BK293
        clear BK294
        clear HB
        have HO_9 := n0_
        have HO_294000 := n1_
        have HO_294001 := n2_
        have BK293 := n3_
        have BK294 := n4_
        have HB := n5_
        clear n0_ n1_ n2_ n3_ n4_ n5_
        (try clear hb)
        (try clear hb2)
        (try clear hk)
        (try clear hi)
        refine hK.out _ _ ⟨(blk_cell BK293.out 0).trans rfl, (blk_cell BK293.out 1).trans rfl, (cb_ HB hw312_0)⟩ (fun hHeld => ?_)
        clear hK K
        refine norm_ (a' := ?_) ?_ ?_
        rotate_left
        ·show Act.put _ (some 98) _ = _
         simp only [Act.put, sI_, s0_, sS_, i64_w, i32_w]
         rfl
        refine pu_ 6 99 (w_ 23 127) rfl HT_ ?_
        refine pu_ 7 100 (w_ 23 255) rfl HT_ ?_
        refine pu_ 8 101 (w_ 23 511) rfl HT_ ?_
        refine pu_ 9 102 (w_ 23 1023) rfl HT_ ?_
        refine pu_ 10 103 (w_ 23 2047) rfl HT_ ?_
        refine pn_ 11 104 (w_ 23 4095) rfl HT_ ?_
        refine pn_ 12 105 (w_ 23 8191) rfl HT_ ?_
        refine pn_ 13 106 (w_ 23 16383) rfl HT_ ?_
        refine pn_ 14 107 (w_ 23 32767) rfl HT_ ?_
        refine pn_ 15 108 (w_ 23 65535) rfl HT_ ?_
        refine pn_ 16 109 (w_ 23 131071) rfl HT_ ?_
        refine pn_ 17 110 (w_ 23 262143) rfl HT_ ?_
        refine pn_ 18 111 (w_ 23 524287) rfl HT_ ?_
        refine pn_ 19 112 (w_ 23 1048575) rfl HT_ ?_
        refine pn_ 20 113 (w_ 23 2097151) rfl HT_ ?_
        refine pu_ 21 114 (w_ 23 4194303) rfl HT_ ?_
        refine pu_ 22 115 (w_ 23 8388607) rfl HT_ ?_
        refine done_ (done_of HT_.out (by kernel_rfl)) ?_
        try go_wp2
        go_roundg k3
        case measure => have := HK1.out; have := HK2.out; have := HK3.out; omega
        case rel => exact ⟨(wrap64 (x15_3 + 1)), sd_, H', ⟨by have := HK1.out; have := HK2.out; have := HK3.out; omega⟩, ⟨rr_ HO_9⟩, ⟨vv_ HO_294000⟩, ⟨vv_ HO_294001⟩, ⟨kk_ BK293⟩, ⟨kk_ BK294⟩, ⟨bs2_ HB GE293 GE294⟩⟩
       rw [if_pos c70] at H
       have c70b0 : decide (0 < x15_3) = true := decide_eq_true c70
       clear c70
       obtain ⟨ji71, hji71⟩ : ∃ j_ : Int, (wrap64 (x15_3 - 1)) = j_ := ⟨_, rfl⟩
       replace H : (if 0 ≤ (ji71) then (if (ji71) < (l2.length : Int) then (if (rd l2 x15_3) ≤ (rd l2 (ji71)) then (some (([] : List (S84)), ([] : List (S46)), 1)) else (cohousingref26_Next.l2 k3 l2 x9_2 (wrap64 (x15_3 + 1)) l0_0 l0_1)) else (none)) else (none)) = some (r1, r2, r3) := by first | (rw [hji71] at H; exact H) | (simp only [hji71] at H ⊢; exact H)
       (try rw [hji71] at A64)
       have hji71w : (IntKind.i64.wrap (x15_3 - 1)) = ji71 := (i64_w _).trans hji71
       by_cases c72 : 0 ≤ (ji71)
       rotate_left
       ·rw [if_neg c72] at H
        exact absurd H (by simp)
       rw [if_pos c72] at H
       have c72b0 : decide (0 ≤ (ji71)) = true := decide_eq_true c72
       clear c72
       by_cases c73 : (ji71) < (l2.length : Int)
       rotate_left
       ·rw [if_neg c73] at H
        exact absurd H (by simp)
       rw [if_pos c73] at H
       have c73b0 : decide ((ji71) < (l2.length : Int)) = true := decide_eq_true c73
       clear c73
       by_cases c74 : (rd l2 x15_3) ≤ (rd l2 (ji71))
       rotate_left
       ·rw [if_neg c74] at H
        have c74b0 : decide ((rd l2 x15_3) ≤ (rd l2 (ji71))) = false := decide_eq_false c74
        clear c74
        have H' := mk_ H
        clear H
        try go_wp2
        have n0_ := mk_ (Kd.R_drew HO_9.out)
        have n1_ := mk_ (Kd.V_drew HO_294000.out)
        have n2_ := mk_ (Kd.V_drew HO_294001.out)
        have n3_ := mk_ (blk_drew BK293.out)
        have n4_ := mk_ (blk_drew BK294.out)
        have n5_ := mk_ (below_drew1 HB.out)
        clear HO_9
        clear HO_294000
        clear HO_294001
        clear BK293
        clear BK294
        clear HB
        have HO_9 := n0_
        have HO_294000 := n1_
        have HO_294001 := n2_
        have BK293 := n3_
        have BK294 := n4_
        have HB := n5_
        clear n0_ n1_ n2_ n3_ n4_ n5_
        have p312 : 0 ≤ (x15_3 : Int) := od_
        have q312 : x15_3 < (l2.length : Int) := od_
        obtain ⟨ad312, e312, hx312_0⟩ := Kd.at_int HR2.out x15_3 p312 q312
        have hw312_0 := hx312_0
        cases e312
        replace hx312_0 := cb_ HB hx312_0
        replace p312 := eq_true p312
        replace q312 := eq_true q312
        have p314 : 0 ≤ (x15_3 : Int) := od_
        have q314 : x15_3 < (l2.length : Int) := od_
        obtain ⟨ad314, e314, hx314_0⟩ := Kd.at_int HR2.out x15_3 p314 q314
        have hw314_0 := hx314_0
        obtain rfl : ad312 = ad314 := (by injection e314)
        replace hx314_0 := cb_ HB hx314_0
        replace p314 := eq_true p314
        replace q314 := eq_true q314
        have p315 : 0 ≤ ((ji71) : Int) := od_
        have q315 : (ji71) < (l2.length : Int) := od_
        obtain ⟨ad315, e315, hx315_0⟩ := Kd.at_int HR2.out (ji71) p315 q315
        have hw315_0 := hx315_0
        obtain rfl : ad312 = ad315 := (by injection e315)
        replace hx315_0 := cb_ HB hx315_0
        replace p315 := eq_true p315
        replace q315 := eq_true q315
        refine start_ (n := 23) (S := fun w' => w'.cell? ⟨gb293, 0, none⟩ = some (.slice A0_0 l0_0.length c0_0) ∧ w'.cell? ⟨gb293, 1, none⟩ = some (.slice A0_1 l0_1.length c0_1) ∧ w'.cell? (ad312.add (x15_3).toNat) = some (.int .i64 (rd l2 x15_3)) ∧ w'.cell? (ad312.add (x15_3).toNat) = some (.int .i64 (rd l2 x15_3)) ∧ w'.cell? (ad312.add ((ji71)).toNat) = some (.int .i64 (rd l2 (ji71)))) (ds := []) #[n_, n_, n_, n_, n_, n_, n_, n_, n_, n_, n_, n_, n_, n_, n_, n_, n_, n_, n_, n_, n_, n_, n_] (by kernel_rfl) rfl rfl ⟨(blk_cell BK293.out 0).trans rfl, (blk_cell BK293.out 1).trans rfl, (cb_ HB hw312_0), (cb_ HB hw314_0), (cb_ HB hw315_0)⟩ (fun hHeld => ?_); refine with_tabW cohousingref26_Next.tab24 cohousingref26_Next.bits24 (fun HT_ HW_ => ?_)
        generalize wr.drew = w79 at HO_9 HO_294000 HO_294001 BK293 BK294 HB hx312_0 hx314_0 hx315_0 hHeld ⊢
        refine pu_ 1 94 (w_ 23 2) rfl HT_ ?_
        refine pu_ 2 95 (w_ 23 6) rfl HT_ ?_
        refine pu_ 3 96 (w_ 23 14) rfl HT_ ?_
        refine ta_ 0 93 (w_ 23 15) rfl HT_ HW_ hHeld (by rintro w' ⟨s0, s1, s2, s3, s4⟩; go_simp; with_reducible rfl) ?_
        refine ta_ 4 97 (w_ 23 31) rfl HT_ HW_ hHeld (by rintro w' ⟨s0, s1, s2, s3, s4⟩; go_simp; with_reducible rfl) ?_
        refine one_ (i := 5) (N := some 98) (w_ 23 63) rfl rfl (one_of HT_.out (by kernel_rfl)) (by decide) (fun K hK => ?_)
        refine goes_ Try.func27 (by kernel_rfl) rfl #[.agg #[.slice A0_0 l0_0.length c0_0, .slice A0_1 l0_1.length c0_1], .int .i64 (rd l2 x15_3)] (by rfl) rfl rfl (by (try simp only [List.map_toArray, List.map_cons, List.map_nil]); first | done | rfl | (simp only [List.length_drop, List.length_take]; rfl)) ?_
        with_reducible refine (cohousingref26_Party.calls k3 _ _ l0_0 _ _ l0_1 (rd l2 x15_3) t313 _ ?side1 ?side2 ?side3 ?side4 A64.out).mono ?_
        (case side1 => exact cc_ ((Kd.V_reads' HO_294000.out).2.2))
        (case side2 => exact (Kd.V_reads' HO_294000.out).2.1)
        (case side3 => exact cc_ ((Kd.V_reads' HO_294001.out).2.2))
        (case side4 => exact (Kd.V_reads' HO_294001.out).2.1)
        rintro e w80 ⟨rfl, hb⟩
        refine ⟨_, rfl, ?_⟩
        have n0_ := mk_ (Kd.R_below (rr_ HO_9) hb)
        have n1_ := mk_ (Kd.V_below (vv_ HO_294000) hb)
        have n2_ := mk_ (Kd.V_below (vv_ HO_294001) hb)
        have n3_ := mk_ (blk_below (kk_ BK293) hb)
        have n4_ := mk_ (blk_below (kk_ BK294) hb)
        have n5_ := mk_ (below_step (bs2_ HB GE293 GE294) hb)
        clear HO_9
        clear HO_294000
        clear HO_294001
        clear BK293
        clear BK294
        clear HB
        have HO_9 := n0_
        have HO_294000 := n1_
        have HO_294001 := n2_
        have BK293 := n3_
        have BK294 := n4_
        have HB := n5_
        clear n0_ n1_ n2_ n3_ n4_ n5_
        (try clear hb)
        (try clear hb2)
        (try clear hk)
        (try clear hi)
        refine hK.out _ _ ⟨(blk_cell BK293.out 0).trans rfl, (blk_cell BK293.out 1).trans rfl, (cb_ HB hw312_0), (cb_ HB hw314_0), (cb_ HB hw315_0)⟩ (fun hHeld => ?_)
        clear hK K
        refine norm_ (a' := ?_) ?_ ?_
        rotate_left
        ·show Act.put _ (some 98) _ = _
         simp only [Act.put, sI_, s0_, sS_, i64_w, i32_w]
         rfl
        refine pu_ 6 99 (w_ 23 127) rfl HT_ ?_
        refine pu_ 7 100 (w_ 23 255) rfl HT_ ?_
        refine pu_ 8 101 (w_ 23 511) rfl HT_ ?_
        refine pu_ 9 102 (w_ 23 1023) rfl HT_ ?_
        refine pu_ 10 103 (w_ 23 2047) rfl HT_ ?_
        refine pu_ 11 104 (w_ 23 4095) rfl HT_ ?_
        refine pu_ 12 105 (w_ 23 8191) rfl HT_ ?_
        refine pu_ 13 106 (w_ 23 16383) rfl HT_ ?_
        refine pu_ 15 108 (w_ 23 49151) rfl HT_ ?_
        refine pu_ 16 109 (w_ 23 114687) rfl HT_ ?_
        refine pu_ 17 110 (w_ 23 245759) rfl HT_ ?_
        refine pu_ 18 111 (w_ 23 507903) rfl HT_ ?_
        refine ta_ 14 107 (w_ 23 524287) rfl HT_ HW_ hHeld (by rintro w' ⟨s0, s1, s2, s3, s4⟩; go_simp; with_reducible rfl) ?_
        refine ta_ 19 112 (w_ 23 1048575) rfl HT_ HW_ hHeld (by rintro w' ⟨s0, s1, s2, s3, s4⟩; go_simp; with_reducible rfl) ?_
        refine pu_ 20 113 (w_ 23 2097151) rfl HT_ ?_
        refine pu_ 21 114 (w_ 23 4194303) rfl HT_ ?_
        refine pu_ 22 115 (w_ 23 8388607) rfl HT_ ?_
        refine done_ (done_of HT_.out (by kernel_rfl)) ?_
        try go_wp2
        go_roundg k3
        case measure => have := HK1.out; have := HK2.out; have := HK3.out; omega
        case rel => exact ⟨(wrap64 (x15_3 + 1)), sd_, H', ⟨by have := HK1.out; have := HK2.out; have := HK3.out; omega⟩, ⟨rr_ HO_9⟩, ⟨vv_ HO_294000⟩, ⟨vv_ HO_294001⟩, ⟨kk_ BK293⟩, ⟨kk_ BK294⟩, ⟨bs2_ HB GE293 GE294⟩⟩
       rw [if_pos c74] at H
       have c74b0 : decide ((rd l2 x15_3) ≤ (rd l2 (ji71))) = true := decide_eq_true c74
       clear c74
       simp only [Option.some.injEq, Prod.mk.injEq] at H
       obtain ⟨rfl, rfl, rfl⟩ := H
       try go_wp2
       have n0_ := mk_ (Kd.R_drew HO_9.out)
       have n1_ := mk_ (Kd.V_drew HO_294000.out)
       have n2_ := mk_ (Kd.V_drew HO_294001.out)
       have n3_ := mk_ (blk_drew BK293.out)
       have n4_ := mk_ (blk_drew BK294.out)
       have n5_ := mk_ (below_drew1 HB.out)
       clear HO_9
       clear HO_294000
       clear HO_294001
       clear BK293
       clear BK294
       clear HB
       have HO_9 := n0_
       have HO_294000 := n1_
       have HO_294001 := n2_
       have BK293 := n3_
       have BK294 := n4_
       have HB := n5_
       clear n0_ n1_ n2_ n3_ n4_ n5_
       have p312 : 0 ≤ (x15_3 : Int) := od_
       have q312 : x15_3 < (l2.length : Int) := od_
       obtain ⟨ad312, e312, hx312_0⟩ := Kd.at_int HR2.out x15_3 p312 q312
       have hw312_0 := hx312_0
       cases e312
       replace hx312_0 := cb_ HB hx312_0
       replace p312 := eq_true p312
       replace q312 := eq_true q312
       have p314 : 0 ≤ (x15_3 : Int) := od_
       have q314 : x15_3 < (l2.length : Int) := od_
       obtain ⟨ad314, e314, hx314_0⟩ := Kd.at_int HR2.out x15_3 p314 q314
       have hw314_0 := hx314_0
       obtain rfl : ad312 = ad314 := (by injection e314)
       replace hx314_0 := cb_ HB hx314_0
       replace p314 := eq_true p314
       replace q314 := eq_true q314
       have p315 : 0 ≤ ((ji71) : Int) := od_
       have q315 : (ji71) < (l2.length : Int) := od_
       obtain ⟨ad315, e315, hx315_0⟩ := Kd.at_int HR2.out (ji71) p315 q315
       have hw315_0 := hx315_0
       obtain rfl : ad312 = ad315 := (by injection e315)
       replace hx315_0 := cb_ HB hx315_0
       replace p315 := eq_true p315
       replace q315 := eq_true q315
       refine start_ (n := 23) (S := fun w' => w'.cell? ⟨gb293, 0, none⟩ = some (.slice A0_0 l0_0.length c0_0) ∧ w'.cell? ⟨gb293, 1, none⟩ = some (.slice A0_1 l0_1.length c0_1) ∧ w'.cell? (ad312.add (x15_3).toNat) = some (.int .i64 (rd l2 x15_3)) ∧ w'.cell? (ad312.add (x15_3).toNat) = some (.int .i64 (rd l2 x15_3)) ∧ w'.cell? (ad312.add ((ji71)).toNat) = some (.int .i64 (rd l2 (ji71)))) (ds := []) #[n_, n_, n_, n_, n_, n_, n_, n_, n_, n_, n_, n_, n_, n_, n_, n_, n_, n_, n_, n_, n_, n_, n_] (by kernel_rfl) rfl rfl ⟨(blk_cell BK293.out 0).trans rfl, (blk_cell BK293.out 1).trans rfl, (cb_ HB hw312_0), (cb_ HB hw314_0), (cb_ HB hw315_0)⟩ (fun hHeld => ?_); refine with_tabW cohousingref26_Next.tab24 cohousingref26_Next.bits24 (fun HT_ HW_ => ?_)
       generalize wr.drew = w75 at HO_9 HO_294000 HO_294001 BK293 BK294 HB hx312_0 hx314_0 hx315_0 hHeld ⊢
       refine pu_ 1 94 (w_ 23 2) rfl HT_ ?_
       refine pu_ 2 95 (w_ 23 6) rfl HT_ ?_
       refine pu_ 3 96 (w_ 23 14) rfl HT_ ?_
       refine ta_ 0 93 (w_ 23 15) rfl HT_ HW_ hHeld (by rintro w' ⟨s0, s1, s2, s3, s4⟩; go_simp; with_reducible rfl) ?_
       refine ta_ 4 97 (w_ 23 31) rfl HT_ HW_ hHeld (by rintro w' ⟨s0, s1, s2, s3, s4⟩; go_simp; with_reducible rfl) ?_
       refine one_ (i := 5) (N := some 98) (w_ 23 63) rfl rfl (one_of HT_.out (by kernel_rfl)) (by decide) (fun K hK => ?_)
       refine goes_ Try.func27 (by kernel_rfl) rfl #[.agg #[.slice A0_0 l0_0.length c0_0, .slice A0_1 l0_1.length c0_1], .int .i64 (rd l2 x15_3)] (by rfl) rfl rfl (by (try simp only [List.map_toArray, List.map_cons, List.map_nil]); first | done | rfl | (simp only [List.length_drop, List.length_take]; rfl)) ?_
       with_reducible refine (cohousingref26_Party.calls k3 _ _ l0_0 _ _ l0_1 (rd l2 x15_3) t313 _ ?side1 ?side2 ?side3 ?side4 A64.out).mono ?_
       (case side1 => exact cc_ ((Kd.V_reads' HO_294000.out).2.2))
       (case side2 => exact (Kd.V_reads' HO_294000.out).2.1)
       (case side3 => exact cc_ ((Kd.V_reads' HO_294001.out).2.2))
       (case side4 => exact (Kd.V_reads' HO_294001.out).2.1)
       rintro e w76 ⟨rfl, hb⟩
       refine ⟨_, rfl, ?_⟩
       have n0_ := mk_ (Kd.R_below (rr_ HO_9) hb)
       have n1_ := mk_ (Kd.V_below (vv_ HO_294000) hb)
       have n2_ := mk_ (Kd.V_below (vv_ HO_294001) hb)
       have n3_ := mk_ (blk_below (kk_ BK293) hb)
       have n4_ := mk_ (blk_below (kk_ BK294) hb)
       have n5_ := mk_ (below_step (bs2_ HB GE293 GE294) hb)
       clear HO_9
       clear HO_294000
       clear HO_294001
       clear BK293
       clear BK294
       clear HB
       have HO_9 := n0_
       have HO_294000 := n1_
       have HO_294001 := n2_
       have BK293 := n3_
       have BK294 := n4_
       have HB := n5_
       clear n0_ n1_ n2_ n3_ n4_ n5_
       (try clear hb)
       (try clear hb2)
       (try clear hk)
       (try clear hi)
       refine hK.out _ _ ⟨(blk_cell BK293.out 0).trans rfl, (blk_cell BK293.out 1).trans rfl, (cb_ HB hw312_0), (cb_ HB hw314_0), (cb_ HB hw315_0)⟩ (fun hHeld => ?_)
       clear hK K
       refine norm_ (a' := ?_) ?_ ?_
       rotate_left
       ·show Act.put _ (some 98) _ = _
        simp only [Act.put, sI_, s0_, sS_, i64_w, i32_w]
        rfl
       refine pu_ 6 99 (w_ 23 127) rfl HT_ ?_
       refine pu_ 7 100 (w_ 23 255) rfl HT_ ?_
       refine pu_ 8 101 (w_ 23 511) rfl HT_ ?_
       refine pu_ 9 102 (w_ 23 1023) rfl HT_ ?_
       refine pu_ 10 103 (w_ 23 2047) rfl HT_ ?_
       refine pu_ 11 104 (w_ 23 4095) rfl HT_ ?_
       refine pu_ 12 105 (w_ 23 8191) rfl HT_ ?_
       refine pu_ 13 106 (w_ 23 16383) rfl HT_ ?_
       refine pu_ 15 108 (w_ 23 49151) rfl HT_ ?_
       refine pu_ 16 109 (w_ 23 114687) rfl HT_ ?_
       refine pu_ 17 110 (w_ 23 245759) rfl HT_ ?_
       refine pu_ 18 111 (w_ 23 507903) rfl HT_ ?_
       refine ta_ 14 107 (w_ 23 524287) rfl HT_ HW_ hHeld (by rintro w' ⟨s0, s1, s2, s3, s4⟩; go_simp; with_reducible rfl) ?_
       refine ta_ 19 112 (w_ 23 1048575) rfl HT_ HW_ hHeld (by rintro w' ⟨s0, s1, s2, s3, s4⟩; go_simp; with_reducible rfl) ?_
       refine pu_ 20 113 (w_ 23 2097151) rfl HT_ ?_
       refine pu_ 21 114 (w_ 23 4194303) rfl HT_ ?_
       refine pu_ 22 115 (w_ 23 8388607) rfl HT_ ?_
       refine done_ (done_of HT_.out (by kernel_rfl)) ?_
       have hnb77 := NB294_293.out
       have hnc77 := NB293_294.out
       have hcz78_0 := bc0_ BK294.out
       have hcz78_1 := bc1_ BK294.out
       have hfz78_0 := blk_frozen BK294.out 0
       have hfz78_1 := blk_frozen BK294.out 1
       try go_wp2
       refine bodyPost_ret (results_ct rfl _ _ gb294 25 #[.slice none 0 0, .slice none 0 0] (0, 0) _ rfl (by (with_reducible repeat (first | refine blk_drewN ?_ _ | refine blk_drew ?_ | refine blk_alloc ?_ _)); refine blk_put (cs := #[.slice none 0 0, .slice none 0 0]) ?_ 1 _ rfl; (with_reducible repeat (first | refine blk_drewN ?_ _ | refine blk_drew ?_ | refine blk_alloc ?_ _)); refine blk_put (cs := #[.slice none 0 0, .slice none 0 0]) ?_ 0 _ rfl; (with_reducible repeat (first | refine blk_drewN ?_ _ | refine blk_drew ?_ | refine blk_alloc ?_ _)); exact BK294.out) Try.underlying25 rfl (by kernel_rfl)) rfl ?_
       exact ⟨_, _, by first | rfl | (simp [errW_none, errW_some] <;> rfl) | (simp only [← hji71]; first | rfl | (simp [errW_none, errW_some] <;> rfl)) | (simp [*, errW_none, errW_some] <;> rfl), Kd.V_mono (Kd.R_V (by first | exact (Kd.R_nil _ _ _ w.heap.size (fun k_ => w.heap.size ≤ k_)) | exact Kd.R_nil _ _ _ _ _ | exact Kd.N_nil _ _ _ _ _ | exact Kd.V_nil _ _ _ _ _ | exact Kd.Q_nil _ _ _ _ _ | exact Kd.S_nil _ _ _ _ _)) (fun k_ hk => by first | exact ⟨.inr hk, by simp [Value.ownBlock]⟩ | exact ⟨(.inr (hk.1)), hk.2⟩ | exact (.inr (hk))), by first | exact Kd.S_nil _ _ _ _ _ | exact Kd.N_nil _ _ _ _ _ | exact Kd.V_nil _ _ _ _ _ | exact Kd.Q_nil _ _ _ _ _ | exact Kd.R_nil _ _ _ _ _, bs2_ HB GE293 GE294⟩
end Go.Proofs.Ytocbiggglnpeoaa.M
end
