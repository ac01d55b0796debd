/- Part 5 of the base that the seat's proofs share: words, walks and plain laws. -/
import Derived.ArgAppend
import Derived.Below
import Derived.BigQuiet
import Derived.ChangeOld
import Derived.ChangeSlices
import Derived.Deep.AppendLies
import Derived.Deep.CutBlock
import Derived.Deep.DeepCutAuto
import Derived.Deep.Draws
import Derived.Deep.LoopGhost
import Derived.Deep.OwnRows
import Derived.Deep.QuietTactic
import Derived.Deep.RegionHeld3
import Derived.Deep.Slices
import Derived.KernelRfl
import Derived.Laws.BitsLemmas
import Derived.Laws.BytesArg
import Derived.Laws.IdiomCopy
import Derived.Laws.MakeOwn
import Derived.Laws.OwnMore
import Derived.Laws.Rows
import Derived.Laws.Slices
import Derived.Laws.StructEq
import Derived.Lib.AppendStr
import Derived.Lib.ConvBytes
import Derived.LoopIn
import Derived.LoopNIn
import Derived.Maps.AppendAt
import Derived.Maps.Own
import Derived.OpenShut
import Derived.OrdersHeld
import Derived.OwnWalk
import Derived.OwnWalkIn
import Derived.ProofKit
import Derived.RangeFuncBound
import Derived.RangeFuncCalls
import Derived.RangeFuncLeaves
import Derived.RangeFuncNested
import Derived.RowKit
import Derived.RowKit3
import Derived.ShutString
import Derived.SizedLaws
import Derived.Tactics
import Derived.TacticsInMore
import Derived.Test.YtbgchacafglcpaaProg
import Derived.WalkKit
import Derived.WideLaws
import Derived.Test.YtbgchacafglcpaaCTd
set_option linter.unusedVariables false
set_option linter.unusedSimpArgs false
section
namespace Go.Proofs.Ytbgchacafglcpaa.P
open Go.RowKit Go.Proofs.YtbgchacafglcpaaW.PrintWords Go.Proofs.YtbgchacafglcpaaW.PrintLast Go.Proofs.YtbgchacafglcpaaW.PrintMore Go.Proofs.YtbgchacafglcpaaH Go.Proofs.FlowTree
open Classical
theorem gcd5_l0 : ∀ (b a k : Nat), b < k → cohousingref05_gcd.l0 k (a : Int) (b : Int) = some ((Nat.gcd a b : Nat) : Int) := by
 intro b
 induction b using Nat.strongRecOn with
 | ind b ih =>
  intro a k hk
  obtain ⟨k, rfl⟩ : ∃ m, k = m + 1 := ⟨k - 1, by omega⟩
  simp only [cohousingref05_gcd.l0]
  by_cases h : b = 0
  ·subst h
   rw [if_neg (by omega), Nat.gcd_zero_right]
  ·rw [if_pos (by omega), if_neg (by omega), show Int.tmod (a : Int) (b : Int) = ((a % b : Nat) : Int) from by rw [Int.tmod_eq_emod_of_nonneg (by omega)]; rfl]
   rw [ih (a % b) (Nat.mod_lt _ (by omega)) b k (by have := Nat.mod_lt a (show 0 < b by omega); omega)]
   rw [Nat.gcd_comm a b, Nat.gcd_rec b a, Nat.gcd_comm]
theorem common1_l0 : ∀ (b a k : Nat), b < k → cohousingref01_common.l0 k (a : Int) (b : Int) = some ((Nat.gcd a b : Nat) : Int) := by
 intro b
 induction b using Nat.strongRecOn with
 | ind b ih =>
  intro a k hk
  obtain ⟨k, rfl⟩ : ∃ m, k = m + 1 := ⟨k - 1, by omega⟩
  simp only [cohousingref01_common.l0]
  by_cases h : b = 0
  ·subst h
   rw [if_pos (by rfl), Nat.gcd_zero_right]
  ·rw [if_neg (by omega), show Int.tmod (a : Int) (b : Int) = ((a % b : Nat) : Int) from by rw [Int.tmod_eq_emod_of_nonneg (by omega)]; rfl]
   rw [ih (a % b) (Nat.mod_lt _ (by omega)) b k (by have := Nat.mod_lt a (show 0 < b by omega); omega)]
   rw [Nat.gcd_comm a b, Nat.gcd_rec b a, Nat.gcd_comm]
theorem u64_id {n : Int} (h0 : 0 ≤ n) (h1 : n ≤ 9223372036854775807) : IntKind.u64.wrap n = n := by
 simp only [IntKind.wrap, IntKind.signed, IntKind.bits, Bool.false_and, Bool.false_eq_true, if_false]
 omega
theorem size1_f {n : Int} (h0 : 0 ≤ n) (h1 : n ≤ 1000000000) : cohousingref01_size.f n = some n := by
 unfold cohousingref01_size.f
 rw [if_neg (by omega), u64_id h0 (by omega)]
theorem valid1_f {n d : Nat} (h1 : 1 ≤ d) (h2 : d ≤ 1000000000) (h3 : n ≤ d) (hg : Nat.gcd n d = 1) : Ev (fun k => cohousingref01_Valid.f k (n : Int) (d : Int)) true := by
 unfold cohousingref01_Valid.f
 have e1 : ¬ ((d : Int) < 1) := by omega
 simp only [e1, if_false]
 have hm : Ev (fun k => cohousingref01_Make.f k (n : Int) (d : Int)) ((n : Int), (d : Int), 0) := by
  unfold cohousingref01_Make.f
  have e2 : ¬ ((d : Int) = 0) := by omega
  have hcm : Ev (fun k => cohousingref01_common.f k (n : Int) (d : Int)) 1 := ⟨d + 1, fun k hk => by show cohousingref01_common.l0 k (n : Int) (d : Int) = some 1; rw [common1_l0 d n k (by omega), hg]; rfl⟩
  simp only [e2, if_false, size1_f (show 0 ≤ (n : Int) by omega) (by omega), size1_f (show 0 ≤ (d : Int) by omega) (by omega), Option.bind_some]
  refine Ev.bnd hcm ?_
  have e3 : ¬ ((1 : Int) = 0) := by omega
  have e4 : Int.tdiv (n : Int) 1 = n := Int.tdiv_one _
  have e5 : Int.tdiv (d : Int) 1 = d := Int.tdiv_one _
  have e6 : ¬ ((n : Int) > 1000000000) := by omega
  have e7 : decide ((d : Int) > 1000000000) = false := decide_eq_false (by omega)
  have e8 : decide ((n : Int) < 0) = false := decide_eq_false (by omega)
  have e9 : decide ((d : Int) < 0) = false := decide_eq_false (by omega)
  simp only [e3, if_false, e4, e5, u64_id (show 0 ≤ (n : Int) by omega) (by omega), u64_id (show 0 ≤ (d : Int) by omega) (by omega), e6, e7]
  refine Ev.step ?_
  simp only [cohousingref01_Make.j0, Bool.false_eq_true, if_false, e8, e9, bne_self_eq_false, wrap_id' (show -9223372036854775808 ≤ (n : Int) by omega) (by omega), wrap_id' (show -9223372036854775808 ≤ (d : Int) by omega) (by omega)]
  exact Ev.pure _
 refine Ev.bnd hm ?_
 simp only [if_true, beq_self_eq_true, Bool.and_self]
 exact Ev.pure _
theorem amount2_f {c : Int} (h0 : -1000000000 ≤ c) (h1 : c ≤ 1000000000) : cohousingref02_Amount.f c = some true := by
 unfold cohousingref02_Amount.f
 simp [h0, h1]
theorem scale2_f {c : Int} {n d : Nat} (hc : 0 ≤ c) (hc1 : c ≤ 1000000000) (h1 : 1 ≤ d) (h2 : d ≤ 1000000000) (h3 : n ≤ d) (hg : Nat.gcd n d = 1) : Ev (fun k => cohousingref02_Scale.f k c (n : Int) (d : Int)) ((2 * (c * n) + d) / (2 * d), 0) := by
 have hcn0 : 0 ≤ c * n := Int.mul_nonneg hc (by omega)
 have hcn1 : c * n ≤ 1000000000 * d := Int.le_trans (Int.mul_le_mul_of_nonneg_right hc1 (by omega)) (Int.mul_le_mul_of_nonneg_left (by omega) (by omega))
 unfold cohousingref02_Scale.f
 simp only [amount2_f (show -1000000000 ≤ c by omega) hc1, Option.bind_some]
 refine Ev.bnd (valid1_f h1 h2 h3 hg) ?_
 simp only [if_true, Bool.not_true]
 have w1 : wrap64 (c * n) = c * n := wrap_id' (by omega) (by omega)
 have e1 : ¬ ((d : Int) = 0) := by omega
 have e2 : Int.tmod (c * n) d = (c * n) % d := Int.tmod_eq_emod_of_nonneg hcn0
 have e3 : Int.tdiv (c * n) d = (c * n) / d := Int.tdiv_eq_ediv_of_nonneg hcn0
 have hr0 : 0 ≤ (c * n) % d := Int.emod_nonneg _ (by omega)
 have hr1 : (c * n) % d < d := Int.emod_lt_of_pos _ (by omega)
 have hdm : (d : Int) * ((c * n) / d) + (c * n) % d = c * n := Int.mul_ediv_add_emod _ _
 obtain ⟨q, hq⟩ : ∃ q, q = (c * n) / d := ⟨_, rfl⟩
 obtain ⟨r, hr⟩ : ∃ r, r = (c * n) % d := ⟨_, rfl⟩
 have hq0 : 0 ≤ q := by rw [hq]; exact Int.ediv_nonneg hcn0 (by omega)
 have hq1 : q ≤ 1000000000 := by
  have : q < 1000000001 := by rw [hq]; exact Int.ediv_lt_of_lt_mul (by omega) (by omega)
  omega
 rw [← hq, ← hr] at hdm
 rw [← hr] at hr0 hr1
 have hres : (2 * (c * n) + d) / (2 * d) = if 2 * r ≥ d then q + 1 else q := by
  have e : 2 * (c * n) + d = (2 * r + d) + (2 * d) * q := by
   rw [← hdm, Int.mul_add, Int.mul_assoc]; omega
  rw [e, Int.add_mul_ediv_left _ _ (by omega)]
  split
  ·rw [show (2 * r + d) / (2 * (d : Int)) = 1 from by rw [show 2 * r + d = (2 * r - d) + (2 * (d : Int)) * 1 by omega, Int.add_mul_ediv_left _ _ (by omega), Int.ediv_eq_zero_of_lt (by omega) (by omega)]; rfl]; omega
  ·rw [Int.ediv_eq_zero_of_lt (by omega) (by omega)]; omega
 have hfin : (if 2 * r ≥ (d : Int) then q + 1 else q) ≤ 1000000000 ∧ 0 ≤ (if 2 * r ≥ (d : Int) then q + 1 else q) := by
  have hb0 : 0 ≤ (2 * (c * n) + d) / (2 * d) := Int.ediv_nonneg (by omega) (by omega)
  have hb1 : (2 * (c * n) + d) / (2 * d) < 1000000001 := Int.ediv_lt_of_lt_mul (by omega) (by omega)
  rw [hres] at hb0 hb1
  omega
 rw [hres]
 refine Ev.step ?_
 have w2 : wrap64 q = q := wrap_id' (by omega) (by omega)
 have e4 : ¬ (r < 0) := by omega
 simp only [cohousingref02_Scale.j0, Bool.false_eq_true, if_false, e1, w1, e2, e3, ← hr, ← hq, w2, e4]
 refine Ev.step ?_
 simp only [cohousingref02_Scale.j1, Bool.false_eq_true, if_false]
 refine Ev.step ?_
 have w3 : wrap64 (2 * r) = 2 * r := wrap_id' (by omega) (by omega)
 by_cases c1 : 2 * r ≥ (d : Int)
 ·rw [if_pos c1] at hfin ⊢
  have c2 : r > 0 := by omega
  have w4 : wrap64 (q + 1) = q + 1 := wrap_id' (by omega) (by omega)
  have c3 : decide (2 * r ≥ (d : Int)) = true := decide_eq_true c1
  simp only [cohousingref02_Scale.j2, c2, if_true, w3, c3]
  refine Ev.step ?_
  simp only [cohousingref02_Scale.j3, if_true, w4, amount2_f (show -1000000000 ≤ q + 1 by omega) hfin.1, Option.bind_some]
  exact Ev.pure _
 ·rw [if_neg c1] at hfin ⊢
  have c3 : decide (2 * r ≥ (d : Int)) = false := decide_eq_false c1
  have hj : Ev (fun k => cohousingref02_Scale.j3 k q false) (q, 0) := by
   refine Ev.step ?_
   simp only [cohousingref02_Scale.j3, Bool.false_eq_true, if_false, amount2_f (show -1000000000 ≤ q by omega) hq1, Option.bind_some, if_true]
   exact Ev.pure _
  by_cases c2 : r > 0
  ·simp only [cohousingref02_Scale.j2, c2, if_true, w3, c3]
   exact hj
  ·simp only [cohousingref02_Scale.j2, c2, if_false]
   exact hj
theorem right_ref {c t v : Int} (hc : 0 ≤ c) (hc1 : c ≤ 1000000000) (ht : 1 ≤ t) (ht1 : t ≤ 1000000000) (hv0 : 0 ≤ v) (hv : v ≤ t) : Ev (fun k => cohousingref29_Right.f k c t v) (rightV c t v) := by
 obtain ⟨t, rfl⟩ := Int.eq_ofNat_of_zero_le (show 0 ≤ t by omega)
 obtain ⟨v, rfl⟩ := Int.eq_ofNat_of_zero_le hv0
 obtain ⟨a, ha⟩ : ∃ a, a = Nat.gcd v t := ⟨_, rfl⟩
 have ha0 : 0 < a := by rw [ha]; exact Nat.gcd_pos_of_pos_right _ (by omega)
 have dt : a ∣ t := by rw [ha]; exact Nat.gcd_dvd_right _ _
 have dv : a ∣ v := by rw [ha]; exact Nat.gcd_dvd_left _ _
 obtain ⟨n, hn⟩ := dv
 obtain ⟨d, hd⟩ := dt
 have en : Int.tdiv (v : Int) (a : Int) = (n : Int) := by rw [Int.tdiv_eq_ediv_of_nonneg (by omega), hn]; exact_mod_cast Nat.mul_div_cancel_left n ha0
 have ed : Int.tdiv (t : Int) (a : Int) = (d : Int) := by rw [Int.tdiv_eq_ediv_of_nonneg (by omega), hd]; exact_mod_cast Nat.mul_div_cancel_left d ha0
 have hd0 : 0 < d := Nat.pos_of_ne_zero (fun e => by rw [e] at hd; omega)
 have hdt : d ≤ t := by rw [hd]; exact Nat.le_mul_of_pos_left d ha0
 have hnd : n ≤ d := Nat.le_of_mul_le_mul_left (by rw [← hn, ← hd]; omega) ha0
 have hco : Nat.gcd n d = 1 := by
  have : a * Nat.gcd n d = a * 1 := by rw [← Nat.gcd_mul_left, ← hn, ← hd, ← ha]; omega
  exact Nat.eq_of_mul_eq_mul_left ha0 this
 have hrv : rightV c t v = (2 * (c * n) + d) / (2 * d) := by
  unfold rightV
  rw [hn, hd]
  have e1 : 2 * (c * ((a * n : Nat) : Int)) + ((a * d : Nat) : Int) = (a : Int) * (2 * (c * n) + d) := by
   rw [Int.natCast_mul, Int.natCast_mul, Int.mul_add, ← Int.mul_assoc c, Int.mul_comm c (a : Int), Int.mul_assoc (a : Int) c, ← Int.mul_assoc 2, Int.mul_comm 2 (a : Int), Int.mul_assoc (a : Int) 2]
  have e2 : 2 * ((a * d : Nat) : Int) = (a : Int) * (2 * d) := by
   rw [Int.natCast_mul, ← Int.mul_assoc, Int.mul_comm 2 (a : Int), Int.mul_assoc]
  rw [e1, e2, Int.mul_ediv_mul_of_pos _ _ (by omega)]
 rw [hrv]
 have hg : Ev (fun k => cohousingref05_gcd.f k (v : Int) (t : Int)) (a : Int) := ⟨t + 1, fun k hk => by show cohousingref05_gcd.l0 k (v : Int) (t : Int) = some (a : Int); rw [gcd5_l0 t v k (by omega), ha]⟩
 have hred : Ev (fun k => cohousingref05_Reduce.f k (v : Int) (t : Int)) ((n : Int), (d : Int)) := by
  unfold cohousingref05_Reduce.f
  have e1 : ¬ ((v : Int) < 0) := by omega
  simp only [e1, if_false]
  refine Ev.bnd hg ?_
  have e2 : ¬ ((a : Int) = 0) := by omega
  simp only [e2, if_false, en, ed, wrap_id' (show -9223372036854775808 ≤ (n : Int) by omega) (by omega), wrap_id' (show -9223372036854775808 ≤ (d : Int) by omega) (by omega)]
  exact Ev.pure _
 unfold cohousingref29_Right.f
 refine Ev.bnd hred ?_
 refine Ev.bnd (scale2_f hc hc1 (by omega) (by omega) hnd hco) ?_
 exact Ev.pure _
end Go.Proofs.Ytbgchacafglcpaa.P
end
section
namespace Go.Proofs.Ytbgchacafglcpaa.P
open Go.RowKit Go.Proofs.YtbgchacafglcpaaW.PrintWords Go.Proofs.YtbgchacafglcpaaW.PrintLast Go.Proofs.YtbgchacafglcpaaW.PrintMore Go.Proofs.YtbgchacafglcpaaH Go.Proofs.FlowTree
open Classical
theorem leaf_ev (p : List PI) (hn : p.length ≤ 200) (i : Nat) (hi : i < p.length) : Ev (fun k => cohousingref28_Leaf.f k p (i : Int)) (decide (kidsAt p p.length i = [])) := by
 unfold cohousingref28_Leaf.f
 refine Ev.bnd (below_f' p hn i hi) ?_
 have e : ((((kidsAt p p.length i).map Int.ofNat).length : Int) == 0) = decide (kidsAt p p.length i = []) := by
  rw [List.length_map]
  cases h : kidsAt p p.length i with
  | nil => simp
  | cons a s => simp; omega
 rw [e]
 exact Ev.pure _
def leavesN (l : List PI) (m : Nat) : List Nat := (List.range m).filter (fun j => decide (kidsAt l l.length j = []))
theorem leavesN_succ (l : List PI) (m : Nat) : leavesN l (m + 1) = leavesN l m ++ (if kidsAt l l.length m = [] then [m] else []) := by
 unfold leavesN
 rw [List.range_succ, List.filter_append]
 congr 1
 by_cases h : kidsAt l l.length m = [] <;> simp [h]
theorem leavesN_len (l : List PI) (m : Nat) : (leavesN l m).length ≤ m := by
 unfold leavesN
 have := List.length_filter_le (fun j => decide (kidsAt l l.length j = [])) (List.range m)
 rw [List.length_range] at this
 exact this
theorem leavesN_mem {l : List PI} {m j : Nat} : j ∈ leavesN l m ↔ j < m ∧ kidsAt l l.length j = [] := by simp [leavesN]
theorem abv_iff {l : List PI} (hok : okL l) {j : Nat} (hj : j < l.length) : abvB l l.length (idP l j) = true ↔ kidsAt l l.length j ≠ [] := by
 unfold abvB
 rw [List.any_eq_true]
 constructor
 ·rintro ⟨i, hi, h⟩ hnil
  have hi' := List.mem_range.1 hi
  have h' : idP l j = abP l i := of_decide_eq_true h
  obtain ⟨j', hj', e⟩ := (hok i hi').2.2.2 (by have := (hok j hj).1; rw [← h']; omega)
  have : j' = j := id_inj (m := l.length) hok (by omega) hj (by rw [e, h'])
  have hm : i ∈ kidsAt l l.length j := kidsAt_mem.2 ⟨hi', by omega, h'.symm⟩
  rw [hnil] at hm
  cases hm
 ·intro hne
  cases hk : kidsAt l l.length j with
  | nil => exact absurd hk hne
  | cons i is =>
   have hm : i ∈ kidsAt l l.length j := by rw [hk]; simp
   have := kidsAt_mem.1 hm
   exact ⟨i, List.mem_range.2 this.1, decide_eq_true this.2.2.symm⟩
theorem parts_at {l : List PI} (hok : okL l) (bs : List RGE) : ∀ m, m ≤ l.length → partsN l bs m = (leavesN l m).map (qq bs) := by
 intro m
 induction m with
 | zero => intro _; rfl
 | succ m ih =>
  intro hm
  have e : partsN l bs (m + 1) = if abvB l l.length (idP l m) = true then partsN l bs m else partsN l bs m ++ [⟨(qq bs m).f0, (qq bs m).f1⟩] := foldl_rng _ _ _
  rw [e, ih (by omega), leavesN_succ]
  by_cases h : kidsAt l l.length m = []
  ·rw [if_neg (fun h2 => (abv_iff hok (by omega)).1 h2 h), if_pos h, List.map_append]
   rfl
  ·rw [if_pos ((abv_iff hok (by omega)).2 h), if_neg h, List.append_nil]
theorem leaves_l0 (l : List PI) (hn : l.length ≤ 200) : ∀ d i : Nat, i + d = l.length → Ev (fun k => cohousingref29_Leaves.l0 k l ((leavesN l i).map Int.ofNat) (i : Int)) ((leavesN l l.length).map Int.ofNat) := by
 intro d
 induction d with
 | zero =>
  intro i hi
  have e : i = l.length := by omega
  subst e
  have h1 : ¬ ((l.length : Int) < (l.length : Int)) := by omega
  refine Ev.step ?_
  simp only [cohousingref29_Leaves.l0, h1, if_false]
  exact Ev.pure _
 | succ d ih =>
  intro i hi
  have h1 : ((i : Int) < (l.length : Int)) := by omega
  have h2 : ((leavesN l i).map Int.ofNat).length < 17592186044416 := by rw [List.length_map]; have := leavesN_len l i; omega
  have hw := wrap_nat (show i ≤ 140737488355328 by omega)
  refine Ev.step ?_
  simp only [cohousingref29_Leaves.l0, h1, if_true]
  refine Ev.bnd (leaf_ev l hn i (by omega)) ?_
  have := ih (i + 1) (by omega)
  rw [leavesN_succ] at this
  by_cases h : kidsAt l l.length i = []
  ·rw [decide_eq_true h]
   rw [if_pos h, List.map_append] at this
   simp only [if_true, h2, hw]
   exact this
  ·rw [decide_eq_false h]
   rw [if_neg h, List.append_nil] at this
   simp only [Bool.false_eq_true, if_false, hw]
   exact this
theorem leaves_ev (l : List PI) (hn : l.length ≤ 200) : Ev (fun k => cohousingref29_Leaves.f k l) ((leavesN l l.length).map Int.ofNat) := leaves_l0 l hn l.length 0 (by omega)
theorem roots_at (l : List PI) (hn : l.length ≤ 5864062014805) : ∀ i, i ≤ l.length → 0 ≤ rootsN l i ∧ rootsN l i ≤ i ∧ (i < l.length → rootsN l (i + 1) = rootsN l i + if abP l i = 0 then 1 else 0) := by
 intro i
 have step : ∀ i, i < l.length → 0 ≤ rootsN l i → rootsN l i ≤ i → rootsN l (i + 1) = rootsN l i + if abP l i = 0 then 1 else 0 := by
  intro i hi h0 h1
  have e : rootsN l (i + 1) = if abP l i = 0 then wrap64 (rootsN l i + 1) else rootsN l i := foldl_rng _ _ _
  rw [e]
  split
  ·rw [wrap_id' (by omega) (by omega)]
  ·omega
 induction i with
 | zero => intro _; exact ⟨Int.le_refl _, Int.le_refl _, fun h => step 0 h (Int.le_refl _) (Int.le_refl _)⟩
 | succ i ih =>
  intro hi
  obtain ⟨h0, h1, h2⟩ := ih (by omega)
  have h3 := h2 (by omega)
  have hb : 0 ≤ rootsN l (i + 1) ∧ rootsN l (i + 1) ≤ ((i + 1 : Nat) : Int) := by rw [h3]; split <;> omega
  exact ⟨hb.1, hb.2, fun h => step (i + 1) h hb.1 hb.2⟩
theorem roots_mono (l : List PI) (hn : l.length ≤ 5864062014805) : ∀ d i, i + d ≤ l.length → rootsN l i ≤ rootsN l (i + d) := by
 intro d
 induction d with
 | zero => intro i _; exact Int.le_refl _
 | succ d ih =>
  intro i h
  have h1 := ih i (by omega)
  have h2 := (roots_at l hn (i + d) (by omega)).2.2 (by omega)
  rw [show i + (d + 1) = i + d + 1 by omega, h2]
  split <;> omega
theorem tot_succ (l : List PI) (bs : List RGE) (i : Nat) : totN l bs (i + 1) = if abP l i = 0 then ⟨(qq bs i).f0, (qq bs i).f1⟩ else totN l bs i := foldl_rng _ _ _
def RootOf (l : List PI) (i : Nat) (r : Int) : Prop := (rootsN l i = 0 ∧ r = -1) ∨ (rootsN l i = 1 ∧ ∃ m : Nat, m < i ∧ r = (m : Int) ∧ abP l m = 0 ∧ ∀ bs : List RGE, totN l bs i = qq bs m)
theorem root_l0 (l : List PI) (hn : l.length ≤ 5864062014805) : ∀ (d i : Nat) (r0 : Int), i + d = l.length → RootOf l i r0 → ∃ r, Ev (fun k => cohousingref29_Root.l0 k l r0 (i : Int)) r ∧ ((rootsN l l.length ≠ 1 ∧ r = -1) ∨ RootOf l l.length r) := by
 intro d
 induction d with
 | zero =>
  intro i r0 hi h
  have e : i = l.length := by omega
  subst e
  have h1 : ¬ ((l.length : Int) < (l.length : Int)) := by omega
  refine ⟨r0, Ev.step ?_, .inr h⟩
  simp only [cohousingref29_Root.l0, h1, if_false]
  exact Ev.pure _
 | succ d ih =>
  intro i r0 hi h
  have h1 : ((i : Int) < (l.length : Int)) := by omega
  have h2 : (0 : Int) ≤ (i : Int) := by omega
  have hw := wrap_nat (show i ≤ 140737488355328 by omega)
  have hs := (roots_at l hn i (by omega)).2.2 (by omega)
  have q : (rd_T63 l (i : Int)).f1 = abP l i := rfl
  by_cases c : abP l i = 0
  ·rw [if_pos c] at hs
   rcases h with ⟨h0, rfl⟩ | ⟨h0, m, hm, rfl, hab, htot⟩
   ·have e1 : ¬ ((-1 : Int) ≥ 0) := by omega
    obtain ⟨r, hr, hR⟩ := ih (i + 1) (i : Int) (by omega) (.inr ⟨by omega, i, Nat.lt_succ_self _, rfl, c, fun bs => by rw [tot_succ, if_pos c]⟩)
    refine ⟨r, Ev.step ?_, hR⟩
    simp only [cohousingref29_Root.l0, h1, h2, if_true, q, c, e1, if_false, hw]
    exact hr
   ·have e1 : ((m : Int) ≥ 0) := by omega
    have hmo := roots_mono l hn (l.length - (i + 1)) (i + 1) (by omega)
    rw [show i + 1 + (l.length - (i + 1)) = l.length by omega] at hmo
    refine ⟨-1, Ev.step ?_, .inl ⟨by omega, rfl⟩⟩
    simp only [cohousingref29_Root.l0, h1, h2, if_true, q, c, e1]
    exact Ev.pure _
  ·rw [if_neg c] at hs
   obtain ⟨r, hr, hR⟩ := ih (i + 1) r0 (by omega) (by
    rcases h with ⟨h0, h'⟩ | ⟨h0, m, hm, h', hab, htot⟩
    ·exact .inl ⟨by omega, h'⟩
    ·exact .inr ⟨by omega, m, by omega, h', hab, fun bs => by rw [tot_succ, if_neg c, htot]⟩)
   refine ⟨r, Ev.step ?_, hR⟩
   simp only [cohousingref29_Root.l0, h1, h2, if_true, q, c, if_false, hw]
   exact hr
theorem root_ev (l : List PI) (hn : l.length ≤ 5864062014805) : ∃ r, Ev (fun k => cohousingref29_Root.f k l) r ∧ ((rootsN l l.length ≠ 1 ∧ r = -1) ∨ (rootsN l l.length = 1 ∧ ∃ m : Nat, m < l.length ∧ r = (m : Int) ∧ abP l m = 0 ∧ ∀ bs : List RGE, totN l bs l.length = qq bs m)) := by
 obtain ⟨r, hr, h⟩ := root_l0 l hn l.length 0 (-1) (by omega) (.inl ⟨rfl, rfl⟩)
 refine ⟨r, hr, ?_⟩
 rcases h with h | h | h
 ·exact .inl h
 ·exact .inl ⟨by rw [h.1]; decide, h.2⟩
 ·exact .inr h
theorem qq_toR (d : List IV) (j : Nat) : qq (d.map toR) j = toR (rv d j) := rr_toR d j
structure NetOk (c : Int) (l : List PI) (known : List RG) (homes : List Int) (q : List CH × Int × Int) (d : List IV) (m : Nat) (p : List CH × Int) : Prop where
 good : Good l known
 bounds : boundsR l known = (d.map toR, 0)
 exact : Exact l (lo9 known) (hi9 known) d
 root : m < l.length
 one : rootsN l l.length = 1
 tot : ∀ bs : List RGE, totN l bs l.length = qq bs m
 same : Lo d m = Hi d m
 pos : 1 ≤ Lo d m
 parts : PartsOk c (Lo d m) ((leavesN l l.length).map (fun j => toR (rv d j)))
 low : LowAt homes c (Lo d m) ((leavesN l l.length).map (fun j => toR (rv d j))) ((leavesN l l.length).map (fun j => toR (rv d j))).length p
 flow : ¬ Lo d m < leastN ((leavesN l l.length).map (fun j => toR (rv d j))) ((leavesN l l.length).map (fun j => toR (rv d j))).length
 res : q = (p.1, c - p.2, 0)
theorem network_ok {c : Int} {l : List PI} {known : List RG} {homes : List Int} (h : (networkC c l known homes).2.2 = 0) : ∃ d m p, NetOk c l known homes (networkC c l known homes) d m p := by
 have hb := boundsR_is l known
 have e0 : (1 : Int) ≠ 0 := by decide
 have e30 : (30 : Int) ≠ 0 := by decide
 generalize hq : boundsR l known = q at hb
 cases hb with
 | arg _ =>
  have : networkC c l known homes = ([], 0, 1) := by unfold networkC; rw [hq, if_neg e0]
  rw [this] at h
  exact absurd h e0
 | flow _ _ =>
  have : networkC c l known homes = ([], 0, 30) := by unfold networkC; rw [hq, if_neg e30]
  rw [this] at h
  exact absurd h e30
 | ok d hg hd =>
  have e1 : networkC c l known homes = (if c < 0 ∨ 1000000000 < c ∨ rootsN l l.length ≠ 1 ∨ homes.length ≠ (partsN l (d.map toR) l.length).length ∨ homesB 0 homes = false then ([], 0, 1)
    else if (totN l (d.map toR) l.length).f0 ≠ (totN l (d.map toR) l.length).f1 ∨ (totN l (d.map toR) l.length).f0 = 0 then ([], 0, 3)
    else shareC c (totN l (d.map toR) l.length).f0 homes (partsN l (d.map toR) l.length)) := by unfold networkC; rw [hq, if_pos rfl]
  rw [e1] at h ⊢
  by_cases c1 : c < 0 ∨ 1000000000 < c ∨ rootsN l l.length ≠ 1 ∨ homes.length ≠ (partsN l (d.map toR) l.length).length ∨ homesB 0 homes = false
  ·rw [if_pos c1] at h; exact absurd h e0
  rw [if_neg c1] at h ⊢
  by_cases c2 : (totN l (d.map toR) l.length).f0 ≠ (totN l (d.map toR) l.length).f1 ∨ (totN l (d.map toR) l.length).f0 = 0
  ·rw [if_pos c2] at h; exact absurd h (by decide)
  rw [if_neg c2] at h ⊢
  have hr1 : rootsN l l.length = 1 := Classical.byContradiction fun hn => c1 (.inr (.inr (.inl hn)))
  obtain ⟨r, _, hR⟩ := root_ev l (by have := hg.n; omega)
  rcases hR with ⟨hne, _⟩ | ⟨_, m, hm, _, hab, htot⟩
  ·exact absurd hr1 hne
  rw [htot, qq_toR] at c2
  have hs : Lo d m = Hi d m := Classical.byContradiction fun hn => c2 (.inl hn)
  have hz : ¬ Lo d m = 0 := fun hn => c2 (.inr hn)
  have hrng := hd.rng m hm
  rw [parts_at hg.ok _ _ (Nat.le_refl _), htot, qq_toR] at h ⊢
  have eP : (leavesN l l.length).map (qq (d.map toR)) = (leavesN l l.length).map (fun j => toR (rv d j)) := List.map_congr_left (fun j _ => qq_toR d j)
  rw [eP] at h ⊢
  have et : (toR (rv d m)).f0 = Lo d m := rfl
  rw [et] at h ⊢
  have hsh := shareC_is c (Lo d m) homes ((leavesN l l.length).map (fun j => toR (rv d j)))
  generalize hq2 : shareC c (Lo d m) homes ((leavesN l l.length).map (fun j => toR (rv d j))) = q2 at hsh h ⊢
  cases hsh with
  | arg _ => exact absurd h e0
  | flow _ _ _ _ => exact absurd h e30
  | ok p hp _ _ hl hlow _ => exact ⟨d, m, p, hg, hq, hd, hm, hr1, htot, hs, by omega, hp, hlow, hl, rfl⟩
end Go.Proofs.Ytbgchacafglcpaa.P
end
section
namespace Go.Proofs.YtbgchacafglcpaaH
open Go.RowKit Go.ChangeShapes Go.WideShapes Go.Proofs.YtbgchacafglcpaaW.PrintWords
def Opens {α : Type} (P : Program) (d : Kd α) (t : TypeId) : Prop :=
 ∀ {H : Type} {enc : TypeId × Value → H} {w : World} {base : Nat} {spare : Nat → Bool} {held : Bool} {fuel : Nat} {cs : List Value} {x : DataW H × List MemPlace}, DataW.trod enc P w base spare held fuel t cs = some x → ∃ a : α, d.K w a cs
theorem Opens.int {P : Program} {t : TypeId} {k : IntKind} (h : P.underlying t = some (.int k)) : Opens P (Kd.int k) t := by
 intro H enc w base spare held fuel cs x hx
 obtain ⟨n, rfl, _, _⟩ := DataW.trod_int h hx
 exact ⟨n, rfl⟩
theorem Opens.iso {α β : Type} {P : Program} {d : Kd α} {t : TypeId} (f : β → α) (g : α → β) (hfg : ∀ a, f (g a) = a) (h : Opens P d t) : Opens P (Kd.iso d f) t := by
 intro H enc w base spare held fuel cs x hx
 obtain ⟨a, ha⟩ := h hx
 refine ⟨g a, ?_⟩
 show d.K w (f (g a)) cs
 rw [hfg]
 exact ha
def Segs {β : Type} (P : Program) (d : Kd β) (fs : List Field) (o z : Nat) : Prop :=
 ∀ {H : Type} {enc : TypeId × Value → H} {w : World} {base : Nat} {spare : Nat → Bool} {held : Bool} {fuel : Nat} {cs : List Value}, cs.length = z →
  (∀ f ∈ fs, ∃ x : DataW H × List MemPlace, DataW.trod enc P w base spare held fuel f.type ((cs.drop f.offset).take (P.cellsOf f.type)) = some x) → ∃ b : β, d.K w b (cs.drop o)
theorem Segs.one {α : Type} {P : Program} {d : Kd α} {f : Field} {o z : Nat} (h : Opens P d f.type) (ho : f.offset = o) (hz : z = o + P.cellsOf f.type) : Segs P d [f] o z := by
 intro H enc w base spare held fuel cs hl hf
 obtain ⟨x, hx⟩ := hf f (by simp)
 obtain ⟨a, ha⟩ := h hx
 refine ⟨a, ?_⟩
 rw [ho, List.take_of_length_le (by rw [List.length_drop]; omega)] at ha
 exact ha
theorem Segs.cons {α β : Type} {P : Program} {d : Kd α} {d' : Kd β} {f : Field} {fs : List Field} {o o' z : Nat} (h : Opens P d f.type) (ho : f.offset = o) (ho' : o' = o + P.cellsOf f.type) (hr : Segs P d' fs o' z) : Segs P (Kd.pair d d') (f :: fs) o z := by
 intro H enc w base spare held fuel cs hl hf
 obtain ⟨x, hx⟩ := hf f (by simp)
 obtain ⟨a, ha⟩ := h hx
 obtain ⟨b, hb⟩ := hr hl (fun f' h' => hf f' (List.mem_cons_of_mem _ h'))
 refine ⟨(a, b), _, _, ?_, ha, hb⟩
 rw [ho, ho', ← List.drop_drop, List.take_append_drop]
theorem Opens.struct {β : Type} {P : Program} {d : Kd β} {t : TypeId} {fs : Array Field} (h : P.underlying t = some (.struct fs)) (hr : Segs P d fs.toList 0 (P.cellsOf t)) : Opens P d t := by
 intro H enc w base spare held fuel cs x hx
 obtain ⟨xs, n, _, _, hl, hxl, hf⟩ := DataW.trod_struct h hx
 have := hr (enc := enc) (w := w) (base := base) (spare := spare) (held := held) (fuel := n) (cs := cs) hl (fun f hm => by
  obtain ⟨i, hi, rfl⟩ := List.mem_iff_getElem.1 hm
  have hi' : i < fs.size := by simpa using hi
  have h1 := hf i fs[i] (by simp [hi'])
  refine ⟨xs[i]'(by omega), ?_⟩
  rw [Array.getElem_toList]
  rw [h1]
  simp [hxl, hi'])
 rw [List.drop_zero] at this
 exact this
theorem Opens.row {α : Type} {P : Program} {d : Kd α} {t e : TypeId} (ht : P.underlying t = some (.slice e)) (hsz : P.cellsOf e = d.sz) (he : Opens P d e) {H : Type} {enc : TypeId × Value → H} {w : World} {base : Nat} {spare : Nat → Bool} {held : Bool} {fuel : Nat} {cs : List Value} {x : DataW H × List MemPlace}
  (hx : DataW.trod enc P w base spare held fuel t cs = some x) : ∃ A len cap, cs = [.slice A len cap] ∧ ∃ xs : List α, xs.length = len ∧ len ≤ cap ∧ d.C w A len xs := by
 rcases Deep.open_slice ht hx with ⟨rfl, _⟩ | ⟨a, len, cap, m, n, D, Pl, rfl, _, hl, hm, hmm, _, hel⟩
 ·exact ⟨none, 0, 0, rfl, [], rfl, Nat.le_refl _, rfl, by omega, fun h => absurd h (Nat.lt_irrefl _)⟩
 ·have hlm : len ≤ m := by rw [hmm]; split <;> omega
  have each : ∀ i, i < len → ∃ a' : α, ∃ cs', cs'.length = d.sz ∧ d.K w a' cs' ∧ ∀ j u, cs'[j]? = some u → w.cell? (a.add (i * d.sz + j)) = some u := by
   intro i hi
   obtain ⟨cs', h1, h2⟩ := hel i (by omega)
   obtain ⟨a', ha'⟩ := he h2
   obtain ⟨_, hlen, hcell⟩ := World.cells?_some h1
   refine ⟨a', cs', by omega, ha', fun j u hj => ?_⟩
   have hjl : j < cs'.length := (List.getElem?_eq_some_iff.1 hj).1
   have := hcell j (by omega)
   rw [Deep.add_add, hsz] at this
   rw [this, hj]
  obtain ⟨xs, hxs⟩ : ∃ xs : List α, xs.length = len ∧ ∀ i (h : i < xs.length), ∃ cs', cs'.length = d.sz ∧ d.K w xs[i] cs' ∧ ∀ j u, cs'[j]? = some u → w.cell? (a.add (i * d.sz + j)) = some u := by
   have key : ∀ k, k ≤ len → ∃ xs : List α, xs.length = k ∧ ∀ i (h : i < xs.length), ∃ cs', cs'.length = d.sz ∧ d.K w xs[i] cs' ∧ ∀ j u, cs'[j]? = some u → w.cell? (a.add (i * d.sz + j)) = some u := by
    intro k
    induction k with
    | zero => intro _; exact ⟨[], rfl, fun i h => absurd h (Nat.not_lt_zero _)⟩
    | succ k ih =>
     intro hk
     obtain ⟨xs, hl, hxs⟩ := ih (by omega)
     obtain ⟨a', ha'⟩ := each k (by omega)
     refine ⟨xs ++ [a'], by simp [hl], fun i h => ?_⟩
     by_cases hi : i < xs.length
     ·rw [List.getElem_append_left hi]
      exact hxs i hi
     ·have e : i = xs.length := by simp at h; omega
      subst e
      rw [List.getElem_append_right (Nat.le_refl _)]
      simp only [Nat.sub_self, List.getElem_cons_zero]
      rw [hl]
      exact ha'
   exact key len (Nat.le_refl _)
  refine ⟨some a, len, cap, rfl, xs, hxs.1, hl, hxs.1, ?_, fun _ => ⟨a, rfl, fun j p hj => ?_⟩⟩
  ·have : maxLen = 2 ^ 63 - 1 := rfl
   omega
  ·obtain ⟨hjl, rfl⟩ := List.getElem?_eq_some_iff.1 hj
   exact hxs.2 j hjl
theorem Opens.slice {α : Type} {P : Program} {d : Kd α} {t e : TypeId} (ht : P.underlying t = some (.slice e)) (hsz : P.cellsOf e = d.sz) (he : Opens P d e) : Opens P (Kd.slice e d) t := by
 intro H enc w base spare held fuel cs x hx
 obtain ⟨A, len, cap, rfl, xs, rfl, hl, hC⟩ := Opens.row ht hsz he hx
 exact ⟨xs, A, cap, rfl, hl, hC⟩
theorem open_arg {α : Type} {P : Program} {d : Kd α} {t e : TypeId} (ht : P.underlying t = some (.slice e)) (hsz : P.cellsOf e = d.sz) (he : Opens P d e) {H : Type} {enc : TypeId × Value → H} {w : World} {base : Nat} {spare : Nat → Bool} {held : Bool} {A : Option Addr} {len cap : Nat} {x : DataW H} {ps : List MemPlace}
  (hx : DataW.Trod enc P w base spare held t (.slice A len cap) x ps) : ∃ xs : List α, xs.length = len ∧ len ≤ cap ∧ d.C w A len xs := by
 obtain ⟨fuel, hf⟩ := hx
 obtain ⟨A', len', cap', e1, r⟩ := Opens.row ht hsz he hf
 simp [Value.cells] at e1
 obtain ⟨rfl, rfl, rfl⟩ := e1
 exact r
theorem sized_arg {H : Type} {enc : TypeId × Value → H} {P : Program} {W : World} {base : Nat} {spare : Nat → Bool} {held : Bool} {t e : TypeId} {a : Option Addr} {len cap : Nat} {d : DataW H} {ps : List MemPlace} {ts : List TypeId} {ds : List (DataW H)} {j : Nat}
  (hsz : (DataW.weightsEach P ts ds).all (· ≤ reachBytes) = true) (ht : ts[j]? = some t) (hd : ds[j]? = some d) (hu : P.underlying t = some (.slice e)) {B : Nat} (hB : P.bytesOf e = B)
  (h : DataW.Trod enc P W base spare held t (.slice a len cap) d ps) : len * B ≤ 140737488351232 := by
 obtain ⟨fuel, hf⟩ := h
 rcases Deep.open_slice hu hf with ⟨hcs, _⟩ | ⟨x, l, c, m, n, D, Pl, hcs, _, hl, _, hm, hx, _⟩
 ·simp [Value.cells] at hcs
  obtain ⟨rfl, rfl, rfl⟩ := hcs
  simp
 ·simp [Value.cells] at hcs
  obtain ⟨rfl, rfl, rfl⟩ := hcs
  obtain ⟨hx, _⟩ := Prod.mk.inj hx
  subst hx
  have z := sized_slice hsz ht hd hu
  rw [hB] at z
  simp only [List.length_map, List.length_range] at z
  exact Nat.le_trans (Nat.mul_le_mul_right _ (Nat.le_add_right _ _)) z
end Go.Proofs.YtbgchacafglcpaaH
end
