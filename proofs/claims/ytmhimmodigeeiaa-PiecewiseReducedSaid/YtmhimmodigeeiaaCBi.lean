/- Part 9 of the base that the seat's proofs share: words, walks and plain laws. -/
import Derived.Test.YtmhimmodigeeiaaCBh
set_option linter.unusedVariables false
set_option linter.unusedSimpArgs false
section
namespace Go.Proofs.Ytmhimmodigeeiaa.P
open Go.RowKit Go.Proofs.YtmhimmodigeeiaaW.PrintWords Go.Proofs.YtmhimmodigeeiaaW.PrintLast Go.Proofs.YtmhimmodigeeiaaW.PrintMore
set_option linter.unusedVariables false
set_option linter.unusedSimpArgs false
abbrev PC := S51
abbrev RT := S24
def Ev {α : Type} (f : Nat → Option α) (r : α) : Prop := ∃ k0, ∀ k, k0 ≤ k → f k = some r
theorem Ev.step {α : Type} {f : Nat → Option α} {r : α} (h : Ev (fun k => f (k + 1)) r) : Ev f r := by
 obtain ⟨k0, h⟩ := h
 refine ⟨k0 + 1, fun k hk => ?_⟩
 obtain ⟨k, rfl⟩ : ∃ m, k = m + 1 := ⟨k - 1, by omega⟩
 exact h k (by omega)
theorem Ev.pure {α : Type} (r : α) : Ev (fun _ => some r) r := ⟨0, fun _ _ => rfl⟩
theorem Ev.bnd {α β : Type} {f : Nat → Option β} {g : β → Nat → Option α} {b : β} {r : α} (hf : Ev f b) (hg : Ev (g b) r) : Ev (fun k => (f k).bind fun t => g t k) r := by
 obtain ⟨k0, h⟩ := hf
 obtain ⟨k1, h1⟩ := hg
 refine ⟨max k0 k1, fun k hk => ?_⟩
 show (f k).bind _ = _
 rw [h k (by omega)]
 exact h1 k (by omega)
theorem Ev.congr {α : Type} {f g : Nat → Option α} {r : α} (h : ∀ k, f k = g k) (hg : Ev g r) : Ev f r := by
 obtain ⟨k0, h0⟩ := hg
 exact ⟨k0, fun k hk => (h k).trans (h0 k hk)⟩
theorem Ev.of_mono {α : Type} {f : Nat → Option α} {r : α} (k0 : Nat) (h0 : f k0 = some r) (h : ∀ k, LeO (f k) (f (k + 1))) : Ev f r := by
 refine ⟨k0, fun k hk => ?_⟩
 obtain ⟨d, rfl⟩ : ∃ d, k = k0 + d := ⟨k - k0, by omega⟩
 induction d with
 | zero => exact h0
 | succ d ih => exact h _ _ (ih (by omega))
theorem wrap_id {n : Int} (h : -9000000000000000000 ≤ n) (h' : n ≤ 9000000000000000000) : wrap64 n = n := by unfold wrap64; omega
theorem red_unique {a b a' b' : Int} (hb : 0 < b) (hb' : 0 < b') (h1 : Int.gcd a b = 1) (h2 : Int.gcd a' b' = 1) (h : a * b' = a' * b) : a = a' ∧ b = b' := by
 have d1 : b ∣ b' := by
  have : b ∣ a * b' := ⟨a', by rw [h, Int.mul_comm]⟩
  have := Int.dvd_gcd_mul_iff_dvd_mul.2 this
  rw [Int.gcd_comm, h1] at this
  simpa using this
 have d2 : b' ∣ b := by
  have : b' ∣ a' * b := ⟨a, by rw [← h, Int.mul_comm]⟩
  have := Int.dvd_gcd_mul_iff_dvd_mul.2 this
  rw [Int.gcd_comm, h2] at this
  simpa using this
 have hbb : b = b' := Int.dvd_antisymm (by omega) (by omega) d1 d2
 subst hbb
 exact ⟨Int.eq_of_mul_eq_mul_right (by omega) h, rfl⟩
def red (n d : Int) : Int × Int := (n / (Int.gcd n d : Int), d / (Int.gcd n d : Int))
theorem red_pos {n d : Int} (hd : 0 < d) : (0 : Int) < (Int.gcd n d : Int) := by
 have : Int.gcd n d ≠ 0 := fun h => by
  have := Int.gcd_eq_zero_iff.1 h
  omega
 omega
theorem red_n {n d : Int} : (red n d).1 * (Int.gcd n d : Int) = n := Int.ediv_mul_cancel (Int.gcd_dvd_left ..)
theorem red_d {n d : Int} : (red n d).2 * (Int.gcd n d : Int) = d := Int.ediv_mul_cancel (Int.gcd_dvd_right ..)
theorem red_den {n d : Int} (hd : 0 < d) : 0 < (red n d).2 := by
 have h1 := red_pos (n := n) hd
 have h2 := red_d (n := n) (d := d)
 rcases Int.lt_or_le 0 (red n d).2 with h | h
 ·exact h
 ·have := Int.mul_nonneg_of_nonpos_of_nonpos h (show -(Int.gcd n d : Int) ≤ 0 by omega)
  rw [Int.mul_neg] at this
  omega
theorem red_gcd {n d : Int} (hd : 0 < d) : Int.gcd (red n d).1 (red n d).2 = 1 := by
 have := red_pos (n := n) hd
 exact Int.gcd_ediv_gcd_ediv_gcd (by omega)
theorem red_cross {n d : Int} : (red n d).1 * d = n * (red n d).2 := by
 have h1 := red_n (n := n) (d := d)
 have h2 := red_d (n := n) (d := d)
 generalize (red n d).1 = a at *
 generalize (red n d).2 = b at *
 generalize (Int.gcd n d : Int) = g at *
 subst h1
 subst h2
 rw [Int.mul_assoc, Int.mul_comm g b]
theorem red_eq {n d n' d' : Int} (hd : 0 < d) (hd' : 0 < d') (h : n * d' = n' * d) : red n d = red n' d' := by
 have h1 := red_cross (n := n) (d := d)
 have h2 := red_cross (n := n') (d := d')
 have p1 := red_den (n := n) hd
 have p2 := red_den (n := n') hd'
 have := red_unique p1 p2 (red_gcd hd) (red_gcd hd') (by
  apply Int.eq_of_mul_eq_mul_right (a := d * d') (by have := Int.mul_pos hd hd'; omega)
  calc (red n d).1 * (red n' d').2 * (d * d') = ((red n d).1 * d) * ((red n' d').2 * d') := by simp [Int.mul_comm, Int.mul_left_comm, Int.mul_assoc]
   _ = (n * (red n d).2) * ((red n' d').2 * d') := by rw [h1]
   _ = (n * d') * ((red n d).2 * (red n' d').2) := by simp [Int.mul_comm, Int.mul_left_comm, Int.mul_assoc]
   _ = (n' * d) * ((red n d).2 * (red n' d').2) := by rw [h]
   _ = (n' * (red n' d').2) * ((red n d).2 * d) := by simp [Int.mul_comm, Int.mul_left_comm, Int.mul_assoc]
   _ = ((red n' d').1 * d') * ((red n d).2 * d) := by rw [h2]
   _ = (red n' d').1 * (red n d).2 * (d * d') := by simp [Int.mul_comm, Int.mul_left_comm, Int.mul_assoc])
 exact Prod.ext this.1 this.2
theorem red_iff {n d n' d' : Int} (hd : 0 < d) (hd' : 0 < d') : red n d = red n' d' ↔ n * d' = n' * d := by
 refine ⟨fun h => ?_, red_eq hd hd'⟩
 have h1 := red_cross (n := n) (d := d)
 have h2 := red_cross (n := n') (d := d')
 rw [← h] at h2
 have p1 := red_den (n := n) hd
 generalize (red n d).1 = a at *
 generalize (red n d).2 = b at *
 apply Int.eq_of_mul_eq_mul_right (a := b) (by omega)
 calc n * d' * b = (n * b) * d' := by simp [Int.mul_comm, Int.mul_left_comm, Int.mul_assoc]
  _ = (a * d) * d' := by rw [h1]
  _ = (a * d') * d := by simp [Int.mul_comm, Int.mul_left_comm, Int.mul_assoc]
  _ = (n' * b) * d := by rw [h2]
  _ = n' * d * b := by simp [Int.mul_comm, Int.mul_left_comm, Int.mul_assoc]
theorem red_cmp {n d n' d' : Int} (hd : 0 < d) (hd' : 0 < d') : ((red n d).1 * (red n' d').2 < (red n' d').1 * (red n d).2) ↔ n * d' < n' * d := by
 have h1 := red_n (n := n) (d := d)
 have h2 := red_d (n := n) (d := d)
 have h3 := red_n (n := n') (d := d')
 have h4 := red_d (n := n') (d := d')
 have g1 := red_pos (n := n) hd
 have g2 := red_pos (n := n') hd'
 generalize (red n d).1 = a at *
 generalize (red n d).2 = b at *
 generalize (Int.gcd n d : Int) = g at *
 generalize (red n' d').1 = a' at *
 generalize (red n' d').2 = b' at *
 generalize (Int.gcd n' d' : Int) = g' at *
 have gg := Int.mul_pos g1 g2
 have e1 : n * d' = a * b' * (g * g') := by rw [← h1, ← h4]; simp [Int.mul_comm, Int.mul_left_comm]
 have e2 : n' * d = a' * b * (g * g') := by rw [← h3, ← h2]; simp [Int.mul_comm, Int.mul_left_comm]
 rw [e1, e2]
 exact ⟨fun h => Int.mul_lt_mul_of_pos_right h gg, fun h => Int.lt_of_mul_lt_mul_right h (by omega)⟩
theorem red_id {n d : Int} (hd : 0 < d) (h : Int.gcd n d = 1) : red n d = (n, d) := by
 unfold red
 rw [h]
 simp
theorem red_sum {n d n' d' : Int} (hd : 0 < d) (hd' : 0 < d') : red ((red n d).1 * (red n' d').2 + (red n' d').1 * (red n d).2) ((red n d).2 * (red n' d').2) = red (n * d' + n' * d) (d * d') := by
 have p1 := red_den (n := n) hd
 have p2 := red_den (n := n') hd'
 have h1 := red_cross (n := n) (d := d)
 have h2 := red_cross (n := n') (d := d')
 refine red_eq (Int.mul_pos p1 p2) (Int.mul_pos hd hd') ?_
 generalize (red n d).1 = a at *
 generalize (red n d).2 = b at *
 generalize (red n' d').1 = a' at *
 generalize (red n' d').2 = b' at *
 rw [Int.add_mul, Int.add_mul]
 have e1 : a * b' * (d * d') = (a * d) * (b' * d') := by simp [Int.mul_comm, Int.mul_left_comm]
 have e2 : a' * b * (d * d') = (a' * d') * (b * d) := by simp [Int.mul_comm, Int.mul_left_comm]
 rw [e1, e2, h1, h2]
 have e3 : n * b * (b' * d') = n * d' * (b * b') := by simp [Int.mul_comm, Int.mul_left_comm]
 have e4 : n' * b' * (b * d) = n' * d * (b * b') := by simp [Int.mul_comm, Int.mul_left_comm]
 rw [e3, e4]
theorem red_mul {n d m k : Int} (hd : 0 < d) (hk : 0 < k) : red ((red n d).1 * m) ((red n d).2 * k) = red (n * m) (d * k) := by
 have p1 := red_den (n := n) hd
 have h1 := red_cross (n := n) (d := d)
 refine red_eq (Int.mul_pos p1 hk) (Int.mul_pos hd hk) ?_
 generalize (red n d).1 = a at *
 generalize (red n d).2 = b at *
 have e1 : a * m * (d * k) = (a * d) * (m * k) := by simp [Int.mul_comm, Int.mul_left_comm]
 have e2 : n * m * (b * k) = (n * b) * (m * k) := by simp [Int.mul_comm, Int.mul_left_comm]
 rw [e1, e2, h1]
theorem red_small {n d : Int} (hd : 0 < d) : (red n d).1.natAbs ≤ n.natAbs ∧ (red n d).2 ≤ d := by
 have g1 := red_pos (n := n) hd
 have h1 := red_n (n := n) (d := d)
 have h2 := red_d (n := n) (d := d)
 have p1 := red_den (n := n) hd
 generalize (red n d).1 = a at *
 generalize (red n d).2 = b at *
 constructor
 ·rw [← h1, Int.natAbs_mul]
  exact Nat.le_mul_of_pos_right _ (by omega)
 ·have := Int.mul_le_mul_of_nonneg_left (show 1 ≤ (Int.gcd n d : Int) by omega) (show 0 ≤ b by omega)
  omega
theorem euc (a b : Int) : Int.gcd b (Int.tmod a b) = Int.gcd a b := by
 unfold Int.gcd
 rw [Int.natAbs_tmod, Nat.gcd_comm, ← Nat.gcd_rec, Nat.gcd_comm]
theorem gcd_z {a : Int} (h : 0 ≤ a) : (Int.gcd a 0 : Int) = a := by
 rw [Int.gcd_zero_right]
 omega
theorem tmod_in {a b : Int} (ha : 0 ≤ a) (hb : 0 < b) : 0 ≤ Int.tmod a b ∧ Int.tmod a b < b := ⟨Int.tmod_nonneg b ha, Int.tmod_lt_of_pos a hb⟩
theorem common_l0 : ∀ (k : Nat) (a b : Int), 0 ≤ a → 0 ≤ b → b.toNat < k → rational_common.l0 k a b = some (Int.gcd a b : Int)
 | 0, _, _, _, _, h => absurd h (Nat.not_lt_zero _)
 | k + 1, a, b, ha, hb, h => by
  unfold rational_common.l0
  by_cases hz : b = 0
  ·subst hz
   rw [if_pos rfl, gcd_z ha]
  ·have := tmod_in ha (show 0 < b by omega)
   rw [if_neg hz, common_l0 k b _ hb this.1 (by omega), euc]
theorem rcommon_l0 : ∀ (k : Nat) (a b : Int), 0 ≤ a → 0 ≤ b → b.toNat < k → cohousingref01_common.l0 k a b = some (Int.gcd a b : Int)
 | 0, _, _, _, _, h => absurd h (Nat.not_lt_zero _)
 | k + 1, a, b, ha, hb, h => by
  unfold cohousingref01_common.l0
  by_cases hz : b = 0
  ·subst hz
   rw [if_pos rfl, gcd_z ha]
  ·have := tmod_in ha (show 0 < b by omega)
   rw [if_neg hz, rcommon_l0 k b _ hb this.1 (by omega), euc]
theorem gcd_l0 : ∀ (k : Nat) (a b : Int), 0 ≤ a → 0 ≤ b → b.toNat < k → cohousingref05_gcd.l0 k a b = some (Int.gcd a b : Int)
 | 0, _, _, _, _, h => absurd h (Nat.not_lt_zero _)
 | k + 1, a, b, ha, hb, h => by
  unfold cohousingref05_gcd.l0
  by_cases hz : b > 0
  ·have := tmod_in ha (show 0 < b by omega)
   rw [if_pos hz, if_neg (by omega), gcd_l0 k b _ hb this.1 (by omega), euc]
  ·have : b = 0 := by omega
   subst this
   rw [if_neg hz, gcd_z ha]
theorem lowest_l0 (x0 x1 : Int) : ∀ (k : Nat) (a b : Int), 0 ≤ a → 0 ≤ b → (a ≠ 0 ∨ 0 < b) → b.toNat < k → piecewise_lowest.l0 k x0 x1 a b = some (wrap64 (Int.tdiv x0 (Int.gcd a b : Int)), wrap64 (Int.tdiv x1 (Int.gcd a b : Int)))
 | 0, _, _, _, _, _, h => absurd h (Nat.not_lt_zero _)
 | k + 1, a, b, ha, hb, hz, h => by
  unfold piecewise_lowest.l0
  by_cases h6 : b > 0
  ·have := tmod_in ha h6
   rw [if_pos h6, if_neg (by omega), lowest_l0 x0 x1 k b _ hb this.1 (.inl (by omega)) (by omega), euc]
  ·have e : b = 0 := by omega
   subst e
   rw [if_neg h6, if_neg (by omega), gcd_z ha]
theorem red_bound {n d : Int} (hd : 0 < d) {B : Int} (h1 : -B ≤ n) (h2 : n ≤ B) : -B ≤ (red n d).1 ∧ (red n d).1 ≤ B := by
 have := (red_small (n := n) hd).1
 omega
theorem tdiv_red {n d : Int} (hd : 0 < d) : Int.tdiv n (Int.gcd n d : Int) = (red n d).1 ∧ Int.tdiv d (Int.gcd n d : Int) = (red n d).2 :=
 ⟨Int.tdiv_eq_ediv_of_dvd (Int.gcd_dvd_left ..), Int.tdiv_eq_ediv_of_dvd (Int.gcd_dvd_right ..)⟩
theorem mx_abs {n : Int} (h : -9000000000000000000 ≤ n) (h' : n ≤ 9000000000000000000) : mx n (wrap64 (-n)) = (n.natAbs : Int) := by
 rw [wrap_id (by omega) (by omega)]
 unfold mx
 split <;> omega
theorem gcd_abs (n d : Int) : Int.gcd (n.natAbs : Int) d = Int.gcd n d := by
 unfold Int.gcd
 rw [Int.natAbs_natCast]
theorem lowest_eq {k : Nat} {n d : Int} (hd : 0 < d) (hd2 : d ≤ 9000000000000000000) (h1 : -9000000000000000000 ≤ n) (h2 : n ≤ 9000000000000000000) (hk : d.toNat < k) : piecewise_lowest.f k n d = some (red n d) := by
 unfold piecewise_lowest.f
 rw [mx_abs h1 h2, lowest_l0 n d k _ d (by omega) (by omega) (.inr hd) hk, gcd_abs, (tdiv_red hd).1, (tdiv_red hd).2]
 have h3 := red_bound hd h1 h2
 have h4 := (red_small (n := n) hd).2
 have h5 := red_den (n := n) hd
 rw [wrap_id h3.1 h3.2, wrap_id (by omega) (by omega)]
theorem reduce_eq {k : Nat} {n d : Int} (hd : 0 < d) (hd2 : d ≤ 9000000000000000000) (h1 : -9000000000000000000 ≤ n) (h2 : n ≤ 9000000000000000000) (hk : d.toNat < k) : cohousingref05_Reduce.f k n d = some (red n d) := by
 have h3 := red_bound hd h1 h2
 have h4 := (red_small (n := n) hd).2
 have h5 := red_den (n := n) hd
 have hg := red_pos (n := n) hd
 unfold cohousingref05_Reduce.f cohousingref05_gcd.f
 by_cases hn : n < 0
 ·rw [if_pos hn, wrap_id (by omega) (by omega), gcd_l0 k (-n) d (by omega) (by omega) hk, show Int.gcd (-n) d = Int.gcd n d from Int.neg_gcd]
  simp only [Option.bind_some]
  rw [if_neg (by omega), (tdiv_red hd).1, (tdiv_red hd).2, wrap_id h3.1 h3.2, wrap_id (by omega) (by omega)]
 ·rw [if_neg hn, gcd_l0 k n d (by omega) (by omega) hk]
  simp only [Option.bind_some]
  rw [if_neg (by omega), (tdiv_red hd).1, (tdiv_red hd).2, wrap_id h3.1 h3.2, wrap_id (by omega) (by omega)]
theorem reduce_ev {n d : Int} (hd : 0 < d) (hd2 : d ≤ 9000000000000000000) (h1 : -9000000000000000000 ≤ n) (h2 : n ≤ 9000000000000000000) : Ev (fun k => cohousingref05_Reduce.f k n d) (red n d) := ⟨d.toNat + 1, fun _ hk => reduce_eq hd hd2 h1 h2 (by omega)⟩
def RV (a b : Int) : Prop := 1 ≤ b ∧ b ≤ 1000000000 ∧ -1000000000 ≤ a ∧ a ≤ 1000000000 ∧ Int.gcd a b = 1
instance (a b : Int) : Decidable (RV a b) := by unfold RV; infer_instance
theorem size_eq {a : Int} (h1 : -1000000000 ≤ a) (h2 : a ≤ 1000000000) : rational_size.f a = some (a.natAbs : Int) := by
 unfold rational_size.f
 have e : ∀ x : Int, IntKind.u64.wrap x = x % 18446744073709551616 := fun x => by simp [IntKind.wrap, IntKind.bits, IntKind.signed]
 split
 ·rw [e, e]
  congr 1
  omega
 ·rw [e]
  congr 1
  omega
theorem rvalid_eq (a b : Int) : rational_Valid.f a b = some (decide (RV a b)) := by
 unfold rational_Valid.f
 by_cases h1 : b ≥ 1
 case neg => rw [if_neg h1, decide_eq_false (fun h => h1 h.1)]
 by_cases h2 : b ≤ 1000000000
 case neg => rw [if_pos h1, if_neg h2, decide_eq_false (fun h => h2 h.2.1)]
 by_cases h3 : a ≥ -1000000000
 case neg => rw [if_pos h1, if_pos h2, if_neg h3, decide_eq_false (fun h => h3 h.2.2.1)]
 by_cases h4 : a ≤ 1000000000
 case neg => rw [if_pos h1, if_pos h2, if_pos h3, if_neg h4, decide_eq_false (fun h => h4 h.2.2.2.1)]
 rw [if_pos h1, if_pos h2, if_pos h3, if_pos h4, size_eq h3 h4, size_eq (by omega) h2]
 simp only [Option.bind_some, rational_common.f]
 rw [common_l0 _ _ _ (by omega) (by omega) (by omega)]
 simp only [Option.bind_some]
 congr 1
 rw [gcd_abs, show Int.gcd a (b.natAbs : Int) = Int.gcd a b by rw [Int.natAbs_of_nonneg (by omega)]]
 rw [Bool.eq_iff_iff]
 simp only [beq_iff_eq, decide_eq_true_eq]
 constructor
 ·intro h
  exact ⟨h1, h2, h3, h4, by omega⟩
 ·intro h
  have := h.2.2.2.2
  omega
end Go.Proofs.Ytmhimmodigeeiaa.P
end
section
namespace Go.Proofs.Ytmhimmodigeeiaa.P
open Go.RowKit Go.Proofs.YtmhimmodigeeiaaW.PrintWords Go.Proofs.YtmhimmodigeeiaaW.PrintLast Go.Proofs.YtmhimmodigeeiaaW.PrintMore
set_option linter.unusedVariables false
set_option linter.unusedSimpArgs false
open Classical
def IB (n : Int) : Prop := -9223372036854775808 ≤ n ∧ n ≤ 9223372036854775807
def IBP (p : PC) : Prop := IB p.f0 ∧ (IB p.f1.f0 ∧ IB p.f1.f1) ∧ (IB p.f2.f0 ∧ IB p.f2.f1)
theorem u64w (x : Int) : IntKind.u64.wrap x = x % 18446744073709551616 := by simp [IntKind.wrap, IntKind.bits, IntKind.signed]
theorem rsize_eq {a : Int} (h : IB a) : cohousingref01_size.f a = some (a.natAbs : Int) := by
 obtain ⟨h1, h2⟩ := h
 unfold cohousingref01_size.f
 split
 ·have e1 : wrap64 (a + 1) = a + 1 := by unfold wrap64; omega
  have e2 : wrap64 (-(a + 1)) = -(a + 1) := by unfold wrap64; omega
  rw [e1, e2, u64w, u64w]
  congr 1
  omega
 ·rw [u64w]
  congr 1
  omega
theorem wrap_neg {m : Int} (h : 0 ≤ m) (h' : m ≤ 1000000000) : wrap64 (-m) = -m := wrap_id (by omega) (by omega)
theorem make_ev {a b x y g : Int} (ha : IB a) (hb : IB b) (h1 : 1 ≤ b) (hg : 0 < g) (hgg : (Int.gcd a b : Int) = g) (hy : 0 < y) (ex : Int.tdiv (a.natAbs : Int) g = (x.natAbs : Int)) (ey : Int.tdiv b g = y) (hxa : x.natAbs ≤ a.natAbs) (hyb : y ≤ b) (hs1 : a < 0 → x < 0) (hs2 : 0 ≤ a → 0 ≤ x) :
  Ev (fun k => cohousingref01_Make.f k a b) (if (x.natAbs : Int) > 1000000000 ∨ y > 1000000000 then (0, 0, 3) else (x, y, 0)) := by
 have eb : (b.natAbs : Int) = b := by omega
 have hw1 : IntKind.u64.wrap (x.natAbs : Int) = (x.natAbs : Int) := by
  rw [u64w]
  obtain ⟨g1, g2⟩ := ha
  omega
 have hw2 : IntKind.u64.wrap y = y := by
  rw [u64w]
  obtain ⟨g1, g2⟩ := hb
  omega
 have hcom : Ev (fun k => cohousingref01_common.f k (a.natAbs : Int) (b.natAbs : Int)) g := ⟨b.toNat + 1, fun k hk => by
  show cohousingref01_common.l0 k _ _ = _
  rw [rcommon_l0 k _ _ (by omega) (by omega) (by omega), gcd_abs, eb, hgg]⟩
 have hb0 : ¬ b = 0 := by omega
 have hg0 : ¬ g = 0 := by omega
 have hb1 : ¬ b < 0 := by omega
 unfold cohousingref01_Make.f
 simp only [rsize_eq ha, rsize_eq hb, Option.bind_some, hb0, if_false]
 refine Ev.bnd hcom ?_
 simp only [hg0, if_false, ex, eb, ey, hw1, hw2]
 by_cases hx : (x.natAbs : Int) > 1000000000
 ·simp only [hx, if_true, true_or]
  refine Ev.step ?_
  simp only [cohousingref01_Make.j0, if_true]
  exact Ev.pure _
 by_cases hy2 : y > 1000000000
 ·simp only [hx, hy2, if_true, if_false, or_true, decide_true]
  refine Ev.step ?_
  simp only [cohousingref01_Make.j0, if_true]
  exact Ev.pure _
 simp only [hx, hy2, if_false, or_false, decide_false]
 refine Ev.step ?_
 have z1 : a < 0 → -(x.natAbs : Int) = x := fun h => by have := hs1 h; omega
 have z2 : ¬ a < 0 → (x.natAbs : Int) = x := fun h => by have := hs2 (by omega); omega
 have v1 : wrap64 (x.natAbs : Int) = (x.natAbs : Int) := wrap_id (by omega) (by omega)
 have v2 : wrap64 y = y := wrap_id (by omega) (by omega)
 have v3 : wrap64 (-(x.natAbs : Int)) = -(x.natAbs : Int) := wrap_neg (Int.natCast_nonneg _) (Int.not_lt.1 hx)
 by_cases hn : a < 0
 ·simp only [cohousingref01_Make.j0, Bool.false_eq_true, if_false, v1, v2, v3, hn, hb1, decide_true, decide_false, bne_iff_ne, ne_eq, Bool.true_eq_false, not_false_eq_true, if_true]
  rw [z1 hn]
  exact Ev.pure _
 ·simp only [cohousingref01_Make.j0, Bool.false_eq_true, if_false, v1, v2, hn, hb1, decide_false, bne_self_eq_false]
  rw [z2 hn]
  exact Ev.pure _
theorem rv_ref {a b : Int} (ha : IB a) (hb : IB b) : Ev (fun k => cohousingref01_Valid.f k a b) (decide (RV a b)) := by
 unfold cohousingref01_Valid.f
 by_cases h1 : b < 1
 ·simp only [h1, if_true]
  rw [decide_eq_false (fun h => by have := h.1; omega)]
  exact Ev.pure _
 simp only [h1, if_false]
 have hd : 0 < b := by omega
 have hg := red_pos (n := a) hd
 have e1 := red_n (n := a) (d := b)
 have e2 := red_d (n := a) (d := b)
 have e3 := red_den (n := a) hd
 have e4 := red_small (n := a) hd
 have e5 := red_gcd (n := a) hd
 have e6 : RV a b → red a b = (a, b) := fun h => red_id hd h.2.2.2.2
 have ey : Int.tdiv b (Int.gcd a b : Int) = (red a b).2 := (tdiv_red hd).2
 generalize hx : (red a b).1 = x at *
 generalize hy : (red a b).2 = y at *
 generalize hgg : (Int.gcd a b : Int) = g at *
 have ex : Int.tdiv (a.natAbs : Int) g = (x.natAbs : Int) := by
  have h5 : (a.natAbs : Int) = (x.natAbs : Int) * g := by
   have h6 := congrArg Int.natAbs e1
   rw [Int.natAbs_mul] at h6
   rw [← h6, Int.natCast_mul]
   congr 1
   omega
  rw [h5, Int.mul_tdiv_cancel _ (by omega)]
 refine Ev.bnd (make_ev (x := x) (y := y) ha hb (by omega) hg hgg e3 ex ey e4.1 e4.2 (fun hn => ?_) (fun hn => ?_)) ?_
 ·rcases Int.lt_or_le x 0 with h | h
  ·exact h
  ·have := Int.mul_nonneg h (show 0 ≤ g by omega)
   omega
 ·rcases Int.lt_or_le x 0 with h | h
  ·have := Int.mul_neg_of_neg_of_pos h hg
   omega
  ·exact h
 by_cases hc : (x.natAbs : Int) > 1000000000 ∨ y > 1000000000
 ·have z : ((3 : Int) = 0) = False := by simp
  simp only [hc, if_true, z, if_false]
  rw [decide_eq_false (fun h : RV a b => by
   obtain ⟨q1, q2, q3, q4, _⟩ := h
   rcases hc with hc | hc <;> omega)]
  exact Ev.pure _
 ·simp only [hc, if_false, if_true]
  have : (x == a && y == b) = decide (RV a b) := by
   rw [Bool.eq_iff_iff]
   simp only [Bool.and_eq_true, beq_iff_eq, decide_eq_true_eq]
   constructor
   ·rintro ⟨q1, q2⟩
    subst q1
    subst q2
    exact ⟨by omega, by omega, by omega, by omega, e5⟩
   ·intro h
    have h7 := e6 h
    exact ⟨by rw [← hx, h7], by rw [← hy, h7]⟩
  rw [this]
  exact Ev.pure _
def POk (p : PC) : Prop := RV p.f1.f0 p.f1.f1 ∧ RV p.f2.f0 p.f2.f1 ∧ p.f1.f1 ≤ 100 ∧ p.f2.f1 ≤ 100 ∧ -100000 ≤ p.f2.f0 ∧ p.f2.f0 ≤ 100000
theorem numbers_eq (p : PC) : piecewise_numbers.f p.f0 p.f1.f0 p.f1.f1 p.f2.f0 p.f2.f1 = some (decide (POk p)) := by
 unfold piecewise_numbers.f
 rw [rvalid_eq, rvalid_eq]
 simp only [Option.bind_some, decide_eq_true_eq]
 by_cases h1 : RV p.f1.f0 p.f1.f1
 case neg => rw [if_neg h1, decide_eq_false (fun h => h1 h.1)]
 by_cases h2 : RV p.f2.f0 p.f2.f1
 case neg => rw [if_pos h1, if_neg h2, decide_eq_false (fun h => h2 h.2.1)]
 by_cases h3 : p.f1.f1 ≤ 100
 case neg => rw [if_pos h1, if_pos h2, if_neg h3, decide_eq_false (fun h => h3 h.2.2.1)]
 by_cases h4 : p.f2.f1 ≤ 100
 case neg => rw [if_pos h1, if_pos h2, if_pos h3, if_neg h4, decide_eq_false (fun h => h4 h.2.2.2.1)]
 rw [if_pos h1, if_pos h2, if_pos h3, if_pos h4, mx_abs (by have := h2.2.2.1; omega) (by have := h2.2.2.2.1; omega)]
 congr 1
 rw [Bool.eq_iff_iff]
 simp only [decide_eq_true_eq]
 constructor
 ·intro h
  exact ⟨h1, h2, h3, h4, by omega, by omega⟩
 ·intro h
  have := h.2.2.2.2
  omega
theorem numB_eq (p : PC) : numB p = some (decide (POk p)) := numbers_eq p
abbrev pA (f : List PC) (i : Nat) : PC := rd_T51 f (i : Int)
def VOk (f : List PC) (i : Nat) : Prop := (0 < i → (pA f (i - 1)).f0 < (pA f i).f0) ∧ POk (pA f i)
structure FOk (f : List PC) : Prop where
 one : 1 ≤ f.length
 few : f.length ≤ 64
 zero : (pA f 0).f0 = 0
 ok : ∀ i, i < f.length → VOk f i
 end_ : (pA f (f.length - 1)).f0 ≤ 100000
theorem FOk.rise {f : List PC} (h : FOk f) : ∀ (d i : Nat), i + d < f.length → (pA f i).f0 + d ≤ (pA f (i + d)).f0
 | 0, i, _ => by simp
 | d + 1, i, hi => by
  have h1 := FOk.rise h d i (by omega)
  have h2 := (h.ok (i + (d + 1)) hi).1 (by omega)
  rw [show i + (d + 1) - 1 = i + d by omega] at h2
  omega
theorem FOk.lt {f : List PC} (h : FOk f) {i j : Nat} (hij : i < j) (hj : j < f.length) : (pA f i).f0 < (pA f j).f0 := by
 have := h.rise (j - i) i (by omega)
 rw [show i + (j - i) = j by omega] at this
 omega
theorem FOk.in_ {f : List PC} (h : FOk f) {i : Nat} (hi : i < f.length) : 0 ≤ (pA f i).f0 ∧ (pA f i).f0 ≤ 100000 := by
 have h1 := h.rise i 0 (by omega)
 have h2 := h.rise (f.length - 1 - i) i (by omega)
 rw [Nat.zero_add] at h1
 rw [show i + (f.length - 1 - i) = f.length - 1 by omega] at h2
 have := h.zero
 have := h.end_
 omega
theorem valid_l0 (f : List PC) (hB : f.length ≤ 64) : ∀ (d i k : Nat), i + d = f.length → d < k → piecewise_Valid.l0 k f f (f.length : Int) (i : Int) = some (decide (∀ j, i ≤ j → j < f.length → VOk f j)) := by
 intro d
 induction d with
 | zero =>
  intro i k hi hk
  obtain ⟨k, rfl⟩ : ∃ m, k = m + 1 := ⟨k - 1, by omega⟩
  have h1 : ¬ ((i : Int) < (f.length : Int)) := by omega
  simp only [piecewise_Valid.l0, h1, if_false]
  rw [decide_eq_true (fun j h2 h3 => by omega)]
 | succ d ih =>
  intro i k hi hk
  obtain ⟨k, rfl⟩ : ∃ m, k = m + 1 := ⟨k - 1, by omega⟩
  have h1 : (i : Int) < (f.length : Int) := by omega
  have h2 : 0 ≤ (i : Int) := by omega
  have hn := numbers_eq (pA f i)
  have hih := ih (i + 1) k (by omega) (by omega)
  have ew : wrap64 ((i : Int) + 1) = ((i + 1 : Nat) : Int) := by unfold wrap64; omega
  have key : (∀ j, i ≤ j → j < f.length → VOk f j) ↔ VOk f i ∧ ∀ j, i + 1 ≤ j → j < f.length → VOk f j := by
   constructor
   ·intro h
    exact ⟨h i (Nat.le_refl _) (by omega), fun j h3 h4 => h j (by omega) h4⟩
   ·rintro ⟨h3, h4⟩ j h5 h6
    rcases Nat.eq_or_lt_of_le h5 with rfl | h
    ·exact h3
    ·exact h4 j h h6
  by_cases hz : 0 < i
  ·have e3 : (i : Int) > 0 := by omega
   have e4 : wrap64 ((i : Int) - 1) = ((i - 1 : Nat) : Int) := by unfold wrap64; omega
   have e5 : 0 ≤ ((i - 1 : Nat) : Int) := by omega
   have e6 : ((i - 1 : Nat) : Int) < (f.length : Int) := by omega
   simp only [piecewise_Valid.l0, h1, h2, e3, e4, e5, e6, if_true]
   by_cases hle : (pA f i).f0 ≤ (pA f (i - 1)).f0
   ·rw [if_pos hle, decide_eq_false (fun h => by have := (h i (Nat.le_refl _) (by omega)).1 hz; omega)]
   ·rw [if_neg hle, hn, ew]
    simp only [Option.bind_some, decide_eq_true_eq]
    by_cases hp : POk (pA f i)
    ·rw [if_pos hp, hih]
     congr 1
     rw [decide_eq_decide]
     rw [key]
     exact ⟨fun h => ⟨⟨fun _ => by omega, hp⟩, h⟩, fun h => h.2⟩
    ·rw [if_neg hp, decide_eq_false (fun h => hp (h i (Nat.le_refl _) (by omega)).2)]
  ·have e3 : ¬ (i : Int) > 0 := by omega
   simp only [piecewise_Valid.l0, h1, h2, e3, if_true, if_false]
   rw [hn, ew]
   simp only [Option.bind_some, decide_eq_true_eq]
   by_cases hp : POk (pA f i)
   ·rw [if_pos hp, hih]
    congr 1
    rw [decide_eq_decide]
    rw [key]
    exact ⟨fun h => ⟨⟨fun h => absurd h hz, hp⟩, h⟩, fun h => h.2⟩
   ·rw [if_neg hp, decide_eq_false (fun h => hp (h i (Nat.le_refl _) (by omega)).2)]
theorem valid_eq (f : List PC) {k : Nat} (hk : 100 ≤ k) : piecewise_Valid.f k f = some (decide (FOk f)) := by
 obtain ⟨k, rfl⟩ : ∃ m, k = m + 1 := ⟨k - 1, by omega⟩
 unfold piecewise_Valid.f
 by_cases h1 : (f.length : Int) = 0
 ·rw [if_pos h1, decide_eq_false (fun h => by have := h.one; omega)]
  rfl
 rw [if_neg h1]
 by_cases h2 : (f.length : Int) > 64
 ·rw [if_pos h2, decide_eq_false (fun h => by have := h.few; omega)]
  rfl
 rw [if_neg h2, if_pos (by omega)]
 by_cases h3 : (rd_T51 f 0).f0 = 0
 case neg =>
  rw [if_neg h3, decide_eq_false (fun h => h3 h.zero)]
  rfl
 have e4 : wrap64 ((f.length : Int) - 1) = ((f.length - 1 : Nat) : Int) := by unfold wrap64; omega
 rw [if_pos h3, e4, if_pos (by omega), if_pos (by omega)]
 by_cases h4 : (pA f (f.length - 1)).f0 > 100000
 ·rw [decide_eq_true h4, decide_eq_false (fun h => by have := h.end_; omega)]
  rfl
 ·rw [decide_eq_false h4]
  show piecewise_Valid.j0 (k + 1) f false = _
  simp only [piecewise_Valid.j0, Bool.false_eq_true, if_false]
  have := valid_l0 f (by omega) f.length 0 k (by omega) (by omega)
  rw [show ((0 : Nat) : Int) = 0 from rfl] at this
  rw [this]
  congr 1
  rw [decide_eq_decide]
  constructor
  ·intro h
   exact ⟨by omega, by omega, h3, fun i hi => h i (Nat.zero_le _) hi, by omega⟩
  ·intro h j _ hj
   exact h.ok j hj
def VOr (f : List PC) (i : Nat) : Prop := ((0 < i → (pA f (i - 1)).f0 < (pA f i).f0) ∧ (pA f i).f0 ≤ 100000) ∧ POk (pA f i)
theorem rvalid_j2 (f : List PC) (hI : ∀ p ∈ f, IBP p) (i : Nat) (hi : i < f.length) (hB : f.length ≤ 64) (r : Bool) (hr : Ev (fun k => cohousingref05_Valid.l0 k f ((i + 1 : Nat) : Int)) r) : Ev (fun k => cohousingref05_Valid.j2 k f (i : Int) false) (decide (POk (pA f i)) && r) := by
 have hib : IBP (pA f i) := by
  have e : pA f i = f[i] := by simp [pA, rd_T51, List.getD_eq_getElem?_getD, hi]
  rw [e]
  exact hI _ (List.getElem_mem hi)
 have h1 : (i : Int) < (f.length : Int) := by omega
 have h2 : 0 ≤ (i : Int) := by omega
 have ew : wrap64 ((i : Int) + 1) = ((i + 1 : Nat) : Int) := by unfold wrap64; omega
 refine Ev.step ?_
 simp only [cohousingref05_Valid.j2, Bool.false_eq_true, if_false, h1, h2, if_true, ew]
 refine Ev.bnd (rv_ref hib.2.1.1 hib.2.1.2) ?_
 refine Ev.bnd (rv_ref hib.2.2.1 hib.2.2.2) ?_
 simp only [decide_eq_true_eq]
 by_cases c1 : RV (pA f i).f1.f0 (pA f i).f1.f1
 case neg =>
  rw [decide_eq_false (fun h : POk _ => c1 h.1)]
  exact Ev.congr (fun k => if_neg c1) (Ev.pure _)
 refine Ev.congr (fun k => if_pos c1) ?_
 by_cases c2 : RV (pA f i).f2.f0 (pA f i).f2.f1
 case neg =>
  rw [decide_eq_false (fun h : POk _ => c2 h.2.1)]
  exact Ev.congr (fun k => if_neg c2) (Ev.pure _)
 refine Ev.congr (fun k => if_pos c2) ?_
 by_cases c3 : (pA f i).f1.f1 > 100
 ·rw [decide_eq_false (fun h : POk _ => by have := h.2.2.1; omega)]
  exact Ev.congr (fun k => if_pos c3) (Ev.pure _)
 refine Ev.congr (fun k => if_neg c3) ?_
 by_cases c4 : (pA f i).f2.f1 > 100
 ·rw [decide_eq_false (fun h : POk _ => by have := h.2.2.2.1; omega)]
  exact Ev.congr (fun k => if_pos c4) (Ev.pure _)
 refine Ev.congr (fun k => if_neg c4) ?_
 by_cases c5 : (pA f i).f2.f0 > 100000
 ·rw [decide_eq_false (fun h : POk _ => by have := h.2.2.2.2.2; omega)]
  exact Ev.congr (fun k => if_pos c5) (Ev.pure _)
 refine Ev.congr (fun k => if_neg c5) ?_
 by_cases c6 : (pA f i).f2.f0 < -100000
 ·rw [decide_eq_false (fun h : POk _ => by have := h.2.2.2.2.1; omega)]
  exact Ev.congr (fun k => if_pos c6) (Ev.pure _)
 refine Ev.congr (fun k => if_neg c6) ?_
 rw [decide_eq_true (show POk (pA f i) from ⟨c1, c2, by omega, by omega, by omega, by omega⟩), Bool.true_and]
 exact hr
theorem rvalid_l0 (f : List PC) (hI : ∀ p ∈ f, IBP p) (hB : f.length ≤ 64) : ∀ (d i : Nat), i + d = f.length → Ev (fun k => cohousingref05_Valid.l0 k f (i : Int)) (decide (∀ j, i ≤ j → j < f.length → VOr f j)) := by
 intro d
 induction d with
 | zero =>
  intro i hi
  have h1 : ¬ ((i : Int) < (f.length : Int)) := by omega
  refine Ev.step ?_
  simp only [cohousingref05_Valid.l0, h1, if_false]
  rw [decide_eq_true (fun j h2 h3 => by omega)]
  exact Ev.pure _
 | succ d ih =>
  intro i hi
  have h1 : (i : Int) < (f.length : Int) := by omega
  have h2 : 0 ≤ (i : Int) := by omega
  have hih := rvalid_j2 f hI i (by omega) hB _ (ih (i + 1) (by omega))
  have key : (∀ j, i ≤ j → j < f.length → VOr f j) ↔ VOr f i ∧ ∀ j, i + 1 ≤ j → j < f.length → VOr f j := by
   constructor
   ·intro h
    exact ⟨h i (Nat.le_refl _) (by omega), fun j h3 h4 => h j (by omega) h4⟩
   ·rintro ⟨h3, h4⟩ j h5 h6
    rcases Nat.eq_or_lt_of_le h5 with rfl | h
    ·exact h3
    ·exact h4 j h h6
  have bad : (¬ ((0 < i → (pA f (i - 1)).f0 < (pA f i).f0) ∧ (pA f i).f0 ≤ 100000)) → Ev (fun k => cohousingref05_Valid.j2 k f (i : Int) true) (decide (∀ j, i ≤ j → j < f.length → VOr f j)) := fun hb => by
   refine Ev.step ?_
   simp only [cohousingref05_Valid.j2, if_true]
   rw [decide_eq_false (fun h => hb (h i (Nat.le_refl _) (by omega)).1)]
   exact Ev.pure _
  have good : ((0 < i → (pA f (i - 1)).f0 < (pA f i).f0) ∧ (pA f i).f0 ≤ 100000) → Ev (fun k => cohousingref05_Valid.j2 k f (i : Int) false) (decide (∀ j, i ≤ j → j < f.length → VOr f j)) := fun hb => by
   have e : decide (∀ j, i ≤ j → j < f.length → VOr f j) = (decide (POk (pA f i)) && decide (∀ j, i + 1 ≤ j → j < f.length → VOr f j)) := by
    rw [Bool.eq_iff_iff]
    simp only [Bool.and_eq_true, decide_eq_true_eq]
    rw [key]
    exact ⟨fun h => ⟨h.1.2, h.2⟩, fun h => ⟨⟨hb, h.1⟩, h.2⟩⟩
   rw [e]
   exact hih
  refine Ev.step ?_
  by_cases hz : 0 < i
  ·have e3 : (i : Int) > 0 := by omega
   have e4 : wrap64 ((i : Int) - 1) = ((i - 1 : Nat) : Int) := by unfold wrap64; omega
   have e5 : 0 ≤ ((i - 1 : Nat) : Int) := by omega
   have e6 : ((i - 1 : Nat) : Int) < (f.length : Int) := by omega
   simp only [cohousingref05_Valid.l0, h1, h2, e3, e4, e5, e6, if_true]
   by_cases hle : (pA f i).f0 ≤ (pA f (i - 1)).f0
   ·refine Ev.congr (fun k => if_pos hle) (bad (fun h => by have := h.1 hz; omega))
   ·refine Ev.congr (fun k => if_neg hle) ?_
    by_cases hm : (pA f i).f0 > 100000
    ·rw [decide_eq_true hm]
     exact bad (fun h => by omega)
    ·rw [decide_eq_false hm]
     exact good ⟨fun _ => by omega, by omega⟩
  ·have e3 : ¬ (i : Int) > 0 := by omega
   simp only [cohousingref05_Valid.l0, h1, h2, e3, if_true, if_false]
   by_cases hm : (pA f i).f0 > 100000
   ·rw [decide_eq_true hm]
    exact bad (fun h => by omega)
   ·rw [decide_eq_false hm]
    exact good ⟨fun h => absurd h hz, by omega⟩
theorem rvalid_ev (f : List PC) (hI : ∀ p ∈ f, IBP p) : Ev (fun k => cohousingref05_Valid.f k f) (decide (FOk f)) := by
 unfold cohousingref05_Valid.f
 have bad : ¬ FOk f → Ev (fun k => cohousingref05_Valid.j0 k f true) (decide (FOk f)) := fun hb => by
  refine Ev.step ?_
  simp only [cohousingref05_Valid.j0, if_true]
  rw [decide_eq_false hb]
  exact Ev.pure _
 by_cases h1 : (f.length : Int) < 1
 ·exact Ev.congr (fun k => if_pos h1) (bad (fun h => by have := h.one; omega))
 refine Ev.congr (fun k => if_neg h1) ?_
 by_cases h2 : (f.length : Int) > 64
 ·exact Ev.congr (fun k => if_pos h2) (bad (fun h => by have := h.few; omega))
 refine Ev.congr (fun k => if_neg h2) (Ev.congr (fun k => if_pos (by omega)) ?_)
 by_cases h3 : (rd_T51 f 0).f0 = 0
 case neg =>
  rw [show ((rd_T51 f 0).f0 != 0) = true by simpa using h3]
  exact bad (fun h => h3 h.zero)
 rw [show ((rd_T51 f 0).f0 != 0) = false by simpa using h3]
 refine Ev.step ?_
 simp only [cohousingref05_Valid.j0, Bool.false_eq_true, if_false]
 have := rvalid_l0 f hI (by omega) f.length 0 (by omega)
 have e : decide (FOk f) = decide (∀ j, 0 ≤ j → j < f.length → VOr f j) := by
  rw [decide_eq_decide]
  constructor
  ·intro h j _ hj
   exact ⟨⟨(h.ok j hj).1, (h.in_ hj).2⟩, (h.ok j hj).2⟩
  ·intro h
   exact ⟨by omega, by omega, h3, fun i hi => ⟨(h i (Nat.zero_le _) hi).1.1, (h i (Nat.zero_le _) hi).2⟩, (h (f.length - 1) (Nat.zero_le _) (by omega)).1.2⟩
 rw [e]
 exact this
end Go.Proofs.Ytmhimmodigeeiaa.P
end
section
namespace Go.Proofs.Ytmhimmodigeeiaa.P
open Go.RowKit Go.Proofs.YtmhimmodigeeiaaW.PrintWords Go.Proofs.YtmhimmodigeeiaaW.PrintLast Go.Proofs.YtmhimmodigeeiaaW.PrintMore
set_option linter.unusedVariables false
set_option linter.unusedSimpArgs false
open Classical
theorem mul_in {a b A B : Int} (h1 : -A ≤ a) (h2 : a ≤ A) (h3 : -B ≤ b) (h4 : b ≤ B) : -(A * B) ≤ a * b ∧ a * b ≤ A * B := by
 have e1 : a.natAbs ≤ A.natAbs := by omega
 have e2 : b.natAbs ≤ B.natAbs := by omega
 have e3 := Nat.mul_le_mul e1 e2
 rw [← Int.natAbs_mul, ← Int.natAbs_mul] at e3
 have e4 : 0 ≤ A * B := Int.mul_nonneg (by omega) (by omega)
 omega
theorem mul_pos_in {a b A B : Int} (h1 : 1 ≤ a) (h2 : a ≤ A) (h3 : 1 ≤ b) (h4 : b ≤ B) : 1 ≤ a * b ∧ a * b ≤ A * B := by
 have h5 := Int.mul_pos (show 0 < a by omega) (show 0 < b by omega)
 have h6 := (mul_in (show -A ≤ a by omega) h2 (show -B ≤ b by omega) h4).2
 exact ⟨by omega, h6⟩
def num (l : LN) (x : Int) : Int := l.n + l.s * (x - l.fr)
structure LB (l : LN) : Prop where
 n1 : -100000000000 ≤ l.n
 n2 : l.n ≤ 100000000000
 s1 : -10000000 ≤ l.s
 s2 : l.s ≤ 10000000
 d1 : 1 ≤ l.d
 d2 : l.d ≤ 10000
 f1 : 0 ≤ l.fr
 f2 : l.fr ≤ 100000
structure WB (l : LN) : Prop where
 n1 : -25000000000000000 ≤ l.n
 n2 : l.n ≤ 25000000000000000
 s1 : -210000000000 ≤ l.s
 s2 : l.s ≤ 210000000000
 d1 : 1 ≤ l.d
 d2 : l.d ≤ 100000000
 f1 : 0 ≤ l.fr
 f2 : l.fr ≤ 100000
theorem LB.w {l : LN} (h : LB l) : WB l := by
 obtain ⟨h1, h2, h3, h4, h5, h6, h7, h8⟩ := h
 constructor <;> omega
theorem LB.num_in {l : LN} (h : LB l) {x : Int} (h0 : 0 ≤ x) (h1 : x ≤ 100001) : -1200000000000 ≤ num l x ∧ num l x ≤ 1200000000000 := by
 have h2 := mul_in h.s1 h.s2 (show -100001 ≤ x - l.fr by have := h.f1; have := h.f2; omega) (show x - l.fr ≤ 100001 by have := h.f1; omega)
 have := h.n1
 have := h.n2
 unfold num
 omega
theorem WB.num_in {l : LN} (h : WB l) {x : Int} (h0 : 0 ≤ x) (h1 : x ≤ 100001) : -50000000000000000 ≤ num l x ∧ num l x ≤ 50000000000000000 := by
 have h2 := mul_in h.s1 h.s2 (show -100001 ≤ x - l.fr by have := h.f1; have := h.f2; omega) (show x - l.fr ≤ 100001 by have := h.f1; omega)
 have := h.n1
 have := h.n2
 unfold num
 omega
theorem atL_eq {l : LN} (h : WB l) {x : Int} (h0 : 0 ≤ x) (h1 : x ≤ 100001) : atL l x = num l x := by
 have h2 := mul_in h.s1 h.s2 (show -100001 ≤ x - l.fr by have := h.f1; have := h.f2; omega) (show x - l.fr ≤ 100001 by have := h.f1; omega)
 have h3 := h.num_in h0 h1
 unfold num at h3 ⊢
 have h4 := h.f1
 have h5 := h.f2
 unfold atL
 rw [wrap_id (n := x - l.fr) (by omega) (by omega), wrap_id (n := l.s * (x - l.fr)) (by omega) (by omega), wrap_id (by omega) (by omega)]
theorem lessB_eq {l m : LN} (hl : LB l) (hm : LB m) {x : Int} (h0 : 0 ≤ x) (h1 : x ≤ 100001) : lessB l m x = decide (num l x * m.d < num m x * l.d) := by
 have a1 := hl.num_in h0 h1
 have a2 := hm.num_in h0 h1
 have b1 := mul_in a1.1 a1.2 (show -10000 ≤ m.d by have := hm.d1; omega) hm.d2
 have b2 := mul_in a2.1 a2.2 (show -10000 ≤ l.d by have := hl.d1; omega) hl.d2
 unfold lessB
 rw [atL_eq hl.w h0 h1, atL_eq hm.w h0 h1, wrap_id (by omega) (by omega), wrap_id (by omega) (by omega)]
theorem lineL_eq {p : PC} (h : POk p) : lineL p = ⟨p.f1.f0 * p.f2.f1, p.f2.f0 * p.f1.f1, p.f1.f1 * p.f2.f1, p.f0⟩ := by
 obtain ⟨⟨a1, a2, a3, a4, a5⟩, ⟨b1, b2, b3, b4, b5⟩, c1, c2, c3, c4⟩ := h
 have e1 := mul_in a3 a4 (show -100 ≤ p.f2.f1 by omega) c2
 have e2 := mul_in c3 c4 (show -100 ≤ p.f1.f1 by omega) c1
 have e3 := mul_pos_in a1 c1 b1 c2
 unfold lineL
 rw [wrap_id (by omega) (by omega), wrap_id (by omega) (by omega), wrap_id (by omega) (by omega)]
theorem lineL_LB {p : PC} (h : POk p) (h0 : 0 ≤ p.f0) (h1 : p.f0 ≤ 100000) : LB (lineL p) := by
 rw [lineL_eq h]
 obtain ⟨⟨a1, a2, a3, a4, a5⟩, ⟨b1, b2, b3, b4, b5⟩, c1, c2, c3, c4⟩ := h
 have e1 := mul_in a3 a4 (show -100 ≤ p.f2.f1 by omega) c2
 have e2 := mul_in c3 c4 (show -100 ≤ p.f1.f1 by omega) c1
 have e3 := mul_pos_in a1 c1 b1 c2
 refine ⟨?_, ?_, ?_, ?_, ?_, ?_, ?_, ?_⟩ <;> dsimp only <;> omega
def pc (l : LN) (x : Int) : PC := ⟨x, ⟨(red (num l x) l.d).1, (red (num l x) l.d).2⟩, ⟨(red l.s l.d).1, (red l.s l.d).2⟩⟩
def same (l m : LN) : Prop := ∀ x, num l x * m.d = num m x * l.d
theorem num_at (l : LN) (x y : Int) : num l y = num l x + l.s * (y - x) := by
 unfold num
 rw [show y - l.fr = (x - l.fr) + (y - x) by omega, Int.mul_add]
 omega
theorem same_of {l m : LN} {x : Int} (h1 : num l x * m.d = num m x * l.d) (h2 : l.s * m.d = m.s * l.d) : same l m := by
 intro y
 rw [num_at l x y, num_at m x y, Int.add_mul, Int.add_mul, h1]
 have e1 : l.s * (y - x) * m.d = l.s * m.d * (y - x) := by rw [Int.mul_assoc, Int.mul_comm (y - x), ← Int.mul_assoc]
 have e2 : m.s * (y - x) * l.d = m.s * l.d * (y - x) := by rw [Int.mul_assoc, Int.mul_comm (y - x), ← Int.mul_assoc]
 rw [e1, e2, h2]
theorem same_slope {l m : LN} (h : same l m) : l.s * m.d = m.s * l.d := by
 have h0 := h 0
 have h1 := h 1
 rw [num_at l 0 1, num_at m 0 1, Int.add_mul, Int.add_mul] at h1
 simp only [Int.sub_zero, Int.mul_one] at h1
 omega
theorem rat_ext {a b : RT} (h0 : a.f0 = b.f0) (h1 : a.f1 = b.f1) : a = b := by
 cases a; cases b; simp_all
theorem pc_ext {p q : PC} (h0 : p.f0 = q.f0) (h1 : p.f1 = q.f1) (h2 : p.f2 = q.f2) : p = q := by
 cases p; cases q; simp_all
theorem pc_iff {l m : LN} (hl : 0 < l.d) (hm : 0 < m.d) (x : Int) : pc l x = pc m x ↔ same l m := by
 constructor
 ·intro h
  have h1 : red (num l x) l.d = red (num m x) m.d := Prod.ext (congrArg (fun p : PC => p.f1.f0) h) (congrArg (fun p : PC => p.f1.f1) h)
  have h2 : red l.s l.d = red m.s m.d := Prod.ext (congrArg (fun p : PC => p.f2.f0) h) (congrArg (fun p : PC => p.f2.f1) h)
  exact same_of ((red_iff hl hm).1 h1) ((red_iff hl hm).1 h2)
 ·intro h
  unfold pc
  rw [(red_iff hl hm).2 (h x), (red_iff hl hm).2 (same_slope h)]
theorem same_symm {l m : LN} (h : same l m) : same m l := fun x => (h x).symm
theorem same_trans {l m n : LN} (hm : 0 < m.d) (h1 : same l m) (h2 : same m n) : same l n := by
 intro x
 apply Int.eq_of_mul_eq_mul_right (a := m.d) (by omega)
 calc num l x * n.d * m.d = num l x * m.d * n.d := by rw [Int.mul_assoc, Int.mul_comm n.d, ← Int.mul_assoc]
  _ = num m x * l.d * n.d := by rw [h1 x]
  _ = num m x * n.d * l.d := by rw [Int.mul_assoc, Int.mul_comm l.d, ← Int.mul_assoc]
  _ = num n x * m.d * l.d := by rw [h2 x]
  _ = num n x * l.d * m.d := by rw [Int.mul_assoc, Int.mul_comm m.d, ← Int.mul_assoc]
theorem eqP_iff (p q : PC) : eqP p q = true ↔ p = q := by
 unfold eqP
 simp only [Bool.and_eq_true, beq_iff_eq]
 constructor
 ·rintro ⟨h0, ⟨h1, h2⟩, h3, h4⟩
  exact pc_ext h0 (rat_ext h1 h2) (rat_ext h3 h4)
 ·rintro rfl
  simp
theorem pieceO_eq {l : LN} (h : WB l) {x : Int} (h0 : 0 ≤ x) (h1 : x ≤ 100001) : pieceO kP l x = some (pc l x) := by
 have hk := kP_lt
 have h2 := h.num_in h0 h1
 have h3 := h.d1
 have h4 := h.d2
 have h5 := h.s1
 have h6 := h.s2
 have ea : wrap64 (l.n + wrap64 (l.s * wrap64 (x - l.fr))) = num l x := atL_eq h h0 h1
 unfold pieceO piecewise_line_piece.f piecewise_line_at.f
 rw [ea]
 clear ea
 simp only [Option.bind_some]
 rw [lowest_eq (by omega) (by omega) (by omega) (by omega) (by omega), lowest_eq (by omega) (by omega) (by omega) (by omega) (by omega)]
 rfl
noncomputable def stepB (b : BD) (e : LN × Int) : BD := if b.out = [] ∨ ¬ same b.last e.1 then ⟨e.1, b.out ++ [pc e.1 e.2], b.bad || !decide (POk (pc e.1 e.2))⟩ else ⟨e.1, b.out, b.bad⟩
theorem putO_eq {b : BD} {l : LN} {x : Int} (hl : WB l) (h0 : 0 ≤ x) (h1 : x ≤ 100001) (hb : b.out ≠ [] → WB b.last) : putO kP b l x = some (stepB b (l, x)) := by
 unfold putO stepB
 rw [pieceO_eq hl h0 h1]
 simp only [Option.bind_some, numB_eq]
 by_cases hz : b.out = []
 ·rw [if_pos (by rw [hz]; rfl), if_pos (.inl hz)]
 ·rw [if_neg (fun h => hz (List.eq_nil_of_length_eq_zero h)), pieceO_eq (hb hz) h0 h1]
  simp only [Option.bind_some]
  have hd1 := hl.d1
  have hd2 := (hb hz).d1
  by_cases hs : same b.last l
  ·rw [if_pos ((eqP_iff _ _).2 ((pc_iff (by omega) (by omega) x).2 (same_symm hs))), if_neg (fun h => h.elim hz (fun h => h hs))]
  ·rw [if_neg (fun h => hs (same_symm ((pc_iff (by omega) (by omega) x).1 ((eqP_iff _ _).1 h)))), if_pos (.inr hs)]
noncomputable def outM : Option LN → List (LN × Int) → List PC
 | _, [] => []
 | none, e :: t => pc e.1 e.2 :: outM (some e.1) t
 | some m, e :: t => (if same m e.1 then [] else [pc e.1 e.2]) ++ outM (some e.1) t
noncomputable def resS (out : List PC) : List PC × Int := if ∃ p, p ∈ out ∧ ¬ POk p then ([], 3) else if 64 < out.length then ([], 2) else (out, 0)
def lastB (b : BD) : Option LN := if b.out = [] then none else some b.last
theorem foldB_eq : ∀ (es : List (LN × Int)) (b : BD), (es.foldl stepB b).out = b.out ++ outM (lastB b) es ∧ ((es.foldl stepB b).bad = true ↔ b.bad = true ∨ ∃ p, p ∈ outM (lastB b) es ∧ ¬ POk p)
 | [], b => by simp [outM]
 | e :: t, b => by
  have ih := foldB_eq t (stepB b e)
  rw [List.foldl_cons]
  by_cases hz : b.out = []
  ·have e1 : stepB b e = ⟨e.1, b.out ++ [pc e.1 e.2], b.bad || !decide (POk (pc e.1 e.2))⟩ := if_pos (.inl hz)
   have e2 : lastB (stepB b e) = some e.1 := by rw [e1]; unfold lastB; simp
   rw [e2] at ih
   have e3 : lastB b = none := if_pos hz
   rw [ih.1, ih.2, e1, e3]
   simp [outM, or_assoc]
  ·have e3 : lastB b = some b.last := if_neg hz
   by_cases hs : same b.last e.1
   ·have e1 : stepB b e = ⟨e.1, b.out, b.bad⟩ := if_neg (fun h => h.elim hz (fun h => h hs))
    have e2 : lastB (stepB b e) = some e.1 := by rw [e1]; exact if_neg hz
    rw [e2] at ih
    rw [ih.1, ih.2, e1, e3]
    simp [outM, hs]
   ·have e1 : stepB b e = ⟨e.1, b.out ++ [pc e.1 e.2], b.bad || !decide (POk (pc e.1 e.2))⟩ := if_pos (.inr hs)
    have e2 : lastB (stepB b e) = some e.1 := by rw [e1]; unfold lastB; simp
    rw [e2] at ih
    rw [ih.1, ih.2, e1, e3]
    simp [outM, hs, or_assoc]
theorem resO_eq (es : List (LN × Int)) : resO (es.foldl stepB b00) = resS (outM none es) := by
 obtain ⟨h1, h2⟩ := foldB_eq es b00
 have e3 : lastB b00 = none := rfl
 rw [e3] at h1 h2
 have h3 : b00.out = [] := rfl
 have h4 : b00.bad = false := rfl
 rw [h3, List.nil_append] at h1
 rw [h4] at h2
 unfold resO resS
 rw [h1]
 by_cases hb : ∃ p, p ∈ outM none es ∧ ¬ POk p
 ·rw [if_pos (h2.2 (.inr hb)), if_pos hb]
 ·rw [if_neg (fun h => by rcases h2.1 h with h | h; cases h; exact hb h), if_neg hb]
end Go.Proofs.Ytmhimmodigeeiaa.P
end
section
namespace Go.Proofs.Ytmhimmodigeeiaa.P
open Go.RowKit Go.Proofs.YtmhimmodigeeiaaW.PrintWords Go.Proofs.YtmhimmodigeeiaaW.PrintLast Go.Proofs.YtmhimmodigeeiaaW.PrintMore
set_option linter.unusedVariables false
set_option linter.unusedSimpArgs false
open Classical
structure PB (p : PC) : Prop where
 v1 : -1200000000000 ≤ p.f1.f0
 v2 : p.f1.f0 ≤ 1200000000000
 w1 : 1 ≤ p.f1.f1
 w2 : p.f1.f1 ≤ 10000
 s1 : -10000000 ≤ p.f2.f0
 s2 : p.f2.f0 ≤ 10000000
 t1 : 1 ≤ p.f2.f1
 t2 : p.f2.f1 ≤ 10000
def pl (p : PC) : LN := ⟨p.f1.f0 * p.f2.f1, p.f2.f0 * p.f1.f1, p.f1.f1 * p.f2.f1, p.f0⟩
theorem lineL_pl {p : PC} (h : POk p) : lineL p = pl p := lineL_eq h
theorem line_ev {p : PC} (h : PB p) {x : Int} (h0 : -100001 ≤ x - p.f0) (h1 : x - p.f0 ≤ 100001) : Ev (fun k => cohousingref05_Line.f k p.f0 p.f1.f0 p.f1.f1 p.f2.f0 p.f2.f1 x) (red (num (pl p) x) (pl p).d) := by
 obtain ⟨a1, a2, a3, a4, a5, a6, a7, a8⟩ := h
 have e1 := mul_in a1 a2 (show -10000 ≤ p.f2.f1 by omega) a8
 have e2 := mul_in a5 a6 h0 h1
 have e3 := mul_in e2.1 e2.2 (show -10000 ≤ p.f1.f1 by omega) a4
 have e4 := mul_pos_in a3 a4 a7 a8
 have en : num (pl p) x = p.f1.f0 * p.f2.f1 + p.f2.f0 * (x - p.f0) * p.f1.f1 := by
  unfold num pl
  dsimp only
  rw [Int.mul_assoc p.f2.f0, Int.mul_comm p.f1.f1, ← Int.mul_assoc]
 unfold cohousingref05_Line.f
 rw [wrap_id (n := x - p.f0) (by omega) (by omega), wrap_id (n := p.f1.f0 * p.f2.f1) (by omega) (by omega), wrap_id (n := p.f2.f0 * (x - p.f0)) (by omega) (by omega), wrap_id (n := p.f2.f0 * (x - p.f0) * p.f1.f1) (by omega) (by omega), wrap_id (n := p.f1.f1 * p.f2.f1) (by omega) (by omega), wrap_id (by omega) (by omega), ← en]
 refine Ev.bnd (reduce_ev (show 0 < (pl p).d by show 0 < p.f1.f1 * p.f2.f1; omega) (show p.f1.f1 * p.f2.f1 ≤ _ by omega) (by rw [en]; omega) (by rw [en]; omega)) ?_
 exact Ev.pure _
theorem same_pl {l : LN} (hd : 0 < l.d) (x : Int) : same (pl (pc l x)) l := by
 have c1 := red_cross (n := num l x) (d := l.d)
 have c2 := red_cross (n := l.s) (d := l.d)
 refine same_of (x := x) ?_ ?_
 ·have e : num (pl (pc l x)) x = (red (num l x) l.d).1 * (red l.s l.d).2 := by
   unfold num
   show _ + _ * (x - x) = _
   rw [Int.sub_self, Int.mul_zero, Int.add_zero]
   rfl
  rw [e]
  show _ * l.d = num l x * ((red (num l x) l.d).2 * (red l.s l.d).2)
  rw [← Int.mul_assoc, ← c1, Int.mul_assoc, Int.mul_comm (red l.s l.d).2, ← Int.mul_assoc]
 ·show (red l.s l.d).1 * (red (num l x) l.d).2 * l.d = l.s * ((red (num l x) l.d).2 * (red l.s l.d).2)
  rw [Int.mul_comm (red (num l x) l.d).2 (red l.s l.d).2, ← Int.mul_assoc, ← c2]
  rw [Int.mul_assoc, Int.mul_comm (red (num l x) l.d).2, ← Int.mul_assoc]
theorem pl_pos {l : LN} (hd : 0 < l.d) (x : Int) : 0 < (pl (pc l x)).d := Int.mul_pos (red_den hd) (red_den hd)
theorem cont_ev {m l : LN} {x0 x : Int} (hm : 0 < m.d) (hl : 0 < l.d) (hP : PB (pc m x0)) (h0 : -100001 ≤ x - x0) (h1 : x - x0 ≤ 100001) :
  Ev (fun k => cohousingref05_continues.f k (pc m x0).f0 (pc m x0).f1.f0 (pc m x0).f1.f1 (pc m x0).f2.f0 (pc m x0).f2.f1 (pc l x).f0 (pc l x).f1.f0 (pc l x).f1.f1 (pc l x).f2.f0 (pc l x).f2.f1) (decide (same m l)) := by
 have hline := line_ev hP (x := x) h0 h1
 have hv : red (num (pl (pc m x0)) x) (pl (pc m x0)).d = red (num m x) m.d := (red_iff (pl_pos hm x0) hm).2 (same_pl hm x0 x)
 rw [hv] at hline
 unfold cohousingref05_continues.f
 by_cases hs : red m.s m.d = red l.s l.d
 ·have e1 : ((pc m x0).f2.f0 == (pc l x).f2.f0 && (pc m x0).f2.f1 == (pc l x).f2.f1) = true := by
   show ((red m.s m.d).1 == (red l.s l.d).1 && (red m.s m.d).2 == (red l.s l.d).2) = true
   rw [hs]
   simp
  simp only [e1, if_true]
  refine Ev.bnd hline ?_
  have e2 : ((red (num m x) m.d).1 == (pc l x).f1.f0 && (red (num m x) m.d).2 == (pc l x).f1.f1) = decide (same m l) := by
   rw [Bool.eq_iff_iff]
   simp only [Bool.and_eq_true, beq_iff_eq, decide_eq_true_eq]
   constructor
   ·rintro ⟨g1, g2⟩
    exact same_of ((red_iff hm hl).1 (Prod.ext g1 g2)) ((red_iff hm hl).1 hs)
   ·intro h
    have := (red_iff hm hl).2 (h x)
    show _ = (red (num l x) l.d).1 ∧ _ = (red (num l x) l.d).2
    rw [this]
    exact ⟨rfl, rfl⟩
  rw [e2]
  exact Ev.pure _
 ·have e1 : ((pc m x0).f2.f0 == (pc l x).f2.f0 && (pc m x0).f2.f1 == (pc l x).f2.f1) = false := by
   rw [Bool.eq_false_iff]
   simp only [ne_eq, Bool.and_eq_true, beq_iff_eq]
   rintro ⟨g1, g2⟩
   exact hs (Prod.ext g1 g2)
  simp only [e1, Bool.false_eq_true, if_false]
  rw [decide_eq_false (fun h => hs ((red_iff hm hl).2 (same_slope h)))]
  exact Ev.pure _
theorem pA_mem {f : List PC} {i : Nat} (h : i < f.length) : pA f i ∈ f := by
 have e : pA f i = f[i] := by simp [pA, rd_T51, List.getD_eq_getElem?_getD, h]
 rw [e]
 exact List.getElem_mem h
theorem pA_get {f : List PC} {i : Nat} (h : i < f.length) : pA f i = f[i] := by simp [pA, rd_T51, List.getD_eq_getElem?_getD, h]
def EOk (e : LN × Int) : Prop := WB e.1 ∧ 0 ≤ e.2 ∧ e.2 ≤ 100000
def pcs (es : List (LN × Int)) : List PC := es.map (fun e => pc e.1 e.2)
end Go.Proofs.Ytmhimmodigeeiaa.P
end
section
namespace Go.Proofs.Ytmhimmodigeeiaa.P
open Go.RowKit Go.Proofs.YtmhimmodigeeiaaW.PrintWords Go.Proofs.YtmhimmodigeeiaaW.PrintLast Go.Proofs.YtmhimmodigeeiaaW.PrintMore
set_option linter.unusedVariables false
set_option linter.unusedSimpArgs false
open Classical
def atI (f : List PC) (x : Int) (i : Nat) : Prop := i < f.length ∧ (pA f i).f0 ≤ x ∧ (i + 1 < f.length → x < (pA f (i + 1)).f0)
theorem ex_at {f : List PC} (hf : FOk f) {x : Int} (h0 : 0 ≤ x) : ∃ i, atI f x i := by
 have key : ∀ n, n + 1 ≤ f.length → (∃ i, atI f x i) ∨ (pA f n).f0 ≤ x := by
  intro n
  induction n with
  | zero =>
   intro hn
   exact .inr (by have := hf.zero; omega)
  | succ n ih =>
   intro hn
   rcases ih (by omega) with h | h
   ·exact .inl h
   ·by_cases hx : (pA f (n + 1)).f0 ≤ x
    ·exact .inr hx
    ·exact .inl ⟨n, by omega, h, fun _ => by omega⟩
 have := hf.one
 rcases key (f.length - 1) (by omega) with h | h
 ·exact h
 ·exact ⟨f.length - 1, by omega, h, fun h2 => by omega⟩
theorem at_le {f : List PC} (hf : FOk f) {x : Int} {i n : Nat} (h : atI f x i) (hn : n < f.length) : (pA f n).f0 ≤ x ↔ n ≤ i := by
 constructor
 ·intro hx
  rcases Nat.lt_or_ge i n with h1 | h1
  ·have h2 := h.2.2 (by omega)
   rcases Nat.eq_or_lt_of_le (show i + 1 ≤ n from h1) with e | h3
   ·rw [e] at h2; omega
   ·have := hf.lt h3 hn
    omega
  ·exact h1
 ·intro h1
  rcases Nat.eq_or_lt_of_le h1 with e | h2
  ·rw [e]; exact h.2.1
  ·have := hf.lt h2 h.1
   have := h.2.1
   omega
theorem piece_l0 (f : List PC) (hf : FOk f) {x : Int} {i : Nat} (h : atI f x i) : ∀ (d n : Nat) (c : PC), n + d = f.length → (i < n → c = pA f i) → Ev (fun k => cohousingref05_Piece.l0 k f x (n : Int) c.f0 c.f1.f0 c.f1.f1 c.f2.f0 c.f2.f1) ((pA f i).f0, (pA f i).f1.f0, (pA f i).f1.f1, (pA f i).f2.f0, (pA f i).f2.f1) := by
 have hfew := hf.few
 intro d
 induction d with
 | zero =>
  intro n c hn hc
  have h1 : ¬ ((n : Int) < (f.length : Int)) := by omega
  refine Ev.step ?_
  simp only [cohousingref05_Piece.l0, h1, if_false]
  rw [hc (by have := h.1; omega)]
  exact Ev.pure _
 | succ d ih =>
  intro n c hn hc
  have h1 : (n : Int) < (f.length : Int) := by omega
  have h2 : 0 ≤ (n : Int) := by omega
  have ew : wrap64 ((n : Int) + 1) = ((n + 1 : Nat) : Int) := by unfold wrap64; omega
  have e := at_le hf h (show n < f.length by omega)
  refine Ev.step ?_
  simp only [cohousingref05_Piece.l0, h1, h2, if_true, ew]
  by_cases hx : (pA f n).f0 ≤ x
  ·simp only [hx, if_true]
   have hle := e.1 hx
   exact ih (n + 1) (pA f n) (by omega) (fun hi => by rw [show n = i by omega])
  ·simp only [hx, if_false]
   exact ih (n + 1) c (by omega) (fun hi => hc (by
    rcases Nat.lt_or_ge i n with h3 | h3
    ·exact h3
    ·exact absurd (e.2 h3) hx))
theorem piece_ev {f : List PC} (hf : FOk f) {x : Int} {i : Nat} (h : atI f x i) : Ev (fun k => cohousingref05_Piece.f k f x) ((pA f i).f0, (pA f i).f1.f0, (pA f i).f1.f1, (pA f i).f2.f0, (pA f i).f2.f1) := by
 have h0 : (0 : Int) < (f.length : Int) := by have := hf.one; omega
 unfold cohousingref05_Piece.f
 simp only [h0, if_true]
 exact piece_l0 f hf h f.length 0 (pA f 0) (by omega) (fun h => absurd h (Nat.not_lt_zero _))
structure Inv (f g : List PC) (s : Nat × Nat × Int) : Prop where
 a : atI f s.2.2 s.1
 b : atI g s.2.2 s.2.1
 lo : 0 ≤ s.2.2
 hi : s.2.2 ≤ 100001
theorem nxt_le {f : List PC} {i : Nat} {a : Int} : nxt f i a ≤ a ∧ (i + 1 < f.length → nxt f i a ≤ (pA f (i + 1)).f0) ∧ (nxt f i a = a ∨ i + 1 < f.length ∧ nxt f i a = (pA f (i + 1)).f0) := by
 unfold nxt mn
 by_cases h : i + 1 < f.length
 ·rw [if_pos h]
  show (if (pA f (i + 1)).f0 < a then (pA f (i + 1)).f0 else a) ≤ a ∧ (_ → (if (pA f (i + 1)).f0 < a then (pA f (i + 1)).f0 else a) ≤ (pA f (i + 1)).f0) ∧ ((if (pA f (i + 1)).f0 < a then (pA f (i + 1)).f0 else a) = a ∨ _ ∧ (if (pA f (i + 1)).f0 < a then (pA f (i + 1)).f0 else a) = (pA f (i + 1)).f0)
  split
  ·exact ⟨by omega, fun _ => by omega, .inr ⟨h, rfl⟩⟩
  ·exact ⟨by omega, fun _ => by omega, .inl rfl⟩
 ·rw [if_neg h]
  exact ⟨by omega, fun h' => absurd h' h, .inl rfl⟩
theorem adv_at {f : List PC} (hf : FOk f) {x x' : Int} {i : Nat} (h : atI f x i) (hx : x ≤ x') (hn : i + 1 < f.length → x' ≤ (pA f (i + 1)).f0) : atI f x' (adv f i x') := by
 unfold adv
 by_cases hc : i + 1 < f.length ∧ (rd_T51 f ((i + 1 : Nat) : Int)).f0 = x'
 ·rw [if_pos hc]
  have hc2 : (pA f (i + 1)).f0 = x' := hc.2
  exact ⟨hc.1, by omega, fun h2 => by have := hf.lt (show i + 1 < i + 1 + 1 by omega) h2; omega⟩
 ·rw [if_neg hc]
  refine ⟨h.1, by have := h.2.1; omega, fun h2 => ?_⟩
  have h3 := hn h2
  have h4 : ¬ (pA f (i + 1)).f0 = x' := fun e => hc ⟨h2, e⟩
  omega
theorem nxt_in {f g : List PC} (hf : FOk f) (hg : FOk g) {s : Nat × Nat × Int} (h : Inv f g s) : s.2.2 ≤ nxt g s.2.1 (nxt f s.1 100001) ∧ (s.2.2 ≤ 100000 → s.2.2 < nxt g s.2.1 (nxt f s.1 100001)) ∧ nxt g s.2.1 (nxt f s.1 100001) ≤ 100001 ∧ (s.1 + 1 < f.length → nxt g s.2.1 (nxt f s.1 100001) ≤ (pA f (s.1 + 1)).f0) ∧ (s.2.1 + 1 < g.length → nxt g s.2.1 (nxt f s.1 100001) ≤ (pA g (s.2.1 + 1)).f0) ∧ (nxt g s.2.1 (nxt f s.1 100001) = 100001 ∨ (s.1 + 1 < f.length ∧ nxt g s.2.1 (nxt f s.1 100001) = (pA f (s.1 + 1)).f0) ∨ (s.2.1 + 1 < g.length ∧ nxt g s.2.1 (nxt f s.1 100001) = (pA g (s.2.1 + 1)).f0)) := by
 obtain ⟨a1, a2, a3⟩ := nxt_le (f := f) (i := s.1) (a := 100001)
 obtain ⟨b1, b2, b3⟩ := nxt_le (f := g) (i := s.2.1) (a := nxt f s.1 100001)
 have ha := h.a.2.2
 have hb := h.b.2.2
 have hhi := h.hi
 generalize nxt g s.2.1 (nxt f s.1 100001) = y at *
 generalize nxt f s.1 100001 = z at *
 refine ⟨?_, fun hx => ?_, by omega, fun h1 => by have := a2 h1; omega, b2, ?_⟩
 ·rcases b3 with e | ⟨l, e⟩
  ·rcases a3 with e' | ⟨l', e'⟩
   ·omega
   ·have := ha l'; omega
  ·have := hb l; omega
 ·rcases b3 with e | ⟨l, e⟩
  ·rcases a3 with e' | ⟨l', e'⟩
   ·omega
   ·have := ha l'; omega
  ·have := hb l; omega
 ·rcases b3 with e | ⟨l, e⟩
  ·rcases a3 with e' | ⟨l', e'⟩
   ·exact .inl (by omega)
   ·exact .inr (.inl ⟨l', by omega⟩)
  ·exact .inr (.inr ⟨l, e⟩)
theorem inv_at {f g : List PC} (hf : FOk f) (hg : FOk g) : ∀ j, Inv f g (stp f g j)
 | 0 => by
  have h1 := hf.one
  have h2 := hg.one
  refine ⟨⟨by show 0 < _; omega, by show (pA f 0).f0 ≤ 0; rw [hf.zero]; omega, fun h => ?_⟩, ⟨by show 0 < _; omega, by show (pA g 0).f0 ≤ 0; rw [hg.zero]; omega, fun h => ?_⟩, by show (0 : Int) ≤ 0; omega, by show (0 : Int) ≤ 100001; omega⟩
  ·have := hf.lt (show 0 < 1 by omega) h
   rw [hf.zero] at this
   exact this
  ·have := hg.lt (show 0 < 1 by omega) h
   rw [hg.zero] at this
   exact this
 | j + 1 => by
  have h := inv_at hf hg j
  obtain ⟨n1, n2, n3, n4, n5, n6⟩ := nxt_in hf hg h
  have h0 := h.lo
  exact ⟨adv_at hf h.a n1 n4, adv_at hg h.b n1 n5, by show 0 ≤ nxt _ _ _; omega, n3⟩
theorem stp_x (f g : List PC) (j : Nat) : (stp f g (j + 1)).2.2 = nxt g (stp f g j).2.1 (nxt f (stp f g j).1 100001) := rfl
theorem stp_i (f g : List PC) (j : Nat) : (stp f g (j + 1)).1 = adv f (stp f g j).1 (stp f g (j + 1)).2.2 := rfl
theorem stp_k (f g : List PC) (j : Nat) : (stp f g (j + 1)).2.1 = adv g (stp f g j).2.1 (stp f g (j + 1)).2.2 := rfl
theorem stp_up {f g : List PC} (hf : FOk f) (hg : FOk g) {j : Nat} (h : (stp f g j).2.2 ≤ 100000) : (stp f g j).2.2 < (stp f g (j + 1)).2.2 := (nxt_in hf hg (inv_at hf hg j)).2.1 h
theorem stp_end {f g : List PC} (hf : FOk f) (hg : FOk g) : ∀ (d j : Nat), (f.length - 1 - (stp f g j).1) + (g.length - 1 - (stp f g j).2.1) ≤ d → ∃ n, n ≤ j + d + 1 ∧ 100000 < (stp f g n).2.2 := by
 intro d
 induction d with
 | zero =>
  intro j h
  refine ⟨j + 1, by omega, ?_⟩
  have hj := inv_at hf hg j
  obtain ⟨n1, n2, n3, n4, n5, n6⟩ := nxt_in hf hg hj
  rw [stp_x]
  have a1 := hj.a.1
  have b1 := hj.b.1
  rcases n6 with e | ⟨l, e⟩ | ⟨l, e⟩ <;> omega
 | succ d ih =>
  intro j h
  by_cases hx : 100000 < (stp f g (j + 1)).2.2
  ·exact ⟨j + 1, by omega, hx⟩
  have hj := inv_at hf hg j
  obtain ⟨n1, n2, n3, n4, n5, n6⟩ := nxt_in hf hg hj
  have a1 := hj.a.1
  have b1 := hj.b.1
  have hj' := inv_at hf hg (j + 1)
  have a2 := hj'.a.1
  have b2 := hj'.b.1
  have ei := stp_i f g j
  have ek := stp_k f g j
  have ei2 : (stp f g j).1 ≤ (stp f g (j + 1)).1 := by rw [ei]; unfold adv; split <;> omega
  have ek2 : (stp f g j).2.1 ≤ (stp f g (j + 1)).2.1 := by rw [ek]; unfold adv; split <;> omega
  have hm : (f.length - 1 - (stp f g (j + 1)).1) + (g.length - 1 - (stp f g (j + 1)).2.1) ≤ d := by
   rcases n6 with e | ⟨l, e⟩ | ⟨l, e⟩
   ·rw [stp_x] at hx; omega
   ·have : (stp f g (j + 1)).1 = (stp f g j).1 + 1 := by rw [ei]; unfold adv; exact if_pos ⟨l, by rw [stp_x]; exact e.symm⟩
    omega
   ·have : (stp f g (j + 1)).2.1 = (stp f g j).2.1 + 1 := by rw [ek]; unfold adv; exact if_pos ⟨l, by rw [stp_x]; exact e.symm⟩
    omega
  obtain ⟨n, hn, h2⟩ := ih (j + 1) hm
  exact ⟨n, by omega, h2⟩
theorem least_of {p : Nat → Prop} : ∀ (N n : Nat), n ≤ N → p n → ∃ m, m ≤ N ∧ p m ∧ ∀ j, j < m → ¬ p j := by
 intro N
 induction N with
 | zero =>
  intro n hn hp
  have : n = 0 := by omega
  subst this
  exact ⟨0, Nat.le_refl _, hp, fun j hj => absurd hj (Nat.not_lt_zero _)⟩
 | succ N ih =>
  intro n hn hp
  by_cases h : ∃ j, j ≤ N ∧ p j
  ·obtain ⟨j, hj, hpj⟩ := h
   obtain ⟨m, h1, h2, h3⟩ := ih j hj hpj
   exact ⟨m, by omega, h2, h3⟩
  ·exact ⟨n, hn, hp, fun j hj hpj => h ⟨j, by omega, hpj⟩⟩
theorem stM_ex {f g : List PC} (hf : FOk f) (hg : FOk g) : ∃ M, stM f g = some M ∧ StOk f g M ∧ M ≤ 1000 ∧ 1 ≤ M := by
 have a1 := hf.few
 have a2 := hg.few
 obtain ⟨n, hn, hx⟩ := stp_end hf hg 128 0 (by omega)
 obtain ⟨M, hM, h1, h2⟩ := least_of (p := fun n => 100000 < (stp f g n).2.2) 1000 n (by omega) hx
 have hb : stOkB f g M = true := by
  unfold stOkB
  simp only [Bool.and_eq_true, decide_eq_true_eq]
  refine ⟨⟨by omega, by omega⟩, fun j hj => ?_, fun j hj => ?_, h1⟩
  ·have := inv_at hf hg j
   exact ⟨this.a.1, this.b.1, this.lo⟩
  ·have h3 : (stp f g j).2.2 ≤ 100000 := by have := h2 j hj; omega
   exact ⟨h3, stp_up hf hg h3⟩
 cases hc : stM f g with
 | none =>
  unfold stM at hc
  have := List.find?_eq_none.1 hc M (List.mem_range.2 (by omega))
  exact absurd hb this
 | some M' =>
  obtain ⟨h3, h4⟩ := stM_at hc
  refine ⟨M', rfl, h3, h4, ?_⟩
  rcases Nat.eq_zero_or_pos M' with e | e
  ·have := h3.last
   rw [e] at this
   exact absurd (show 100000 < (0 : Int) from this) (by omega)
  ·exact e
end Go.Proofs.Ytmhimmodigeeiaa.P
end
section
namespace Go.Proofs.Ytmhimmodigeeiaa.P
open Go.RowKit Go.Proofs.YtmhimmodigeeiaaW.PrintWords Go.Proofs.YtmhimmodigeeiaaW.PrintLast Go.Proofs.YtmhimmodigeeiaaW.PrintMore
set_option linter.unusedVariables false
set_option linter.unusedSimpArgs false
open Classical
structure SOk (s : ST) : Prop where
 lf : LB s.f
 lg : LB s.g
 x0 : 0 ≤ s.x
 x1 : s.x ≤ 100000
 u0 : s.x < s.u
 u1 : s.u ≤ 100001
theorem FOk.pok {f : List PC} (h : FOk f) {i : Nat} (hi : i < f.length) : POk (pA f i) := (h.ok i hi).2
theorem FOk.lb {f : List PC} (h : FOk f) {i : Nat} (hi : i < f.length) : LB (lineL (pA f i)) := lineL_LB (h.pok hi) (h.in_ hi).1 (h.in_ hi).2
theorem stE_ok {f g : List PC} (hf : FOk f) (hg : FOk g) {M j : Nat} (hM : StOk f g M) (hj : j < M) : SOk (stE f g j) := by
 have h := inv_at hf hg j
 have h' := inv_at hf hg (j + 1)
 have hu := hM.up j hj
 exact ⟨hf.lb h.a.1, hg.lb h.b.1, h.lo, hu.1, hu.2, h'.hi⟩
theorem stL_ok {f g : List PC} (hf : FOk f) (hg : FOk g) {M : Nat} (hM : StOk f g M) {s : ST} (hs : s ∈ stL f g M) : SOk s := by
 unfold stL at hs
 obtain ⟨j, hj, rfl⟩ := List.mem_map.1 hs
 exact stE_ok hf hg hM (List.mem_range.1 hj)
theorem SOk.okST {s : ST} (h : SOk s) : okST s = true := decide_eq_true ⟨h.lf.d1, h.lf.d2, h.lg.d1, h.lg.d2⟩
theorem SOk.rng {s : ST} (h : SOk s) : rngST s = true := decide_eq_true ⟨h.x0, by have := h.u0; omega, by have := h.u1; omega⟩
def sumX (s : ST) : LN := ⟨num s.f s.x * s.g.d + num s.g s.x * s.f.d, s.f.s * s.g.d + s.g.s * s.f.d, s.f.d * s.g.d, s.x⟩
theorem sum_bounds {s : ST} (h : SOk s) : ((-12000000000000000 ≤ num s.f s.x * s.g.d ∧ num s.f s.x * s.g.d ≤ 12000000000000000) ∧ (-12000000000000000 ≤ num s.g s.x * s.f.d ∧ num s.g s.x * s.f.d ≤ 12000000000000000)) ∧ ((-100000000000 ≤ s.f.s * s.g.d ∧ s.f.s * s.g.d ≤ 100000000000) ∧ (-100000000000 ≤ s.g.s * s.f.d ∧ s.g.s * s.f.d ≤ 100000000000)) ∧ 1 ≤ s.f.d * s.g.d ∧ s.f.d * s.g.d ≤ 100000000 := by
 have n1 := h.lf.num_in h.x0 (show s.x ≤ 100001 by have := h.x1; omega)
 have n2 := h.lg.num_in h.x0 (show s.x ≤ 100001 by have := h.x1; omega)
 have d1 := h.lf.d1
 have d2 := h.lf.d2
 have d3 := h.lg.d1
 have d4 := h.lg.d2
 have e1 := mul_in n1.1 n1.2 (show -10000 ≤ s.g.d by omega) d4
 have e2 := mul_in n2.1 n2.2 (show -10000 ≤ s.f.d by omega) d2
 have e3 := mul_in h.lf.s1 h.lf.s2 (show -10000 ≤ s.g.d by omega) d4
 have e4 := mul_in h.lg.s1 h.lg.s2 (show -10000 ≤ s.f.d by omega) d2
 have e5 := mul_pos_in d1 d2 d3 d4
 exact ⟨⟨⟨by omega, by omega⟩, by omega, by omega⟩, ⟨⟨by omega, by omega⟩, by omega, by omega⟩, e5.1, by omega⟩
theorem sumX_WB {s : ST} (h : SOk s) : WB (sumX s) := by
 obtain ⟨⟨a1, a2⟩, ⟨b1, b2⟩, c1, c2⟩ := sum_bounds h
 have := h.x0
 have := h.x1
 refine ⟨?_, ?_, ?_, ?_, ?_, ?_, ?_, ?_⟩ <;> (unfold sumX; dsimp only; omega)
theorem sumL_eq {s : ST} (h : SOk s) : sumL s = sumX s := by
 have e1 := atL_eq h.lf.w h.x0 (show s.x ≤ 100001 by have := h.x1; omega)
 have e2 := atL_eq h.lg.w h.x0 (show s.x ≤ 100001 by have := h.x1; omega)
 obtain ⟨⟨a1, a2⟩, ⟨b1, b2⟩, c1, c2⟩ := sum_bounds h
 unfold sumX
 show (⟨_, _, _, _⟩ : LN) = _
 rw [e1, e2]
 clear e1 e2
 rw [wrap_id (n := num s.f s.x * s.g.d) (by omega) (by omega), wrap_id (n := num s.g s.x * s.f.d) (by omega) (by omega), wrap_id (n := s.f.s * s.g.d) (by omega) (by omega), wrap_id (n := s.g.s * s.f.d) (by omega) (by omega), wrap_id (n := s.f.d * s.g.d) (by omega) (by omega), wrap_id (n := num s.f s.x * s.g.d + num s.g s.x * s.f.d) (by omega) (by omega), wrap_id (n := s.f.s * s.g.d + s.g.s * s.f.d) (by omega) (by omega)]
def evA (s : ST) : LN × Int := (sumX s, s.x)
theorem step_last (b : BD) (e : LN × Int) : (stepB b e).last = e.1 := by unfold stepB; split <;> rfl
theorem addF_eq : ∀ (xs : List ST) (b : BD), (∀ s ∈ xs, SOk s) → (b.out ≠ [] → WB b.last) → addF kP b xs = some ((xs.map evA).foldl stepB b)
 | [], b, _, _ => rfl
 | s :: t, b, hs, hb => by
  have h := hs s (List.mem_cons_self ..)
  have hw := sumX_WB h
  unfold addF
  rw [sumL_eq h, putO_eq hw h.x0 (by have := h.x1; omega) hb]
  simp only [Option.bind_some]
  rw [addF_eq t _ (fun s' h' => hs s' (List.mem_cons_of_mem _ h')) (fun _ => by rw [step_last]; exact hw)]
  rfl
def addEs (f g : List PC) (M : Nat) : List (LN × Int) := (stL f g M).map evA
theorem add_eq {f g : List PC} (hf : FOk f) (hg : FOk g) {M : Nat} (hM : stM f g = some M) : piecewise_Add.f f g = some (resS (outM none (addEs f g M))) := by
 obtain ⟨h1, h2⟩ := stM_at hM
 have hok : ∀ s ∈ stL f g M, SOk s := fun s hs => stL_ok hf hg h1 hs
 have hkV : 100 ≤ kV := by unfold kV; omega
 unfold piecewise_Add.f
 rw [valid_eq f hkV, valid_eq g hkV, decide_eq_true hf, decide_eq_true hg, hM]
 simp only [Option.bind_some, if_true]
 rw [if_pos (List.all_eq_true.2 (fun s hs => (hok s hs).okST)), addF_eq _ b00 hok (fun h => absurd rfl h)]
 simp only [Option.bind_some]
 rw [resO_eq]
 rfl
theorem POk.pb {p : PC} (h : POk p) : PB p := by
 obtain ⟨⟨a1, a2, a3, a4, a5⟩, ⟨b1, b2, b3, b4, b5⟩, c1, c2, c3, c4⟩ := h
 constructor <;> omega
theorem red_slope {p : PC} (h : POk p) : red (lineL p).s (lineL p).d = (p.f2.f0, p.f2.f1) := by
 rw [lineL_eq h]
 obtain ⟨⟨a1, a2, a3, a4, a5⟩, ⟨b1, b2, b3, b4, b5⟩, c1, c2, c3, c4⟩ := h
 have hp := mul_pos_in a1 c1 b1 c2
 rw [← red_id (n := p.f2.f0) (d := p.f2.f1) (by omega) b5]
 refine red_eq (by dsimp only; omega) (by omega) ?_
 dsimp only
 rw [Int.mul_assoc]
theorem lineP_ev {p : PC} (h : POk p) {x : Int} (h0 : 0 ≤ p.f0) (h1 : p.f0 ≤ 100000) (h2 : 0 ≤ x) (h3 : x ≤ 100001) : Ev (fun k => cohousingref05_Line.f k p.f0 p.f1.f0 p.f1.f1 p.f2.f0 p.f2.f1 x) (red (num (lineL p) x) (lineL p).d) := by
 rw [lineL_pl h]
 exact line_ev h.pb (by omega) (by omega)
theorem sum_ev {a b c d : Int} (ha : -1200000000000 ≤ a) (ha' : a ≤ 1200000000000) (hb : 1 ≤ b) (hb' : b ≤ 10000) (hc : -1200000000000 ≤ c) (hc' : c ≤ 1200000000000) (hd : 1 ≤ d) (hd' : d ≤ 10000) : Ev (fun k => cohousingref05_Sum.f k a b c d) (red (a * d + c * b) (b * d)) := by
 have e1 := mul_in ha ha' (show -10000 ≤ d by omega) hd'
 have e2 := mul_in hc hc' (show -10000 ≤ b by omega) hb'
 have e3 := mul_pos_in hb hb' hd hd'
 unfold cohousingref05_Sum.f
 rw [wrap_id (n := a * d) (by omega) (by omega), wrap_id (n := c * b) (by omega) (by omega), wrap_id (n := b * d) (by omega) (by omega), wrap_id (n := a * d + c * b) (by omega) (by omega)]
 exact Ev.bnd (reduce_ev (by omega) (by omega) (by omega) (by omega)) (Ev.pure _)
theorem red_LB {l : LN} (h : LB l) {x : Int} (h0 : 0 ≤ x) (h1 : x ≤ 100001) : (-1200000000000 ≤ (red (num l x) l.d).1 ∧ (red (num l x) l.d).1 ≤ 1200000000000) ∧ 1 ≤ (red (num l x) l.d).2 ∧ (red (num l x) l.d).2 ≤ 10000 := by
 have hd : 0 < l.d := by have := h.d1; omega
 have hd2 := h.d2
 have n := h.num_in h0 h1
 have a1 := red_bound hd n.1 n.2
 have a3 := red_den (n := num l x) hd
 have a5 := (red_small (n := num l x) hd).2
 omega
theorem num_fr (n s d x : Int) : num ⟨n, s, d, x⟩ x = n := by
 unfold num
 dsimp only
 rw [Int.sub_self, Int.mul_zero, Int.add_zero]
end Go.Proofs.Ytmhimmodigeeiaa.P
end
section
namespace Go.Proofs.Ytmhimmodigeeiaa.P
open Go.RowKit Go.Proofs.YtmhimmodigeeiaaW.PrintWords Go.Proofs.YtmhimmodigeeiaaW.PrintLast Go.Proofs.YtmhimmodigeeiaaW.PrintMore
set_option linter.unusedVariables false
set_option linter.unusedSimpArgs false
open Classical
def evL (s : ST) : List (LN × Int) := (oneS s, s.x) :: (if s.x + kS s < s.u then [(twoS s, s.x + kS s)] else [])
theorem one_or (s : ST) : oneS s = s.f ∨ oneS s = s.g := by unfold oneS; split <;> simp
theorem two_or (s : ST) : twoS s = s.f ∨ twoS s = s.g := by unfold twoS; split <;> simp
theorem SOk.one {s : ST} (h : SOk s) : LB (oneS s) := by
 rcases one_or s with e | e
 ·rw [e]; exact h.lf
 ·rw [e]; exact h.lg
theorem SOk.two {s : ST} (h : SOk s) : LB (twoS s) := by
 rcases two_or s with e | e
 ·rw [e]; exact h.lf
 ·rw [e]; exact h.lg
theorem evL_ok {s : ST} (h : SOk s) : ∀ e ∈ evL s, EOk e := by
 have hk := kS_le h.rng
 intro e he
 unfold evL at he
 rcases List.mem_cons.1 he with rfl | he
 ·exact ⟨h.one.w, h.x0, h.x1⟩
 ·split at he
  ·rename_i hlt
   rw [List.mem_singleton.1 he]
   exact ⟨h.two.w, by have := h.x0; show 0 ≤ s.x + kS s; omega, by have := h.u1; show s.x + kS s ≤ 100000; omega⟩
  ·cases he
theorem leastO_eq {b : BD} {s : ST} (h : SOk s) (hb : b.out ≠ [] → WB b.last) : leastO kP b s = some ((evL s).foldl stepB b) := by
 have hk := kS_le h.rng
 have h0 := h.x0
 have h1 := h.x1
 have h2 := h.u1
 unfold leastO evL
 rw [putO_eq h.one.w h0 (by omega) hb]
 simp only [Option.bind_some]
 by_cases hlt : s.x + kS s < s.u
 ·rw [if_pos hlt, if_pos hlt, putO_eq h.two.w (by omega) (by omega) (fun _ => by rw [step_last]; exact h.one.w)]
  rfl
 ·rw [if_neg hlt, if_neg hlt]
  rfl
theorem fold_last : ∀ (es : List (LN × Int)) (b : BD) (h : es ≠ []), (es.foldl stepB b).last = (es.getLast h).1
 | [e], b, _ => by simp [step_last]
 | e :: e' :: t, b, _ => by
  show ((e' :: t).foldl stepB (stepB b e)).last = _
  rw [fold_last (e' :: t) (stepB b e) (by simp)]
  rfl
theorem leastF_eq : ∀ (xs : List ST) (b : BD), (∀ s ∈ xs, SOk s) → (b.out ≠ [] → WB b.last) → leastF kP b xs = some ((xs.flatMap evL).foldl stepB b)
 | [], b, _, _ => rfl
 | s :: t, b, hs, hb => by
  have h := hs s (List.mem_cons_self ..)
  unfold leastF
  rw [leastO_eq h hb]
  simp only [Option.bind_some]
  rw [leastF_eq t _ (fun s' h' => hs s' (List.mem_cons_of_mem _ h')) (fun _ => by
   have hne : evL s ≠ [] := by unfold evL; simp
   rw [fold_last _ _ hne]
   exact (evL_ok h _ (List.getLast_mem hne)).1)]
  rw [List.flatMap_cons, List.foldl_append]
def leastEs (f g : List PC) (M : Nat) : List (LN × Int) := (stL f g M).flatMap evL
theorem leastEs_succ (f g : List PC) (j : Nat) : leastEs f g (j + 1) = leastEs f g j ++ evL (stE f g j) := by
 unfold leastEs stL
 rw [List.range_succ, List.map_append, List.flatMap_append]
 simp
theorem least_eq {f g : List PC} (hf : FOk f) (hg : FOk g) {M : Nat} (hM : stM f g = some M) : piecewise_Least.f f g = some (resS (outM none (leastEs f g M))) := by
 obtain ⟨h1, h2⟩ := stM_at hM
 have hok : ∀ s ∈ stL f g M, SOk s := fun s hs => stL_ok hf hg h1 hs
 have hkV : 100 ≤ kV := by unfold kV; omega
 unfold piecewise_Least.f
 rw [valid_eq f hkV, valid_eq g hkV, decide_eq_true hf, decide_eq_true hg, hM]
 simp only [Option.bind_some, if_true]
 rw [if_pos (List.all_eq_true.2 (fun s hs => by unfold okL; rw [(hok s hs).okST, (hok s hs).rng]; rfl)), leastF_eq _ b00 hok (fun h => absurd rfl h)]
 simp only [Option.bind_some]
 rw [resO_eq]
 rfl
theorem even_num (l m : LN) : Even (fun x => num l x * m.d - num m x * l.d) := by
 refine ⟨l.s * m.d - m.s * l.d, fun y z => ?_⟩
 simp only [num, Int.mul_sub, Int.sub_mul, Int.add_mul]
 have e1 : l.s * z * m.d = l.s * m.d * z := by rw [Int.mul_assoc, Int.mul_comm z, ← Int.mul_assoc]
 have e2 : l.s * y * m.d = l.s * m.d * y := by rw [Int.mul_assoc, Int.mul_comm y, ← Int.mul_assoc]
 have e3 : m.s * z * l.d = m.s * l.d * z := by rw [Int.mul_assoc, Int.mul_comm z, ← Int.mul_assoc]
 have e4 : m.s * y * l.d = m.s * l.d * y := by rw [Int.mul_assoc, Int.mul_comm y, ← Int.mul_assoc]
 rw [e1, e2, e3, e4]
 omega
def lt (l m : LN) (x : Int) : Prop := num l x * m.d < num m x * l.d
theorem lt_mono {l m : LN} {x y z : Int} (h1 : x ≤ y) (h2 : y ≤ z) (h : ¬ (lt l m y ↔ lt l m x)) : ¬ (lt l m z ↔ lt l m x) := by
 have he := even_num m l
 have hd : ∀ x, lt l m x ↔ 0 < num m x * l.d - num l x * m.d := fun x => by unfold lt; omega
 simp only [hd] at h ⊢
 by_cases hx : 0 < num m x * l.d - num l x * m.d
 ·have hy : num m y * l.d - num l y * m.d ≤ 0 := by
   rcases Int.lt_or_le 0 (num m y * l.d - num l y * m.d) with h3 | h3
   ·exact absurd ⟨fun _ => hx, fun _ => h3⟩ h
   ·exact h3
  have hz := even_down he (x := x) hx h1 h2 hy
  intro h3
  have := h3.2 hx
  have hz' : num m z * l.d - num l z * m.d ≤ 0 := hz
  omega
 ·have hy : 0 < num m y * l.d - num l y * m.d := by
   rcases Int.lt_or_le 0 (num m y * l.d - num l y * m.d) with h3 | h3
   ·exact h3
   ·exact absurd ⟨fun h4 => absurd h4 (by omega), fun h4 => absurd h4 hx⟩ h
  have hz := even_up he (x := x) (by show num m x * l.d - num l x * m.d ≤ 0; omega) h1 h2 hy
  intro h3
  exact hx (h3.1 hz)
theorem SOk.less {s : ST} (h : SOk s) {y : Int} (h0 : s.x ≤ y) (h1 : y < s.u) : lessB s.g s.f y = decide (lt s.g s.f y) := (lessB_eq h.lg h.lf (by have := h.x0; omega) (by have := h.u1; omega)).trans (decide_eq_decide.2 Iff.rfl)
structure Chg (s : ST) (c : Int) : Prop where
 lo : s.x < c
 hi : c ≤ s.u
 before : ∀ y, s.x ≤ y → y < c → (lt s.g s.f y ↔ lt s.g s.f s.x)
 at_ : c < s.u → ¬ (lt s.g s.f c ↔ lt s.g s.f s.x)
theorem over_iff {s : ST} (h : SOk s) : overS s = decide (lt s.g s.f s.x) := h.less (Int.le_refl _) h.u0
theorem kS_chg {s : ST} (h : SOk s) : Chg s (s.x + kS s) := by
 have h0 := h.x0
 have h1 := h.x1
 have h2 := h.u0
 have h3 := h.u1
 have ep : ∀ a : Int, 0 ≤ a → a < s.u - s.x → (leastP s (overS s) a = true ↔ ¬ (lt s.g s.f (s.x + a) ↔ lt s.g s.f s.x)) := fun a ha hb => by
  unfold leastP
  rw [wrap_id (by omega) (by omega), h.less (by omega) (by omega), over_iff h]
  by_cases c1 : lt s.g s.f (s.x + a) <;> by_cases c2 : lt s.g s.f s.x <;> simp [c1, c2]
 have hs := bsearch_spec (leastP s (overS s)) 0 (s.u - s.x) (fun a b ha hab hb hp => by
  rw [ep a ha (by omega)] at hp
  rw [ep b (by omega) hb]
  exact lt_mono (by omega) (by omega) hp) (s.u - s.x).toNat 0 (s.u - s.x) (Int.le_refl _) (by omega) (Int.le_refl _) (by omega) (fun a h1 h2 => by omega) (fun h => by omega)
 have ek : kS s = bsearch (leastP s (overS s)) (s.u - s.x).toNat 0 (s.u - s.x) := rfl
 rw [← ek] at hs
 obtain ⟨g1, g2, g3, g4⟩ := hs
 have gb : ∀ y, s.x ≤ y → y < s.x + kS s → (lt s.g s.f y ↔ lt s.g s.f s.x) := fun y hy1 hy2 => by
  have g5 := g3 (y - s.x) (by omega) (by omega)
  have g6 := ep (y - s.x) (by omega) (by omega)
  rw [show s.x + (y - s.x) = y by omega] at g6
  by_cases hc : lt s.g s.f y ↔ lt s.g s.f s.x
  ·exact hc
  ·rw [g6.2 hc] at g5; cases g5
 have ga : s.x + kS s < s.u → ¬ (lt s.g s.f (s.x + kS s) ↔ lt s.g s.f s.x) := fun hlt => (ep _ g1 (by omega)).1 (g4 (by omega))
 refine ⟨?_, by omega, gb, ga⟩
 rcases Int.lt_or_le s.x (s.x + kS s) with h5 | h5
 ·exact h5
 ·have e : kS s = 0 := by omega
  have := ga (by omega)
  rw [e, Int.add_zero] at this
  exact absurd Iff.rfl this
theorem cmp_ev {l m : LN} (hl : LB l) (hm : LB m) {x : Int} (h0 : 0 ≤ x) (h1 : x ≤ 100001) : ∃ c, cohousingref05_Compare.f (red (num l x) l.d).1 (red (num l x) l.d).2 (red (num m x) m.d).1 (red (num m x) m.d).2 = some c ∧ (c < 0 ↔ lt l m x) ∧ (c ≤ 0 ↔ ¬ lt m l x) := by
 have b1 := red_LB hl h0 h1
 have b2 := red_LB hm h0 h1
 have e1 := mul_in b1.1.1 b1.1.2 (show -10000 ≤ (red (num m x) m.d).2 by omega) b2.2.2
 have e2 := mul_in b2.1.1 b2.1.2 (show -10000 ≤ (red (num l x) l.d).2 by omega) b1.2.2
 have d1 : 0 < l.d := by have := hl.d1; omega
 have d2 : 0 < m.d := by have := hm.d1; omega
 have c1 := red_cmp (n := num l x) (n' := num m x) d1 d2
 have c2 := red_cmp (n := num m x) (n' := num l x) d2 d1
 unfold cohousingref05_Compare.f
 rw [wrap_id (by omega) (by omega), wrap_id (by omega) (by omega)]
 unfold lt
 by_cases h2 : (red (num l x) l.d).1 * (red (num m x) m.d).2 < (red (num m x) m.d).1 * (red (num l x) l.d).2
 ·rw [if_pos h2]
  exact ⟨_, rfl, ⟨fun _ => c1.1 h2, fun _ => by omega⟩, ⟨fun _ h3 => by have := c2.2 h3; omega, fun _ => by omega⟩⟩
 ·rw [if_neg h2]
  by_cases h3 : (red (num l x) l.d).1 * (red (num m x) m.d).2 > (red (num m x) m.d).1 * (red (num l x) l.d).2
  ·rw [if_pos h3]
   exact ⟨_, rfl, ⟨fun h => by omega, fun h => absurd (c1.2 h) h2⟩, ⟨fun h => by omega, fun h => absurd (c2.1 h3) h⟩⟩
  ·rw [if_neg h3]
   exact ⟨_, rfl, ⟨fun h => by omega, fun h => absurd (c1.2 h) h2⟩, ⟨fun _ h => h3 (c2.2 h), fun _ => by omega⟩⟩
theorem end_x {f g : List PC} (hf : FOk f) (hg : FOk g) {M : Nat} (hM : StOk f g M) : (stp f g M).2.2 = 100001 := by
 have := hM.last
 have := (inv_at hf hg M).hi
 omega
end Go.Proofs.Ytmhimmodigeeiaa.P
end
section
namespace Go.Proofs.Ytmhimmodigeeiaa.P
open Go.RowKit Go.Proofs.YtmhimmodigeeiaaW.PrintWords Go.Proofs.YtmhimmodigeeiaaW.PrintLast Go.Proofs.YtmhimmodigeeiaaW.PrintMore
set_option linter.unusedVariables false
set_option linter.unusedSimpArgs false
open Classical
theorem at_one {f : List PC} (hf : FOk f) {x : Int} {i i' : Nat} (h : atI f x i) (h' : atI f x i') : i = i' := by
 have h1 := (at_le hf h h'.1).1 h'.2.1
 have h2 := (at_le hf h' h.1).1 h.2.1
 omega
def LT (f g : List PC) (y : Int) : Prop := ∃ i k, atI f y i ∧ atI g y k ∧ lt (lineL (pA f i)) (lineL (pA g k)) y
theorem LT_iff {f g : List PC} (hf : FOk f) (hg : FOk g) {y : Int} {i k : Nat} (h : atI f y i) (h' : atI g y k) : LT f g y ↔ lt (lineL (pA f i)) (lineL (pA g k)) y := by
 constructor
 ·rintro ⟨i', k', a, b, c⟩
  rw [at_one hf h a, at_one hg h' b]
  exact c
 ·intro c
  exact ⟨i, k, h, h', c⟩
theorem at_in {f g : List PC} (hf : FOk f) (hg : FOk g) {j : Nat} {y : Int} (h0 : (stp f g j).2.2 ≤ y) (h1 : y < (stp f g (j + 1)).2.2) : atI f y (stp f g j).1 ∧ atI g y (stp f g j).2.1 := by
 have hi := inv_at hf hg j
 obtain ⟨n1, n2, n3, n4, n5, n6⟩ := nxt_in hf hg hi
 rw [stp_x] at h1
 exact ⟨⟨hi.a.1, by have := hi.a.2.1; omega, fun h => by have := n4 h; omega⟩, ⟨hi.b.1, by have := hi.b.2.1; omega, fun h => by have := n5 h; omega⟩⟩
def IsB (f g : List PC) (lo hi : Int) (r : Int × Bool × Int) : Prop := (∃ v, r = (v, true, 0) ∧ lo ≤ v ∧ v ≤ hi ∧ LT f g v ∧ ∀ y, lo ≤ y → y < v → ¬ LT f g y) ∨ (r = (0, false, 0) ∧ ∀ y, lo ≤ y → y ≤ hi → ¬ LT f g y)
theorem isB_one {f g : List PC} {lo hi : Int} {r r' : Int × Bool × Int} (h : IsB f g lo hi r) (h' : IsB f g lo hi r') : r = r' := by
 rcases h with ⟨v, rfl, a1, a2, a3, a4⟩ | ⟨rfl, a⟩
 ·rcases h' with ⟨v', rfl, b1, b2, b3, b4⟩ | ⟨rfl, b⟩
  ·rcases Int.lt_trichotomy v v' with c | c | c
   ·exact absurd a3 (b4 v a1 c)
   ·rw [c]
   ·exact absurd b3 (a4 v' b1 c)
  ·exact absurd a3 (b v a1 a2)
 ·rcases h' with ⟨v', rfl, b1, b2, b3, b4⟩ | ⟨rfl, b⟩
  ·exact absurd b3 (a v' b1 b2)
  ·rfl
theorem SOk.less2 {s : ST} (h : SOk s) {y : Int} (h0 : s.x ≤ y) (h1 : y < s.u) : lessB s.f s.g y = decide (lt s.f s.g y) := (lessB_eq h.lf h.lg (by have := h.x0; omega) (by have := h.u1; omega)).trans (decide_eq_decide.2 Iff.rfl)
theorem bFrom_in (lo : Int) (s : ST) : s.x ≤ bFrom lo s ∧ lo ≤ bFrom lo s ∧ (bFrom lo s = s.x ∨ bFrom lo s = lo) := by unfold bFrom; split <;> omega
theorem bUntil_in (hi : Int) (s : ST) : bUntil hi s ≤ s.u ∧ bUntil hi s ≤ hi + 1 ∧ (bUntil hi s = s.u ∨ bUntil hi s = hi + 1) := by unfold bUntil; split <;> omega
theorem belowO_none {lo hi : Int} {s : ST} (h : SOk s) (hO : belowO lo hi s = none) : ∀ y, s.x ≤ y → y < s.u → lo ≤ y → y ≤ hi → ¬ lt s.f s.g y := by
 obtain ⟨a1, a2, a3⟩ := bFrom_in lo s
 obtain ⟨b1, b2, b3⟩ := bUntil_in hi s
 have c0 := h.x0
 have c1 := h.u1
 unfold belowO bK at hO
 generalize bFrom lo s = fr at *
 generalize bUntil hi s = un at *
 intro y hy1 hy2 hy3 hy4 hlt
 have hyf : fr ≤ y := by omega
 have hyu : y < un := by omega
 rw [if_pos (by omega), h.less2 (by omega) (by omega)] at hO
 by_cases hfr : lt s.f s.g fr
 ·rw [if_pos (decide_eq_true hfr)] at hO; cases hO
 ·rw [if_neg (by rw [decide_eq_false hfr]; decide)] at hO
  have ep : ∀ a : Int, 0 ≤ a → a < un - fr → (belowP s fr a = true ↔ ¬ (lt s.f s.g (fr + a) ↔ lt s.f s.g fr)) := fun a ha hb => by
   unfold belowP
   rw [wrap_id (by omega) (by omega), h.less2 (by omega) (by omega)]
   by_cases c1 : lt s.f s.g (fr + a) <;> simp [c1, hfr]
  have hs := bsearch_spec (belowP s fr) 0 (un - fr) (fun a b ha hab hb hp => by
   rw [ep a ha (by omega)] at hp
   rw [ep b (by omega) hb]
   exact lt_mono (by omega) (by omega) hp) (un - fr).toNat 0 (un - fr) (Int.le_refl _) (by omega) (Int.le_refl _) (by omega) (fun a h1 h2 => by omega) (fun h => by omega)
  generalize bsearch (belowP s fr) (un - fr).toNat 0 (un - fr) = r at *
  obtain ⟨g1, g2, g3, g4⟩ := hs
  by_cases hr : fr + r < un
  ·rw [if_pos hr] at hO; cases hO
  ·have := g3 (y - fr) (by omega) (by omega)
   have h2 := (ep (y - fr) (by omega) (by omega)).2 (by rw [show fr + (y - fr) = y by omega]; exact fun h3 => hfr (h3.1 hlt))
   rw [this] at h2
   cases h2
theorem belowO_some {lo hi v : Int} {s : ST} (h : SOk s) (hO : belowO lo hi s = some v) : (s.x ≤ v ∧ v < s.u ∧ lo ≤ v ∧ v ≤ hi) ∧ lt s.f s.g v ∧ ∀ y, s.x ≤ y → lo ≤ y → y < v → ¬ lt s.f s.g y := by
 obtain ⟨a1, a2, a3⟩ := bFrom_in lo s
 obtain ⟨b1, b2, b3⟩ := bUntil_in hi s
 have c0 := h.x0
 have c1 := h.u1
 unfold belowO bK at hO
 generalize bFrom lo s = fr at *
 generalize bUntil hi s = un at *
 by_cases hfu : fr < un
 case neg => rw [if_neg hfu] at hO; cases hO
 rw [if_pos hfu, h.less2 (by omega) (by omega)] at hO
 by_cases hfr : lt s.f s.g fr
 ·rw [if_pos (decide_eq_true hfr)] at hO
  obtain rfl := Option.some.inj hO
  exact ⟨by omega, hfr, fun y h1 h2 h3 => by omega⟩
 ·rw [if_neg (by rw [decide_eq_false hfr]; decide)] at hO
  have ep : ∀ a : Int, 0 ≤ a → a < un - fr → (belowP s fr a = true ↔ ¬ (lt s.f s.g (fr + a) ↔ lt s.f s.g fr)) := fun a ha hb => by
   unfold belowP
   rw [wrap_id (by omega) (by omega), h.less2 (by omega) (by omega)]
   by_cases c1 : lt s.f s.g (fr + a) <;> simp [c1, hfr]
  have hs := bsearch_spec (belowP s fr) 0 (un - fr) (fun a b ha hab hb hp => by
   rw [ep a ha (by omega)] at hp
   rw [ep b (by omega) hb]
   exact lt_mono (by omega) (by omega) hp) (un - fr).toNat 0 (un - fr) (Int.le_refl _) (by omega) (Int.le_refl _) (by omega) (fun a h1 h2 => by omega) (fun h => by omega)
  generalize bsearch (belowP s fr) (un - fr).toNat 0 (un - fr) = r at *
  obtain ⟨g1, g2, g3, g4⟩ := hs
  by_cases hr : fr + r < un
  case neg => rw [if_neg hr] at hO; cases hO
  rw [if_pos hr] at hO
  obtain rfl := Option.some.inj hO
  refine ⟨by omega, ?_, fun y h1 h2 h3 hlt => ?_⟩
  ·have := (ep r g1 (by omega)).1 (g4 (by omega))
   by_cases hc : lt s.f s.g (fr + r)
   ·exact hc
   ·exact absurd ⟨fun h => absurd h hc, fun h => absurd h hfr⟩ this
  ·have h4 := g3 (y - fr) (by omega) (by omega)
   have h5 := (ep (y - fr) (by omega) (by omega)).2 (by rw [show fr + (y - fr) = y by omega]; exact fun h3 => hfr (h3.1 hlt))
   rw [h4] at h5
   cases h5
theorem belowR_isB {f g : List PC} (hf : FOk f) (hg : FOk g) {M : Nat} (hM : StOk f g M) {lo hi : Int} (h0 : 0 ≤ lo) (h1 : lo ≤ hi) (h2 : hi ≤ 100000) : ∀ (d j : Nat), j + d = M → (∀ y, lo ≤ y → y ≤ hi → y < (stp f g j).2.2 → ¬ LT f g y) → IsB f g lo hi (belowR lo hi ((stL f g M).drop j)) := by
 intro d
 induction d with
 | zero =>
  intro j hj hb
  rw [List.drop_of_length_le (by rw [stL_len]; omega)]
  refine .inr ⟨rfl, fun y hy1 hy2 => hb y hy1 hy2 ?_⟩
  have := end_x hf hg hM
  rw [show j = M by omega, this]
  omega
 | succ d ih =>
  intro j hj hb
  have hjM : j < M := by omega
  have hs := stE_ok hf hg hM hjM
  have e : (stL f g M).drop j = stE f g j :: (stL f g M).drop (j + 1) := by
   rw [List.drop_eq_getElem_cons (by rw [stL_len]; exact hjM)]
   congr 1
   simp [stL]
  have hin : ∀ y, (stp f g j).2.2 ≤ y → y < (stp f g (j + 1)).2.2 → (LT f g y ↔ lt (stE f g j).f (stE f g j).g y) := fun y hy1 hy2 => by
   obtain ⟨a, b⟩ := at_in hf hg hy1 hy2
   exact LT_iff hf hg a b
  rw [e]
  unfold belowR
  rw [List.findSome?_cons]
  cases hO : belowO lo hi (stE f g j) with
  | some v =>
   obtain ⟨⟨a1, a2, a3, a4⟩, a5, a6⟩ := belowO_some hs hO
   have a1' : (stp f g j).2.2 ≤ v := a1
   have a2' : v < (stp f g (j + 1)).2.2 := a2
   refine .inl ⟨v, rfl, a3, a4, (hin v a1' a2').2 a5, fun y hy1 hy2 => ?_⟩
   by_cases hy3 : y < (stp f g j).2.2
   ·exact hb y hy1 (by omega) hy3
   ·exact fun h => a6 y (show (stp f g j).2.2 ≤ y by omega) hy1 hy2 ((hin y (by omega) (by omega)).1 h)
  | none =>
   have a := belowO_none hs hO
   exact ih (j + 1) (by omega) (fun y hy1 hy4 hy2 => by
    by_cases hy3 : y < (stp f g j).2.2
    ·exact hb y hy1 hy4 hy3
    ·exact fun h => a y (show (stp f g j).2.2 ≤ y by omega) hy2 hy1 hy4 ((hin y (by omega) hy2).1 h))
theorem below_eq {f g : List PC} (hf : FOk f) (hg : FOk g) {lo hi : Int} (h0 : 0 ≤ lo) (h1 : lo ≤ hi) (h2 : hi ≤ 100000) : ∃ r, piecewise_Below.f f g lo hi = some r ∧ IsB f g lo hi r := by
 obtain ⟨M, hM, hS, hM1, hM0⟩ := stM_ex hf hg
 have hok : ∀ s ∈ stL f g M, SOk s := fun s hs => stL_ok hf hg hS hs
 have hkV : 100 ≤ kV := by unfold kV; omega
 refine ⟨belowR lo hi (stL f g M), ?_, ?_⟩
 ·unfold piecewise_Below.f
  rw [valid_eq f hkV, valid_eq g hkV, decide_eq_true hf, decide_eq_true hg, hM]
  simp only [Option.bind_some, if_true]
  rw [if_pos ⟨trivial, h0, h1, h2⟩, if_pos (List.all_eq_true.2 (fun s hs => (hok s hs).rng))]
 ·have := belowR_isB hf hg hS h0 h1 h2 M 0 (by omega) (fun y hy1 _ hy2 => by
   have : y < 0 := hy2
   omega)
  rwa [List.drop_zero] at this
theorem value_ev {f : List PC} (hf : FOk f) {x : Int} {i : Nat} (h : atI f x i) (h0 : 0 ≤ x) (h1 : x ≤ 100001) : Ev (fun k => cohousingref05_Value.f k f x) (red (num (lineL (pA f i)) x) (lineL (pA f i)).d) := by
 unfold cohousingref05_Value.f
 exact Ev.bnd (piece_ev hf h) (Ev.bnd (lineP_ev (hf.pok h.1) (hf.in_ h.1).1 (hf.in_ h.1).2 h0 h1) (Ev.pure _))
end Go.Proofs.Ytmhimmodigeeiaa.P
end
section
namespace Go.Proofs.Ytmhimmodigeeiaa.P
open Go.RowKit Go.Proofs.YtmhimmodigeeiaaW.PrintWords Go.Proofs.YtmhimmodigeeiaaW.PrintLast Go.Proofs.YtmhimmodigeeiaaW.PrintMore
set_option linter.unusedVariables false
set_option linter.unusedSimpArgs false
open Classical
theorem pc_self {p : PC} (h : POk p) : pc (lineL p) p.f0 = p := by
 have e1 : num (lineL p) p.f0 = p.f1.f0 * p.f2.f1 := by
  rw [lineL_eq h]
  exact num_fr _ _ _ _
 have e2 := red_slope h
 unfold pc
 rw [e1, e2]
 rw [lineL_eq h]
 obtain ⟨⟨a1, a2, a3, a4, a5⟩, ⟨b1, b2, b3, b4, b5⟩, c1, c2, c3, c4⟩ := h
 have hp := mul_pos_in a1 c1 b1 c2
 have e3 : red (p.f1.f0 * p.f2.f1) (p.f1.f1 * p.f2.f1) = (p.f1.f0, p.f1.f1) := by
  rw [← red_id (n := p.f1.f0) (d := p.f1.f1) (by omega) a5]
  refine red_eq (by omega) (by omega) ?_
  rw [Int.mul_assoc, Int.mul_comm p.f2.f1]
 dsimp only
 rw [e3]
def lineS (a b : Int) (p : PC) : LN := ⟨(lineL p).n * a, (lineL p).s * a, (lineL p).d * b, p.f0⟩
theorem num_S {a b : Int} {p : PC} (h : POk p) (x : Int) : num (lineS a b p) x = num (lineL p) x * a := by
 rw [num_at (lineS a b p) p.f0 x, num_at (lineL p) p.f0 x]
 have e1 : num (lineS a b p) p.f0 = (lineL p).n * a := num_fr _ _ _ _
 have e2 : num (lineL p) p.f0 = (lineL p).n := by rw [lineL_eq h]; exact num_fr _ _ _ _
 rw [e1, e2, Int.add_mul]
 show _ + (lineL p).s * a * (x - p.f0) = _ + (lineL p).s * (x - p.f0) * a
 rw [Int.mul_assoc, Int.mul_comm a, ← Int.mul_assoc]
theorem POk.dpos {p : PC} (h : POk p) : 0 < (lineL p).d := by
 rw [lineL_eq h]
 exact Int.mul_pos (show 0 < p.f1.f1 from h.1.1) (show 0 < p.f2.f1 from h.2.1.1)
theorem same_S {a b : Int} (hb : 0 < b) {p q : PC} (hp : POk p) (hq : POk q) : same (lineS a b p) (lineS a b q) ↔ a = 0 ∨ same (lineL p) (lineL q) := by
 have e : ∀ x, num (lineS a b p) x * (lineS a b q).d = num (lineL p) x * (lineL q).d * (a * b) ∧ num (lineS a b q) x * (lineS a b p).d = num (lineL q) x * (lineL p).d * (a * b) := fun x => by
  rw [num_S hp, num_S hq]
  show num (lineL p) x * a * ((lineL q).d * b) = _ ∧ num (lineL q) x * a * ((lineL p).d * b) = _
  constructor <;> simp [Int.mul_comm, Int.mul_left_comm, Int.mul_assoc]
 constructor
 ·intro h
  by_cases ha : a = 0
  ·exact .inl ha
  ·refine .inr (fun x => ?_)
   have h1 := h x
   rw [(e x).1, (e x).2] at h1
   exact Int.eq_of_mul_eq_mul_right (by
    intro h2
    rcases Int.mul_eq_zero.1 h2 with h3 | h3
    ·exact ha h3
    ·omega) h1
 ·intro h x
  rw [(e x).1, (e x).2]
  rcases h with h | h
  ·rw [h]; simp
  ·rw [h x]
def scEs (a b : Int) (f : List PC) : List (LN × Int) := f.map (fun p => (lineS a b p, p.f0))
theorem pc_S {a b : Int} (hb : 0 < b) {p : PC} (h : POk p) : pc (lineS a b p) p.f0 = ⟨p.f0, ⟨(red (p.f1.f0 * a) (p.f1.f1 * b)).1, (red (p.f1.f0 * a) (p.f1.f1 * b)).2⟩, ⟨(red (p.f2.f0 * a) (p.f2.f1 * b)).1, (red (p.f2.f0 * a) (p.f2.f1 * b)).2⟩⟩ := by
 have h1 := h
 obtain ⟨⟨a1, a2, a3, a4, a5⟩, ⟨b1, b2, b3, b4, b5⟩, c1, c2, c3, c4⟩ := h
 have d1 : 0 < p.f1.f1 := by omega
 have d2 : 0 < p.f2.f1 := by omega
 have hp := Int.mul_pos d1 d2
 have e1 : red (num (lineS a b p) p.f0) (lineS a b p).d = red (p.f1.f0 * a) (p.f1.f1 * b) := by
  have : num (lineS a b p) p.f0 = (lineL p).n * a := num_fr _ _ _ _
  rw [this]
  show red ((lineL p).n * a) ((lineL p).d * b) = _
  rw [lineL_eq h1]
  dsimp only
  refine red_eq (Int.mul_pos hp hb) (Int.mul_pos d1 hb) ?_
  simp [Int.mul_comm, Int.mul_left_comm]
 have e2 : red (lineS a b p).s (lineS a b p).d = red (p.f2.f0 * a) (p.f2.f1 * b) := by
  show red ((lineL p).s * a) ((lineL p).d * b) = _
  rw [lineL_eq h1]
  dsimp only
  refine red_eq (Int.mul_pos hp hb) (Int.mul_pos d2 hb) ?_
  simp [Int.mul_comm, Int.mul_left_comm]
 unfold pc
 rw [e1, e2]
theorem sc_bounds {a b : Int} (hr : RV a b) {p : PC} (h : POk p) : (-1000000000000000000 ≤ p.f1.f0 * a ∧ p.f1.f0 * a ≤ 1000000000000000000) ∧ (1 ≤ p.f1.f1 * b ∧ p.f1.f1 * b ≤ 100000000000) ∧ (-100000000000000 ≤ p.f2.f0 * a ∧ p.f2.f0 * a ≤ 100000000000000) ∧ (1 ≤ p.f2.f1 * b ∧ p.f2.f1 * b ≤ 100000000000) := by
 obtain ⟨⟨a1, a2, a3, a4, a5⟩, ⟨b1, b2, b3, b4, b5⟩, c1, c2, c3, c4⟩ := h
 obtain ⟨r1, r2, r3, r4, _⟩ := hr
 have e1 := mul_in a3 a4 r3 r4
 have e2 := mul_pos_in a1 c1 r1 r2
 have e3 := mul_in c3 c4 r3 r4
 have e4 := mul_pos_in b1 c2 r1 r2
 omega
noncomputable def scR (out t : List PC) : List PC × Int := if ∃ p, p ∈ t ∧ ¬ POk p then ([], 3) else (out ++ t, 0)
theorem scR_cons {out t : List PC} {p : PC} (h : POk p) : scR out (p :: t) = scR (out ++ [p]) t := by
 unfold scR
 have e : (∃ q, q ∈ p :: t ∧ ¬ POk q) ↔ ∃ q, q ∈ t ∧ ¬ POk q := by
  constructor
  ·rintro ⟨q, hq, hn⟩
   rcases List.mem_cons.1 hq with rfl | hq
   ·exact absurd h hn
   ·exact ⟨q, hq, hn⟩
  ·rintro ⟨q, hq, hn⟩
   exact ⟨q, List.mem_cons_of_mem _ hq, hn⟩
 simp only [e, List.append_assoc, List.singleton_append]
theorem scR_bad {out t : List PC} {p : PC} (h : ¬ POk p) : scR out (p :: t) = ([], 3) := if_pos ⟨p, List.mem_cons_self .., h⟩
theorem drop_sc {a b : Int} {f : List PC} {i : Nat} (h : i < f.length) : (scEs a b f).drop i = (lineS a b (pA f i), (pA f i).f0) :: (scEs a b f).drop (i + 1) := by
 unfold scEs
 rw [List.drop_eq_getElem_cons (by rw [List.length_map]; exact h), List.getElem_map, pA_get h]
def prevS (a b : Int) (f : List PC) (i : Nat) : Option LN := if i = 0 then none else some (lineS a b (pA f (i - 1)))
theorem outM_S {a b : Int} (hb : 0 < b) {f : List PC} (hf : FOk f) {i : Nat} (h : i < f.length) : outM (prevS a b f i) ((scEs a b f).drop i) = (if 0 < i ∧ (a = 0 ∨ same (lineL (pA f (i - 1))) (lineL (pA f i))) then [] else [pc (lineS a b (pA f i)) (pA f i).f0]) ++ outM (prevS a b f (i + 1)) ((scEs a b f).drop (i + 1)) := by
 have e1 : prevS a b f (i + 1) = some (lineS a b (pA f i)) := by unfold prevS; rw [if_neg (by omega), Nat.add_sub_cancel]
 rw [drop_sc h, e1]
 by_cases hz : i = 0
 ·have e0 : prevS a b f i = none := if_pos hz
  rw [e0, if_neg (by omega)]
  rfl
 ·have e0 : prevS a b f i = some (lineS a b (pA f (i - 1))) := if_neg hz
  have hs := same_S (a := a) hb (hf.pok (show i - 1 < f.length by omega)) (hf.pok h)
  rw [e0]
  show (if same (lineS a b (pA f (i - 1))) (lineS a b (pA f i)) then _ else _) ++ _ = _
  by_cases hc : a = 0 ∨ same (lineL (pA f (i - 1))) (lineL (pA f i))
  ·rw [if_pos (hs.2 hc), if_pos ⟨by omega, hc⟩]
  ·rw [if_neg (fun h => hc (hs.1 h)), if_neg (fun h => hc h.2)]
theorem scale_l0 {a b : Int} (hr : RV a b) {f : List PC} (hf : FOk f) : ∀ (d i : Nat) (out : List PC), i + d = f.length → out.length ≤ i → Ev (fun k => piecewise_Scale.l0 k f out f (f.length : Int) (i : Int) a b) (scR out (outM (prevS a b f i) ((scEs a b f).drop i))) := by
 have hfew := hf.few
 have hb : 0 < b := by have := hr.1; omega
 intro d
 induction d with
 | zero =>
  intro i out hi ho
  have h1 : ¬ (i : Int) < (f.length : Int) := by omega
  have e : (scEs a b f).drop i = [] := List.drop_of_length_le (by unfold scEs; rw [List.length_map]; omega)
  refine Ev.step ?_
  simp only [piecewise_Scale.l0, h1, if_false]
  rw [e]
  have e2 : outM (prevS a b f i) [] = [] := by cases prevS a b f i <;> rfl
  rw [e2]
  unfold scR
  rw [if_neg (fun ⟨p, hp, _⟩ => by cases hp), List.append_nil]
  exact Ev.pure _
 | succ d ih =>
  intro i out hi ho
  have hil : i < f.length := by omega
  have h1 : (i : Int) < (f.length : Int) := by omega
  have h2 : 0 ≤ (i : Int) := by omega
  have ew : wrap64 ((i : Int) + 1) = ((i + 1 : Nat) : Int) := by unfold wrap64; omega
  have hp := hf.pok hil
  have hin := hf.in_ hil
  have hbd := sc_bounds hr hp
  have hll : out.length < 3518437208883 := by omega
  have eM := outM_S (a := a) hb hf hil
  have skip : (0 < i ∧ (a = 0 ∨ same (lineL (pA f (i - 1))) (lineL (pA f i)))) → Ev (fun k => piecewise_Scale.j2 k f out f (f.length : Int) (i : Int) true a b (pA f i).f0 (pA f i).f1.f0 (pA f i).f1.f1 (pA f i).f2.f0 (pA f i).f2.f1) (scR out (outM (prevS a b f i) ((scEs a b f).drop i))) := fun hc => by
   rw [eM, if_pos hc, List.nil_append]
   refine Ev.step ?_
   simp only [piecewise_Scale.j2, if_true, ew]
   exact ih (i + 1) out (by omega) (by omega)
  have take : (¬ (0 < i ∧ (a = 0 ∨ same (lineL (pA f (i - 1))) (lineL (pA f i))))) → Ev (fun k => piecewise_Scale.j2 k f out f (f.length : Int) (i : Int) false a b (pA f i).f0 (pA f i).f1.f0 (pA f i).f1.f1 (pA f i).f2.f0 (pA f i).f2.f1) (scR out (outM (prevS a b f i) ((scEs a b f).drop i))) := fun hc => by
   rw [eM, if_neg hc, List.singleton_append]
   have epc := pc_S (a := a) hb hp
   have hih := ih (i + 1) (out ++ [pc (lineS a b (pA f i)) (pA f i).f0]) (by omega) (by rw [List.length_append, List.length_singleton]; omega)
   have hn := numbers_eq (pc (lineS a b (pA f i)) (pA f i).f0)
   rw [epc] at hih hn ⊢
   have w1 : wrap64 ((pA f i).f1.f0 * a) = (pA f i).f1.f0 * a := wrap_id (by omega) (by omega)
   have w2 : wrap64 ((pA f i).f1.f1 * b) = (pA f i).f1.f1 * b := wrap_id (by omega) (by omega)
   have w3 : wrap64 ((pA f i).f2.f0 * a) = (pA f i).f2.f0 * a := wrap_id (by omega) (by omega)
   have w4 : wrap64 ((pA f i).f2.f1 * b) = (pA f i).f2.f1 * b := wrap_id (by omega) (by omega)
   have l1 : Ev (fun k => piecewise_lowest.f k ((pA f i).f1.f0 * a) ((pA f i).f1.f1 * b)) (red ((pA f i).f1.f0 * a) ((pA f i).f1.f1 * b)) := ⟨100000000001, fun k hk => by clear w1 w2 w3 w4; exact lowest_eq (by omega) (by omega) (by omega) (by omega) (by omega)⟩
   have l2 : Ev (fun k => piecewise_lowest.f k ((pA f i).f2.f0 * a) ((pA f i).f2.f1 * b)) (red ((pA f i).f2.f0 * a) ((pA f i).f2.f1 * b)) := ⟨100000000001, fun k hk => by clear w1 w2 w3 w4; exact lowest_eq (by omega) (by omega) (by omega) (by omega) (by omega)⟩
   refine Ev.step ?_
   simp only [piecewise_Scale.j2, Bool.false_eq_true, if_false, w1, w2, w3, w4]
   refine Ev.bnd l1 (Ev.bnd l2 ?_)
   simp only [hn, Option.bind_some, decide_eq_true_eq]
   by_cases hq : POk (⟨(pA f i).f0, ⟨(red ((pA f i).f1.f0 * a) ((pA f i).f1.f1 * b)).1, (red ((pA f i).f1.f0 * a) ((pA f i).f1.f1 * b)).2⟩, ⟨(red ((pA f i).f2.f0 * a) ((pA f i).f2.f1 * b)).1, (red ((pA f i).f2.f0 * a) ((pA f i).f2.f1 * b)).2⟩⟩ : PC)
   ·simp only [hq, if_true, hll, ew]
    rw [scR_cons hq]
    exact hih
   ·simp only [hq, if_false]
    rw [scR_bad hq]
    exact Ev.pure _
  refine Ev.step ?_
  by_cases hz : 0 < i
  ·have h3 : (i : Int) > 0 := by omega
   have e4 : wrap64 ((i : Int) - 1) = ((i - 1 : Nat) : Int) := by unfold wrap64; omega
   have e5 : 0 ≤ ((i - 1 : Nat) : Int) := by omega
   have e6 : ((i - 1 : Nat) : Int) < (f.length : Int) := by omega
   by_cases ha : a = 0
   ·simp only [piecewise_Scale.l0, h1, h2, h3, ha, if_true]
    have := skip ⟨hz, .inl ha⟩
    rw [ha] at this
    exact this
   ·have hp' := hf.pok (show i - 1 < f.length by omega)
    have hl' := hf.lb (show i - 1 < f.length by omega)
    have hLP : Ev (fun k => piecewise_line_piece.f k (lineL (pA f (i - 1))).n (lineL (pA f (i - 1))).s (lineL (pA f (i - 1))).d (lineL (pA f (i - 1))).fr (pA f i).f0) ((pA f i).f0, (red (num (lineL (pA f (i - 1))) (pA f i).f0) (lineL (pA f (i - 1))).d).1, (red (num (lineL (pA f (i - 1))) (pA f i).f0) (lineL (pA f (i - 1))).d).2, (red (lineL (pA f (i - 1))).s (lineL (pA f (i - 1))).d).1, (red (lineL (pA f (i - 1))).s (lineL (pA f (i - 1))).d).2) := by
     have q1 := hl'.num_in hin.1 (show (pA f i).f0 ≤ 100001 by omega)
     have q2 := hl'.s1
     have q3 := hl'.s2
     have q4 := hl'.d1
     have q5 := hl'.d2
     have ea : piecewise_line_at.f (lineL (pA f (i - 1))).n (lineL (pA f (i - 1))).s (lineL (pA f (i - 1))).d (lineL (pA f (i - 1))).fr (pA f i).f0 = some (num (lineL (pA f (i - 1))) (pA f i).f0) := congrArg some (atL_eq hl'.w hin.1 (show (pA f i).f0 ≤ 100001 by omega))
     unfold piecewise_line_piece.f
     simp only [ea, Option.bind_some]
     clear ea e4 ew
     exact Ev.bnd (b := red (num (lineL (pA f (i - 1))) (pA f i).f0) (lineL (pA f (i - 1))).d) ⟨20000, fun k hk => lowest_eq (by omega) (by omega) (by omega) (by omega) (by omega)⟩ (Ev.bnd (b := red (lineL (pA f (i - 1))).s (lineL (pA f (i - 1))).d) ⟨20000, fun k hk => lowest_eq (by omega) (by omega) (by omega) (by omega) (by omega)⟩ (Ev.pure _))
    have eline : piecewise_lineOf.f (pA f (i - 1)).f0 (pA f (i - 1)).f1.f0 (pA f (i - 1)).f1.f1 (pA f (i - 1)).f2.f0 (pA f (i - 1)).f2.f1 = some ((lineL (pA f (i - 1))).n, (lineL (pA f (i - 1))).s, (lineL (pA f (i - 1))).d, (lineL (pA f (i - 1))).fr) := rfl
    simp only [piecewise_Scale.l0, h1, h2, h3, ha, e4, e5, e6, if_true, if_false, eline, Option.bind_some]
    refine Ev.bnd hLP ?_
    have eq1 : ((pA f i).f0 == (pA f i).f0 && (((pA f i).f1.f0 == (red (num (lineL (pA f (i - 1))) (pA f i).f0) (lineL (pA f (i - 1))).d).1 && (pA f i).f1.f1 == (red (num (lineL (pA f (i - 1))) (pA f i).f0) (lineL (pA f (i - 1))).d).2) && ((pA f i).f2.f0 == (red (lineL (pA f (i - 1))).s (lineL (pA f (i - 1))).d).1 && (pA f i).f2.f1 == (red (lineL (pA f (i - 1))).s (lineL (pA f (i - 1))).d).2))) = decide (same (lineL (pA f (i - 1))) (lineL (pA f i))) := by
     have h7 := eqP_iff (pA f i) (pc (lineL (pA f (i - 1))) (pA f i).f0)
     have h8 := pc_iff hp'.dpos hp.dpos (pA f i).f0
     rw [pc_self hp] at h8
     have h9 : eqP (pA f i) (pc (lineL (pA f (i - 1))) (pA f i).f0) = decide (same (lineL (pA f (i - 1))) (lineL (pA f i))) := by
      rw [Bool.eq_iff_iff, decide_eq_true_eq, h7, ← h8]
      exact ⟨fun h => h.symm, fun h => h.symm⟩
     exact h9
    rw [eq1]
    by_cases hs : same (lineL (pA f (i - 1))) (lineL (pA f i))
    ·rw [decide_eq_true hs]
     exact skip ⟨hz, .inr hs⟩
    ·rw [decide_eq_false hs]
     exact take (fun h => h.2.elim ha hs)
  ·have h3 : ¬ (i : Int) > 0 := by omega
   simp only [piecewise_Scale.l0, h1, h2, h3, if_true, if_false]
   exact take (fun h => hz h.1)
theorem scale_ev {a b : Int} (hr : RV a b) {f : List PC} (hf : FOk f) : Ev (fun k => piecewise_Scale.f k f a b) (scR [] (outM none (scEs a b f))) := by
 unfold piecewise_Scale.f
 refine Ev.bnd (b := decide (FOk f)) ⟨100, fun k hk => valid_eq f hk⟩ ?_
 simp only [decide_eq_true hf, if_true, rvalid_eq, decide_eq_true hr, Option.bind_some, Bool.not_true]
 refine Ev.step ?_
 simp only [piecewise_Scale.j0, Bool.false_eq_true, if_false]
 have := scale_l0 hr hf f.length 0 [] (by omega) (by simp)
 rw [List.drop_zero] at this
 exact this
set_option maxRecDepth 100000 in
theorem head_ev : Ev (fun k => cohousinglaw05_head.f k) true := Ev.of_mono 120 (by kernel_rfl) (fun k => cohousinglaw05_head.mono k)
theorem outM_len : ∀ (es : List (LN × Int)) (m : Option LN), (outM m es).length ≤ es.length
 | [], m => by cases m <;> simp [outM]
 | e :: t, none => by simp only [outM, List.length_cons]; have := outM_len t (some e.1); omega
 | e :: t, some m => by
  have := outM_len t (some e.1)
  simp only [outM, List.length_append, List.length_cons]
  split <;> simp only [List.length_nil, List.length_singleton] <;> omega
end Go.Proofs.Ytmhimmodigeeiaa.P
end
section
namespace Go.Proofs.Ytmhimmodigeeiaa.P
open Go.RowKit Go.Proofs.YtmhimmodigeeiaaW.PrintWords Go.Proofs.YtmhimmodigeeiaaW.PrintLast Go.Proofs.YtmhimmodigeeiaaW.PrintMore
attribute [local go_sem] max2_int min2_int max_two min_two max_three min_three max_four min_four
set_option linter.unusedVariables false
set_option linter.unusedSimpArgs false
set_option maxHeartbeats 8000000
set_option maxRecDepth 100000
section
def cohousingref05_Reduced.l0 : Nat → List (S51) → Int → Option (Bool)
 | 0, _, _ => none
 | k + 1, x0, x3 => if x3 < (x0.length : Int) then (if 0 ≤ (wrap64 (x3 - 1)) then (if (wrap64 (x3 - 1)) < (x0.length : Int) then (if 0 ≤ x3 then ((cohousingref05_continues.f k ((rd_T51 x0 (wrap64 (x3 - 1))).f0) ((rd_T51 x0 (wrap64 (x3 - 1))).f1.f0) ((rd_T51 x0 (wrap64 (x3 - 1))).f1.f1) ((rd_T51 x0 (wrap64 (x3 - 1))).f2.f0) ((rd_T51 x0 (wrap64 (x3 - 1))).f2.f1) ((rd_T51 x0 x3).f0) ((rd_T51 x0 x3).f1.f0) ((rd_T51 x0 x3).f1.f1) ((rd_T51 x0 x3).f2.f0) ((rd_T51 x0 x3).f2.f1)).bind fun t647 => (if t647 = true then (some false) else (cohousingref05_Reduced.l0 k x0 (wrap64 (x3 + 1))))) else (none)) else (none)) else (none)) else (some true)
def cohousingref05_Reduced.f (k : Nat) (l0 : List (S51)) : Option (Bool) := cohousingref05_Reduced.l0 k l0 1
def cohousingref05_Reduced.T4 : Bool × List (List Nat × List Nat) := (true, [([], []), ([], []), ([1], [1]), ([0, 2], [0, 2]), ([3], [3]), ([], []), ([], []), ([5, 6], [5, 6]), ([7], [7]), ([4, 8], [4, 8]), ([9, 9, 0, 1, 2, 3, 4, 5, 6, 7, 8, 9], [9])])
def cohousingref05_Reduced.B4 : List Nat := [0, 0, 2, 7, 15, 0, 0, 96, 224, 511, 1023]
theorem cohousingref05_Reduced.tab4 : rtab .any (opsOf Try.f31 4) = cohousingref05_Reduced.T4 := by kernel_rfl
theorem cohousingref05_Reduced.bits4 : waitsOk cohousingref05_Reduced.T4.2 cohousingref05_Reduced.B4 = true := by kernel_rfl
theorem cohousingref05_Reduced.calls (k : Nat) (A0 : Option Addr) (c0 : Nat) (l0 : List (S51)) (r : Bool) (w : World) (hr0 : Kd.C k51 w A0 l0.length l0) (hc0 : l0.length ≤ c0) (h : cohousingref05_Reduced.f k l0 = some r) :
  Calls Try.prog 31 #[.slice A0 l0.length c0] w fun e w' => e = .returned (.bool r) ∧ Below w.heap.size w w' := by
 have hu51 := Try.underlying51
 have HR0 := mk_ hr0
 have HC0 := mk_ hc0
 clear hr0 hc0
 have HB := mk_ (Below.refl w.heap.size w)
 have H : (cohousingref05_Reduced.l0 k l0 1) = some r := h
 clear h
 have H' := mk_ H
 clear H
 go_enter Try.func31, Try.ntmps31
 go_wp2
 go_loopg [3] k (fun kq v3 w' => ∃ (x3_1 : Int), v3 = .int .i64 x3_1 ∧ Aside0 (cohousingref05_Reduced.l0 kq l0 x3_1 = some r) ∧ Aside0 (kq ≤ k) ∧ Aside0 (Below w.heap.size w w'))
 case atStart => exact ⟨(1), sd_, H', ⟨Nat.le_refl _⟩, ⟨bb_ HB⟩⟩
 case round =>
  clear H'
  obtain ⟨x3_1, rfl, HA, HK1, HB⟩ := hrel
  cases gk with
  | zero => exact absurd HA.out (by simp [cohousingref05_Reduced.l0])
  | succ k1 =>
   have H := HA.out
   clear HA
   simp only [cohousingref05_Reduced.l0] at H
   by_cases c2 : x3_1 < (l0.length : Int)
   rotate_left
   ·rw [if_neg c2] at H
    have c2b0 : decide (x3_1 < (l0.length : Int)) = false := decide_eq_false c2
    clear c2
    obtain rfl := Option.some.inj H
    go_wp2
    go_ret
    exact ⟨ew_, bb_ HB⟩
   rw [if_pos c2] at H
   have c2b0 : decide (x3_1 < (l0.length : Int)) = true := decide_eq_true c2
   clear c2
   obtain ⟨ji3, hji3⟩ : ∃ j_ : Int, (wrap64 (x3_1 - 1)) = j_ := ⟨_, rfl⟩
   replace H : (if 0 ≤ (ji3) then (if (ji3) < (l0.length : Int) then (if 0 ≤ x3_1 then ((cohousingref05_continues.f k1 ((rd_T51 l0 (ji3)).f0) ((rd_T51 l0 (ji3)).f1.f0) ((rd_T51 l0 (ji3)).f1.f1) ((rd_T51 l0 (ji3)).f2.f0) ((rd_T51 l0 (ji3)).f2.f1) ((rd_T51 l0 x3_1).f0) ((rd_T51 l0 x3_1).f1.f0) ((rd_T51 l0 x3_1).f1.f1) ((rd_T51 l0 x3_1).f2.f0) ((rd_T51 l0 x3_1).f2.f1)).bind fun t647 => (if t647 = true then (some false) else (cohousingref05_Reduced.l0 k1 l0 (wrap64 (x3_1 + 1))))) else (none)) else (none)) else (none)) = some r := by first | (rw [hji3] at H; exact H) | (simp only [hji3] at H ⊢; exact H)
   have hji3w : (IntKind.i64.wrap (x3_1 - 1)) = ji3 := (i64_w _).trans hji3
   by_cases c4 : 0 ≤ (ji3)
   rotate_left
   ·rw [if_neg c4] at H
    exact absurd H (by simp)
   rw [if_pos c4] at H
   have c4b0 : decide (0 ≤ (ji3)) = true := decide_eq_true c4
   clear c4
   by_cases c5 : (ji3) < (l0.length : Int)
   rotate_left
   ·rw [if_neg c5] at H
    exact absurd H (by simp)
   rw [if_pos c5] at H
   have c5b0 : decide ((ji3) < (l0.length : Int)) = true := decide_eq_true c5
   clear c5
   by_cases c6 : 0 ≤ x3_1
   rotate_left
   ·rw [if_neg c6] at H
    exact absurd H (by simp)
   rw [if_pos c6] at H
   have c6b0 : decide (0 ≤ x3_1) = true := decide_eq_true c6
   clear c6
   replace H := Option.bind_eq_some_iff.mp H
   obtain ⟨t647, A70, H⟩ := H
   replace H : (if t647 = true then (some false) else (cohousingref05_Reduced.l0 k1 l0 (wrap64 (x3_1 + 1)))) = some r := H
   have A7 := mk_ A70
   clear A70
   by_cases c8 : t647 = true
   ·subst c8
    have H1 : (some false) = some r := by rw [if_pos rfl] at H; exact H
    clear H
    have H := H1
    clear H1
    obtain rfl := Option.some.inj H
    try go_wp2
    have n0_ := mk_ (below_drew1 HB.out)
    clear HB
    have HB := n0_
    clear n0_
    have p645 : 0 ≤ ((ji3) : Int) := od_
    have q645 : (ji3) < (l0.length : Int) := od_
    obtain ⟨ad645, e645, hx645_0, hx645_1, hx645_2, hx645_3, hx645_4⟩ := at_T51 HR0.out (ji3) p645 q645
    have hw645_4 := hx645_4
    have hw645_3 := hx645_3
    have hw645_2 := hx645_2
    have hw645_1 := hx645_1
    have hw645_0 := hx645_0
    cases e645
    replace hx645_0 := cb_ HB hx645_0
    replace hx645_1 := cb_ HB hx645_1
    replace hx645_2 := cb_ HB hx645_2
    replace hx645_3 := cb_ HB hx645_3
    replace hx645_4 := cb_ HB hx645_4
    replace p645 := eq_true p645
    replace q645 := eq_true q645
    have p646 : 0 ≤ (x3_1 : Int) := od_
    have q646 : x3_1 < (l0.length : Int) := od_
    obtain ⟨ad646, e646, hx646_0, hx646_1, hx646_2, hx646_3, hx646_4⟩ := at_T51 HR0.out x3_1 p646 q646
    have hw646_4 := hx646_4
    have hw646_3 := hx646_3
    have hw646_2 := hx646_2
    have hw646_1 := hx646_1
    have hw646_0 := hx646_0
    obtain rfl : ad645 = ad646 := (by injection e646)
    replace hx646_0 := cb_ HB hx646_0
    replace hx646_1 := cb_ HB hx646_1
    replace hx646_2 := cb_ HB hx646_2
    replace hx646_3 := cb_ HB hx646_3
    replace hx646_4 := cb_ HB hx646_4
    replace p646 := eq_true p646
    replace q646 := eq_true q646
    refine start_ (n := 11) (S := fun w' => w'.cell? (ad645.add (((ji3)).toNat * 5)) = some (.int .i64 ((rd_T51 l0 (ji3)).f0)) ∧ w'.cell? ⟨(ad645.add (((ji3)).toNat * 5)).block, (ad645.add (((ji3)).toNat * 5)).off + 1, none⟩ = some (.int .i64 ((rd_T51 l0 (ji3)).f1.f0)) ∧ w'.cell? ⟨(ad645.add (((ji3)).toNat * 5)).block, (ad645.add (((ji3)).toNat * 5)).off + 2, none⟩ = some (.int .i64 ((rd_T51 l0 (ji3)).f1.f1)) ∧ w'.cell? ⟨(ad645.add (((ji3)).toNat * 5)).block, (ad645.add (((ji3)).toNat * 5)).off + 3, none⟩ = some (.int .i64 ((rd_T51 l0 (ji3)).f2.f0)) ∧ w'.cell? ⟨(ad645.add (((ji3)).toNat * 5)).block, (ad645.add (((ji3)).toNat * 5)).off + 4, none⟩ = some (.int .i64 ((rd_T51 l0 (ji3)).f2.f1)) ∧ w'.cell? (ad645.add ((x3_1).toNat * 5)) = some (.int .i64 ((rd_T51 l0 x3_1).f0)) ∧ w'.cell? ⟨(ad645.add ((x3_1).toNat * 5)).block, (ad645.add ((x3_1).toNat * 5)).off + 1, none⟩ = some (.int .i64 ((rd_T51 l0 x3_1).f1.f0)) ∧ w'.cell? ⟨(ad645.add ((x3_1).toNat * 5)).block, (ad645.add ((x3_1).toNat * 5)).off + 2, none⟩ = some (.int .i64 ((rd_T51 l0 x3_1).f1.f1)) ∧ w'.cell? ⟨(ad645.add ((x3_1).toNat * 5)).block, (ad645.add ((x3_1).toNat * 5)).off + 3, none⟩ = some (.int .i64 ((rd_T51 l0 x3_1).f2.f0)) ∧ w'.cell? ⟨(ad645.add ((x3_1).toNat * 5)).block, (ad645.add ((x3_1).toNat * 5)).off + 4, none⟩ = some (.int .i64 ((rd_T51 l0 x3_1).f2.f1))) (ds := []) #[n_, n_, n_, n_, n_, n_, n_, n_, n_, n_, n_] (by kernel_rfl) rfl rfl ⟨(cb_ HB hw645_0), (cb_ HB hw645_1), (cb_ HB hw645_2), (cb_ HB hw645_3), (cb_ HB hw645_4), (cb_ HB hw646_0), (cb_ HB hw646_1), (cb_ HB hw646_2), (cb_ HB hw646_3), (cb_ HB hw646_4)⟩ (fun hHeld => ?_); refine with_tabW cohousingref05_Reduced.tab4 cohousingref05_Reduced.bits4 (fun HT_ HW_ => ?_)
    generalize wr.drew = w9 at HB hx645_0 hx645_1 hx645_2 hx645_3 hx645_4 hx646_0 hx646_1 hx646_2 hx646_3 hx646_4 hHeld ⊢
    refine pu_ 0 11 (w_ 11 1) rfl HT_ ?_
    refine pu_ 1 12 (w_ 11 3) rfl HT_ ?_
    refine pu_ 2 13 (w_ 11 7) rfl HT_ ?_
    refine pu_ 3 14 (w_ 11 15) rfl HT_ ?_
    refine pu_ 5 16 (w_ 11 47) rfl HT_ ?_
    refine pu_ 6 17 (w_ 11 111) rfl HT_ ?_
    refine pu_ 7 18 (w_ 11 239) rfl HT_ ?_
    refine ta_ 4 15 (w_ 11 255) rfl HT_ HW_ hHeld (by rintro w' ⟨s0, s1, s2, s3, s4, s5, s6, s7, s8, s9⟩; go_simp; with_reducible rfl) ?_
    refine ta_ 8 19 (w_ 11 511) rfl HT_ HW_ hHeld (by rintro w' ⟨s0, s1, s2, s3, s4, s5, s6, s7, s8, s9⟩; go_simp; with_reducible rfl) ?_
    refine one_ (i := 9) (N := some 20) (w_ 11 1023) rfl rfl (one_of HT_.out (by kernel_rfl)) (by decide) (fun K hK => ?_)
    refine goes_ Try.func48 (by kernel_rfl) rfl #[.agg #[.int .i64 ((rd_T51 l0 (ji3)).f0), .int .i64 ((rd_T51 l0 (ji3)).f1.f0), .int .i64 ((rd_T51 l0 (ji3)).f1.f1), .int .i64 ((rd_T51 l0 (ji3)).f2.f0), .int .i64 ((rd_T51 l0 (ji3)).f2.f1)], .agg #[.int .i64 ((rd_T51 l0 x3_1).f0), .int .i64 ((rd_T51 l0 x3_1).f1.f0), .int .i64 ((rd_T51 l0 x3_1).f1.f1), .int .i64 ((rd_T51 l0 x3_1).f2.f0), .int .i64 ((rd_T51 l0 x3_1).f2.f1)]] (by rfl) rfl rfl (by (try simp only [List.map_toArray, List.map_cons, List.map_nil]); first | done | (simp only [hji3]; rfl) | rfl | (simp only [List.length_drop, List.length_take]; rfl)) ?_
    with_reducible refine (cohousingref05_continues.calls k1 ((rd_T51 l0 (ji3)).f0) ((rd_T51 l0 (ji3)).f1.f0) ((rd_T51 l0 (ji3)).f1.f1) ((rd_T51 l0 (ji3)).f2.f0) ((rd_T51 l0 (ji3)).f2.f1) ((rd_T51 l0 x3_1).f0) ((rd_T51 l0 x3_1).f1.f0) ((rd_T51 l0 x3_1).f1.f1) ((rd_T51 l0 x3_1).f2.f0) ((rd_T51 l0 x3_1).f2.f1) true _ A7.out).mono ?_
    rintro e w10 ⟨rfl, hb⟩
    refine ⟨_, rfl, ?_⟩
    have n0_ := mk_ (below_step (bb_ HB) hb)
    clear HB
    have HB := n0_
    clear n0_
    (try clear hb)
    (try clear hb2)
    (try clear hk)
    (try clear hi)
    refine hK.out _ _ ⟨(cb_ HB hw645_0), (cb_ HB hw645_1), (cb_ HB hw645_2), (cb_ HB hw645_3), (cb_ HB hw645_4), (cb_ HB hw646_0), (cb_ HB hw646_1), (cb_ HB hw646_2), (cb_ HB hw646_3), (cb_ HB hw646_4)⟩ (fun hHeld => ?_)
    clear hK K
    refine norm_ (a' := ?_) ?_ ?_
    rotate_left
    ·show Act.put _ (some 20) _ = _
     simp only [Act.put, sI_, s0_, sS_, i64_w, i32_w]
     rfl
    refine pu_ 10 4 (w_ 11 2047) rfl HT_ ?_
    refine done_ (done_of HT_.out (by kernel_rfl)) ?_
    try go_wp2
    go_ret
    exact ⟨by first | rfl | (simp [errW_none, errW_some] <;> rfl) | (simp only [← hji3]; first | rfl | (simp [errW_none, errW_some] <;> rfl)) | (simp [*, errW_none, errW_some] <;> rfl), bb_ HB⟩
   replace c8 := Bool.eq_false_iff.mpr c8
   subst c8
   have H1 : (cohousingref05_Reduced.l0 k1 l0 (wrap64 (x3_1 + 1))) = some r := by rw [if_neg (show ¬ (false = true) by decide)] at H; exact H
   clear H
   have H := H1
   clear H1
   have H' := mk_ H
   clear H
   try go_wp2
   have n0_ := mk_ (below_drew1 HB.out)
   clear HB
   have HB := n0_
   clear n0_
   have p645 : 0 ≤ ((ji3) : Int) := od_
   have q645 : (ji3) < (l0.length : Int) := od_
   obtain ⟨ad645, e645, hx645_0, hx645_1, hx645_2, hx645_3, hx645_4⟩ := at_T51 HR0.out (ji3) p645 q645
   have hw645_4 := hx645_4
   have hw645_3 := hx645_3
   have hw645_2 := hx645_2
   have hw645_1 := hx645_1
   have hw645_0 := hx645_0
   cases e645
   replace hx645_0 := cb_ HB hx645_0
   replace hx645_1 := cb_ HB hx645_1
   replace hx645_2 := cb_ HB hx645_2
   replace hx645_3 := cb_ HB hx645_3
   replace hx645_4 := cb_ HB hx645_4
   replace p645 := eq_true p645
   replace q645 := eq_true q645
   have p646 : 0 ≤ (x3_1 : Int) := od_
   have q646 : x3_1 < (l0.length : Int) := od_
   obtain ⟨ad646, e646, hx646_0, hx646_1, hx646_2, hx646_3, hx646_4⟩ := at_T51 HR0.out x3_1 p646 q646
   have hw646_4 := hx646_4
   have hw646_3 := hx646_3
   have hw646_2 := hx646_2
   have hw646_1 := hx646_1
   have hw646_0 := hx646_0
   obtain rfl : ad645 = ad646 := (by injection e646)
   replace hx646_0 := cb_ HB hx646_0
   replace hx646_1 := cb_ HB hx646_1
   replace hx646_2 := cb_ HB hx646_2
   replace hx646_3 := cb_ HB hx646_3
   replace hx646_4 := cb_ HB hx646_4
   replace p646 := eq_true p646
   replace q646 := eq_true q646
   refine start_ (n := 11) (S := fun w' => w'.cell? (ad645.add (((ji3)).toNat * 5)) = some (.int .i64 ((rd_T51 l0 (ji3)).f0)) ∧ w'.cell? ⟨(ad645.add (((ji3)).toNat * 5)).block, (ad645.add (((ji3)).toNat * 5)).off + 1, none⟩ = some (.int .i64 ((rd_T51 l0 (ji3)).f1.f0)) ∧ w'.cell? ⟨(ad645.add (((ji3)).toNat * 5)).block, (ad645.add (((ji3)).toNat * 5)).off + 2, none⟩ = some (.int .i64 ((rd_T51 l0 (ji3)).f1.f1)) ∧ w'.cell? ⟨(ad645.add (((ji3)).toNat * 5)).block, (ad645.add (((ji3)).toNat * 5)).off + 3, none⟩ = some (.int .i64 ((rd_T51 l0 (ji3)).f2.f0)) ∧ w'.cell? ⟨(ad645.add (((ji3)).toNat * 5)).block, (ad645.add (((ji3)).toNat * 5)).off + 4, none⟩ = some (.int .i64 ((rd_T51 l0 (ji3)).f2.f1)) ∧ w'.cell? (ad645.add ((x3_1).toNat * 5)) = some (.int .i64 ((rd_T51 l0 x3_1).f0)) ∧ w'.cell? ⟨(ad645.add ((x3_1).toNat * 5)).block, (ad645.add ((x3_1).toNat * 5)).off + 1, none⟩ = some (.int .i64 ((rd_T51 l0 x3_1).f1.f0)) ∧ w'.cell? ⟨(ad645.add ((x3_1).toNat * 5)).block, (ad645.add ((x3_1).toNat * 5)).off + 2, none⟩ = some (.int .i64 ((rd_T51 l0 x3_1).f1.f1)) ∧ w'.cell? ⟨(ad645.add ((x3_1).toNat * 5)).block, (ad645.add ((x3_1).toNat * 5)).off + 3, none⟩ = some (.int .i64 ((rd_T51 l0 x3_1).f2.f0)) ∧ w'.cell? ⟨(ad645.add ((x3_1).toNat * 5)).block, (ad645.add ((x3_1).toNat * 5)).off + 4, none⟩ = some (.int .i64 ((rd_T51 l0 x3_1).f2.f1))) (ds := []) #[n_, n_, n_, n_, n_, n_, n_, n_, n_, n_, n_] (by kernel_rfl) rfl rfl ⟨(cb_ HB hw645_0), (cb_ HB hw645_1), (cb_ HB hw645_2), (cb_ HB hw645_3), (cb_ HB hw645_4), (cb_ HB hw646_0), (cb_ HB hw646_1), (cb_ HB hw646_2), (cb_ HB hw646_3), (cb_ HB hw646_4)⟩ (fun hHeld => ?_); refine with_tabW cohousingref05_Reduced.tab4 cohousingref05_Reduced.bits4 (fun HT_ HW_ => ?_)
   generalize wr.drew = w11 at HB hx645_0 hx645_1 hx645_2 hx645_3 hx645_4 hx646_0 hx646_1 hx646_2 hx646_3 hx646_4 hHeld ⊢
   refine pu_ 0 11 (w_ 11 1) rfl HT_ ?_
   refine pu_ 1 12 (w_ 11 3) rfl HT_ ?_
   refine pu_ 2 13 (w_ 11 7) rfl HT_ ?_
   refine pu_ 3 14 (w_ 11 15) rfl HT_ ?_
   refine pu_ 5 16 (w_ 11 47) rfl HT_ ?_
   refine pu_ 6 17 (w_ 11 111) rfl HT_ ?_
   refine pu_ 7 18 (w_ 11 239) rfl HT_ ?_
   refine ta_ 4 15 (w_ 11 255) rfl HT_ HW_ hHeld (by rintro w' ⟨s0, s1, s2, s3, s4, s5, s6, s7, s8, s9⟩; go_simp; with_reducible rfl) ?_
   refine ta_ 8 19 (w_ 11 511) rfl HT_ HW_ hHeld (by rintro w' ⟨s0, s1, s2, s3, s4, s5, s6, s7, s8, s9⟩; go_simp; with_reducible rfl) ?_
   refine one_ (i := 9) (N := some 20) (w_ 11 1023) rfl rfl (one_of HT_.out (by kernel_rfl)) (by decide) (fun K hK => ?_)
   refine goes_ Try.func48 (by kernel_rfl) rfl #[.agg #[.int .i64 ((rd_T51 l0 (ji3)).f0), .int .i64 ((rd_T51 l0 (ji3)).f1.f0), .int .i64 ((rd_T51 l0 (ji3)).f1.f1), .int .i64 ((rd_T51 l0 (ji3)).f2.f0), .int .i64 ((rd_T51 l0 (ji3)).f2.f1)], .agg #[.int .i64 ((rd_T51 l0 x3_1).f0), .int .i64 ((rd_T51 l0 x3_1).f1.f0), .int .i64 ((rd_T51 l0 x3_1).f1.f1), .int .i64 ((rd_T51 l0 x3_1).f2.f0), .int .i64 ((rd_T51 l0 x3_1).f2.f1)]] (by rfl) rfl rfl (by (try simp only [List.map_toArray, List.map_cons, List.map_nil]); first | done | (simp only [hji3]; rfl) | rfl | (simp only [List.length_drop, List.length_take]; rfl)) ?_
   with_reducible refine (cohousingref05_continues.calls k1 ((rd_T51 l0 (ji3)).f0) ((rd_T51 l0 (ji3)).f1.f0) ((rd_T51 l0 (ji3)).f1.f1) ((rd_T51 l0 (ji3)).f2.f0) ((rd_T51 l0 (ji3)).f2.f1) ((rd_T51 l0 x3_1).f0) ((rd_T51 l0 x3_1).f1.f0) ((rd_T51 l0 x3_1).f1.f1) ((rd_T51 l0 x3_1).f2.f0) ((rd_T51 l0 x3_1).f2.f1) false _ A7.out).mono ?_
   rintro e w12 ⟨rfl, hb⟩
   refine ⟨_, rfl, ?_⟩
   have n0_ := mk_ (below_step (bb_ HB) hb)
   clear HB
   have HB := n0_
   clear n0_
   (try clear hb)
   (try clear hb2)
   (try clear hk)
   (try clear hi)
   refine hK.out _ _ ⟨(cb_ HB hw645_0), (cb_ HB hw645_1), (cb_ HB hw645_2), (cb_ HB hw645_3), (cb_ HB hw645_4), (cb_ HB hw646_0), (cb_ HB hw646_1), (cb_ HB hw646_2), (cb_ HB hw646_3), (cb_ HB hw646_4)⟩ (fun hHeld => ?_)
   clear hK K
   refine norm_ (a' := ?_) ?_ ?_
   rotate_left
   ·show Act.put _ (some 20) _ = _
    simp only [Act.put, sI_, s0_, sS_, i64_w, i32_w]
    rfl
   refine pu_ 10 4 (w_ 11 2047) rfl HT_ ?_
   refine done_ (done_of HT_.out (by kernel_rfl)) ?_
   try go_wp2
   go_roundg k1
   case measure => have := HK1.out; omega
   case rel => exact ⟨(wrap64 (x3_1 + 1)), sd_, H', ⟨by have := HK1.out; omega⟩, ⟨bb_ HB⟩⟩
end
end Go.Proofs.Ytmhimmodigeeiaa.P
end
section
namespace Go.Proofs.Ytmhimmodigeeiaa.P
open Go.RowKit Go.Proofs.YtmhimmodigeeiaaW.PrintWords Go.Proofs.YtmhimmodigeeiaaW.PrintLast Go.Proofs.YtmhimmodigeeiaaW.PrintMore
set_option linter.unusedVariables false
set_option linter.unusedSimpArgs false
open Classical
structure Es (es : List (LN × Int)) : Prop where
 ne : ∃ l t, es = (l, 0) :: t
 up : es.Pairwise (fun a b => a.2 < b.2)
 ok : ∀ e ∈ es, 0 < e.1.d ∧ e.2 ≤ 100000
def lastL (x : Int) : LN → List (LN × Int) → LN
 | m, [] => m
 | m, e :: t => if e.2 ≤ x then lastL x e.1 t else m
def lastE (x : Int) : List (LN × Int) → LN
 | [] => ⟨0, 0, 1, 0⟩
 | e :: t => lastL x e.1 t
def lastP (x : Int) : PC → List PC → PC
 | p, [] => p
 | p, q :: t => if q.f0 ≤ x then lastP x q t else p
theorem outM_sub : ∀ (es : List (LN × Int)) (m : Option LN), (outM m es).Sublist (pcs es)
 | [], m => by cases m <;> exact List.Sublist.slnil
 | e :: t, none => List.Sublist.cons_cons _ (outM_sub t _)
 | e :: t, some m => by
  have := outM_sub t (some e.1)
  simp only [outM]
  split
  ·exact List.Sublist.cons _ this
  ·exact List.Sublist.cons_cons _ this
theorem outM_mem {es : List (LN × Int)} {m : Option LN} {q : PC} (h : q ∈ outM m es) : ∃ e, e ∈ es ∧ q = pc e.1 e.2 := by
 have := (outM_sub es m).subset h
 unfold pcs at this
 obtain ⟨e, he, rfl⟩ := List.mem_map.1 this
 exact ⟨e, he, rfl⟩
theorem lastP_far {x : Int} {p : PC} : ∀ {L : List PC}, (∀ q ∈ L, x < q.f0) → lastP x p L = p
 | [], _ => rfl
 | q :: t, h => by
  unfold lastP
  rw [if_neg (by have := h q (List.mem_cons_self ..); omega)]
theorem last_same (x : Int) : ∀ (t : List (LN × Int)) (m : LN) (p : PC), (∀ q ∈ outM (some m) t, POk q) → 0 < m.d → same (lineL p) m → (∀ e ∈ t, 0 < e.1.d) → t.Pairwise (fun a b => a.2 < b.2) → same (lineL (lastP x p (outM (some m) t))) (lastL x m t)
 | [], m, p, _, _, hs, _, _ => hs
 | e :: t, m, p, hq, hm, hs, hd, hp => by
  have hd0 := hd e (List.mem_cons_self ..)
  have hd1 : ∀ a ∈ t, 0 < a.1.d := fun a ha => hd a (List.mem_cons_of_mem _ ha)
  obtain ⟨hp0, hp1⟩ := List.pairwise_cons.1 hp
  have far : ¬ e.2 ≤ x → ∀ q ∈ outM (some e.1) t, x < q.f0 := fun hx q h => by
   obtain ⟨a, ha, rfl⟩ := outM_mem h
   have := hp0 a ha
   show x < a.2
   omega
  by_cases hsm : same m e.1
  ·simp only [outM, hsm, if_true, List.nil_append] at hq ⊢
   unfold lastL
   by_cases hx : e.2 ≤ x
   ·rw [if_pos hx]
    exact last_same x t e.1 p hq hd0 (same_trans hm hs hsm) hd1 hp1
   ·rw [if_neg hx, lastP_far (far hx)]
    exact hs
  ·simp only [outM, hsm, if_false, List.singleton_append] at hq ⊢
   unfold lastL lastP
   by_cases hx : e.2 ≤ x
   ·rw [if_pos hx, if_pos (show (pc e.1 e.2).f0 ≤ x from hx)]
    refine last_same x t e.1 (pc e.1 e.2) (fun q h => hq q (List.mem_cons_of_mem _ h)) hd0 ?_ hd1 hp1
    rw [lineL_pl (hq _ (List.mem_cons_self ..))]
    exact same_pl hd0 _
   ·rw [if_neg hx, if_neg (show ¬ (pc e.1 e.2).f0 ≤ x from hx)]
    exact hs
theorem pA_cons (p : PC) (L : List PC) (i : Nat) : pA (p :: L) (i + 1) = pA L i := by
 simp [pA, rd_T51, List.getD_eq_getElem?_getD]
theorem lastP_at {x : Int} : ∀ (L : List PC) (p : PC), p.f0 ≤ x → ∃ i, atI (p :: L) x i ∧ pA (p :: L) i = lastP x p L
 | [], p, hp => ⟨0, ⟨by simp, hp, fun h => by simp at h⟩, rfl⟩
 | q :: L, p, hp => by
  by_cases hx : q.f0 ≤ x
  ·obtain ⟨i, ⟨h1, h2, h3⟩, h4⟩ := lastP_at L q hx
   refine ⟨i + 1, ⟨by simp only [List.length_cons] at h1 ⊢; omega, by rw [pA_cons]; exact h2, fun h => ?_⟩, ?_⟩
   ·rw [pA_cons]
    exact h3 (by simp only [List.length_cons] at h ⊢; omega)
   ·rw [pA_cons, h4]
    unfold lastP
    rw [if_pos hx]
    cases L <;> rfl
  ·refine ⟨0, ⟨by simp, hp, fun _ => ?_⟩, ?_⟩
   ·rw [pA_cons]
    show x < q.f0
    omega
   ·unfold lastP
    rw [if_neg hx]
    rfl
theorem pcs_up {es : List (LN × Int)} (h : es.Pairwise (fun a b => a.2 < b.2)) : (pcs es).Pairwise (fun a b => a.f0 < b.f0) := by
 unfold pcs
 exact List.pairwise_map.2 h
theorem out_fok {es : List (LN × Int)} (h : Es es) (hok : ∀ p ∈ outM none es, POk p) (hlen : (outM none es).length ≤ 64) : FOk (outM none es) := by
 obtain ⟨l, t, he⟩ := h.ne
 have hup := (pcs_up h.up).sublist (outM_sub es none)
 have h1 : 1 ≤ (outM none es).length := by rw [he]; simp [outM]
 have key : ∀ i, i < (outM none es).length → (pA (outM none es) i).f0 ≤ 100000 := fun i hi => by
  obtain ⟨e, hem, he⟩ := outM_mem (pA_mem hi)
  rw [he]
  exact (h.ok e hem).2
 refine ⟨h1, hlen, ?_, fun i hi => ⟨fun h0 => ?_, hok _ (pA_mem hi)⟩, key _ (by omega)⟩
 ·rw [he]
  rfl
 ·rw [pA_get (show i - 1 < _ by omega), pA_get hi]
  exact List.pairwise_iff_getElem.1 hup (i - 1) i (by omega) hi (by omega)
theorem out_val {es : List (LN × Int)} (h : Es es) (hok : ∀ p ∈ outM none es, POk p) (hlen : (outM none es).length ≤ 64) {x : Int} (h0 : 0 ≤ x) : ∃ i, atI (outM none es) x i ∧ same (lineL (pA (outM none es) i)) (lastE x es) := by
 obtain ⟨l, t, he⟩ := h.ne
 subst he
 have hd := (h.ok _ (List.mem_cons_self ..)).1
 have e0 : outM none ((l, (0 : Int)) :: t) = pc l 0 :: outM (some l) t := rfl
 rw [e0] at hok ⊢
 obtain ⟨i, h1, h2⟩ := lastP_at (x := x) (outM (some l) t) (pc l 0) (show (0 : Int) ≤ x from h0)
 refine ⟨i, h1, ?_⟩
 rw [h2]
 refine last_same x t l (pc l 0) (fun q hq => hok q (List.mem_cons_of_mem _ hq)) hd ?_ (fun e he => (h.ok e (List.mem_cons_of_mem _ he)).1) (List.pairwise_cons.1 h.up).2
 rw [lineL_pl (hok _ (List.mem_cons_self ..))]
 exact same_pl hd _
theorem lastL_d {x : Int} : ∀ (t : List (LN × Int)) (m : LN), 0 < m.d → (∀ e ∈ t, 0 < e.1.d) → 0 < (lastL x m t).d
 | [], m, h, _ => h
 | e :: t, m, h, hd => by
  unfold lastL
  split
  ·exact lastL_d t e.1 (hd e (List.mem_cons_self ..)) (fun a ha => hd a (List.mem_cons_of_mem _ ha))
  ·exact h
theorem lastE_d {x : Int} {es : List (LN × Int)} (h : Es es) : 0 < (lastE x es).d := by
 obtain ⟨l, t, he⟩ := h.ne
 subst he
 exact lastL_d t l (h.ok _ (List.mem_cons_self ..)).1 (fun e he => (h.ok e (List.mem_cons_of_mem _ he)).1)
theorem out_value {es : List (LN × Int)} (h : Es es) (hf : FOk (outM none es)) {x : Int} (h0 : 0 ≤ x) (h1 : x ≤ 100001) : Ev (fun k => cohousingref05_Value.f k (outM none es) x) (red (num (lastE x es) x) (lastE x es).d) := by
 obtain ⟨i, hi, hs⟩ := out_val h (fun p hp => by
  obtain ⟨j, hj, rfl⟩ := List.mem_iff_getElem.1 hp
  rw [← pA_get hj]
  exact hf.pok hj) hf.few h0
 rw [← (red_iff (hf.pok hi.1).dpos (lastE_d h)).2 (hs x)]
 exact value_ev hf hi h0 h1
theorem out_red {es : List (LN × Int)} (h : Es es) (hok : ∀ p ∈ outM none es, POk p) : ∀ i, i + 1 < (outM none es).length → ¬ same (lineL (pA (outM none es) i)) (lineL (pA (outM none es) (i + 1))) := by
 have key : ∀ (t : List (LN × Int)) (m : LN) (p : PC), (∀ q ∈ outM (some m) t, POk q) → POk p → 0 < m.d → same (lineL p) m → (∀ e ∈ t, 0 < e.1.d) → ∀ i, i + 1 < (p :: outM (some m) t).length → ¬ same (lineL (pA (p :: outM (some m) t) i)) (lineL (pA (p :: outM (some m) t) (i + 1))) := by
  intro t
  induction t with
  | nil => intro m p _ _ _ _ _ i hi; simp [outM] at hi
  | cons e t ih =>
   intro m p hq hp hm hs hd i hi
   have hd0 := hd e (List.mem_cons_self ..)
   have hd1 : ∀ a ∈ t, 0 < a.1.d := fun a ha => hd a (List.mem_cons_of_mem _ ha)
   by_cases hsm : same m e.1
   ·simp only [outM, hsm, if_true, List.nil_append] at hq hi ⊢
    exact ih e.1 p hq hp hd0 (same_trans hm hs hsm) hd1 i hi
   ·simp only [outM, hsm, if_false, List.singleton_append] at hq hi ⊢
    have hpe := hq _ (List.mem_cons_self ..)
    have hse : same (lineL (pc e.1 e.2)) e.1 := by rw [lineL_pl hpe]; exact same_pl hd0 _
    cases i with
    | zero =>
     intro h2
     rw [pA_cons] at h2
     have h3 : same (lineL p) (lineL (pc e.1 e.2)) := h2
     exact hsm (same_trans hp.dpos (same_symm hs) (same_trans hpe.dpos h3 hse))
    | succ i =>
     rw [pA_cons, pA_cons]
     exact ih e.1 (pc e.1 e.2) (fun q h => hq q (List.mem_cons_of_mem _ h)) hpe hd0 hse hd1 i (by simp only [List.length_cons] at hi ⊢; omega)
 obtain ⟨l, t, he⟩ := h.ne
 subst he
 have hd := (h.ok _ (List.mem_cons_self ..)).1
 have e0 : outM none ((l, (0 : Int)) :: t) = pc l 0 :: outM (some l) t := rfl
 rw [e0] at hok ⊢
 have hp0 := hok _ (List.mem_cons_self ..)
 exact key t l (pc l 0) (fun q hq => hok q (List.mem_cons_of_mem _ hq)) hp0 hd (by rw [lineL_pl hp0]; exact same_pl hd _) (fun e he => (h.ok e (List.mem_cons_of_mem _ he)).1)
theorem reduced_l0 {f : List PC} (hf : FOk f) (hr : ∀ i, i + 1 < f.length → ¬ same (lineL (pA f i)) (lineL (pA f (i + 1)))) : ∀ (d i : Nat), i + d = f.length → 1 ≤ i → Ev (fun k => cohousingref05_Reduced.l0 k f (i : Int)) true := by
 have hfew := hf.few
 intro d
 induction d with
 | zero =>
  intro i hi h0
  have h1 : ¬ (i : Int) < (f.length : Int) := by omega
  refine Ev.step ?_
  simp only [cohousingref05_Reduced.l0, h1, if_false]
  exact Ev.pure _
 | succ d ih =>
  intro i hi h0
  have h1 : (i : Int) < (f.length : Int) := by omega
  have h2 : 0 ≤ (i : Int) := by omega
  have e4 : wrap64 ((i : Int) - 1) = ((i - 1 : Nat) : Int) := by unfold wrap64; omega
  have e5 : 0 ≤ ((i - 1 : Nat) : Int) := by omega
  have e6 : ((i - 1 : Nat) : Int) < (f.length : Int) := by omega
  have ew : wrap64 ((i : Int) + 1) = ((i + 1 : Nat) : Int) := by unfold wrap64; omega
  have hp' := hf.pok (show i - 1 < f.length by omega)
  have hp := hf.pok (show i < f.length by omega)
  have hin' := hf.in_ (show i - 1 < f.length by omega)
  have hin := hf.in_ (show i < f.length by omega)
  have hc := cont_ev (m := lineL (pA f (i - 1))) (l := lineL (pA f i)) (x0 := (pA f (i - 1)).f0) (x := (pA f i).f0) hp'.dpos hp.dpos (by rw [pc_self hp']; exact hp'.pb) (by omega) (by omega)
  rw [pc_self hp', pc_self hp] at hc
  have hn := hr (i - 1) (by omega)
  rw [show i - 1 + 1 = i by omega] at hn
  rw [decide_eq_false hn] at hc
  refine Ev.step ?_
  simp only [cohousingref05_Reduced.l0, h1, h2, e4, e5, e6, if_true, ew]
  refine Ev.bnd hc ?_
  simp only [Bool.false_eq_true, if_false]
  exact ih (i + 1) (by omega) (by omega)
theorem reduced_ev {f : List PC} (hf : FOk f) (hr : ∀ i, i + 1 < f.length → ¬ same (lineL (pA f i)) (lineL (pA f (i + 1)))) : Ev (fun k => cohousingref05_Reduced.f k f) true := by
 unfold cohousingref05_Reduced.f
 have := hf.one
 exact reduced_l0 hf hr (f.length - 1) 1 (by omega) (Nat.le_refl _)
theorem fok_ib {f : List PC} (hf : FOk f) : ∀ p ∈ f, IBP p := by
 intro p hp
 obtain ⟨j, hj, rfl⟩ := List.mem_iff_getElem.1 hp
 have h1 := hf.pok hj
 have h2 := hf.in_ hj
 rw [pA_get hj] at h1 h2
 obtain ⟨⟨a1, a2, a3, a4, a5⟩, ⟨b1, b2, b3, b4, b5⟩, c1, c2, c3, c4⟩ := h1
 refine ⟨?_, ⟨?_, ?_⟩, ?_, ?_⟩ <;> constructor <;> omega
theorem resS_cases (out : List PC) : (resS out = ([], 3) ∨ resS out = ([], 2)) ∨ (resS out = (out, 0) ∧ (∀ p ∈ out, POk p) ∧ out.length ≤ 64) := by
 unfold resS
 by_cases h1 : ∃ p, p ∈ out ∧ ¬ POk p
 ·exact .inl (.inl (if_pos h1))
 ·rw [if_neg h1]
  by_cases h2 : 64 < out.length
  ·exact .inl (.inr (if_pos h2))
  ·refine .inr ⟨if_neg h2, fun p hp => ?_, by omega⟩
   by_cases hk : POk p
   ·exact hk
   ·exact absurd ⟨p, hp, hk⟩ h1
theorem lastL_near {x : Int} {m : LN} {b : List (LN × Int)} (hb : ∀ e ∈ b, x < e.2) : ∀ (a : List (LN × Int)), lastL x m (a ++ b) = lastL x m a := by
 intro a
 induction a generalizing m with
 | nil =>
  cases b with
  | nil => rfl
  | cons e t =>
   have := hb e (List.mem_cons_self ..)
   show (if e.2 ≤ x then _ else m) = m
   rw [if_neg (by omega)]
 | cons e t ih =>
  show (if e.2 ≤ x then lastL x e.1 (t ++ b) else m) = (if e.2 ≤ x then lastL x e.1 t else m)
  rw [ih]
theorem lastL_skip {x : Int} {b : List (LN × Int)} : ∀ (a : List (LN × Int)) (m : LN), (∀ e ∈ a, e.2 ≤ x) → ∃ m', lastL x m (a ++ b) = lastL x m' b
 | [], m, _ => ⟨m, rfl⟩
 | e :: t, m, h => by
  obtain ⟨m', hm⟩ := lastL_skip t e.1 (fun a ha => h a (List.mem_cons_of_mem _ ha))
  refine ⟨m', ?_⟩
  show (if e.2 ≤ x then lastL x e.1 (t ++ b) else m) = _
  rw [if_pos (h e (List.mem_cons_self ..)), hm]
theorem lastE_mid {x : Int} {a b : List (LN × Int)} {e : LN × Int} {t : List (LN × Int)} (ha : ∀ e ∈ a, e.2 ≤ x) (he : e.2 ≤ x) (hb : ∀ e ∈ b, x < e.2) : lastE x (a ++ (e :: t) ++ b) = lastE x (e :: t) := by
 cases a with
 | nil => exact lastL_near hb t
 | cons e' a =>
  show lastL x e'.1 (a ++ (e :: t) ++ b) = lastL x e.1 t
  rw [List.append_assoc, List.cons_append]
  obtain ⟨m', hm⟩ := lastL_skip (b := e :: (t ++ b)) a e'.1 (fun c hc => ha c (List.mem_cons_of_mem _ hc))
  rw [hm]
  show (if e.2 ≤ x then lastL x e.1 (t ++ b) else m') = _
  rw [if_pos he]
  exact lastL_near hb t
theorem stp_lt {f g : List PC} {M : Nat} (hM : StOk f g M) {i : Nat} : ∀ d, i + d + 1 ≤ M → (stp f g i).2.2 < (stp f g (i + d + 1)).2.2
 | 0, h => (hM.up i (by omega)).2
 | d + 1, h => by
  have h1 := stp_lt hM (i := i) d (by omega)
  have h2 := (hM.up (i + d + 1) (by omega)).2
  exact Int.lt_trans h1 h2
theorem stp_le {f g : List PC} {M : Nat} (hM : StOk f g M) {i j : Nat} (hij : i ≤ j) (hj : j ≤ M) : (stp f g i).2.2 ≤ (stp f g j).2.2 := by
 rcases Nat.eq_or_lt_of_le hij with rfl | h
 ·exact Int.le_refl _
 ·have := stp_lt hM (i := i) (j - i - 1) (by omega)
  rw [show i + (j - i - 1) + 1 = j by omega] at this
  omega
theorem ex_st {f g : List PC} (hf : FOk f) (hg : FOk g) {M : Nat} (hM : StOk f g M) {x : Int} (h0 : 0 ≤ x) (h1 : x ≤ 100000) : ∃ j, j < M ∧ (stp f g j).2.2 ≤ x ∧ x < (stp f g (j + 1)).2.2 := by
 have key : ∀ n, n ≤ M → (∃ j, j < M ∧ (stp f g j).2.2 ≤ x ∧ x < (stp f g (j + 1)).2.2) ∨ (stp f g n).2.2 ≤ x := by
  intro n
  induction n with
  | zero => intro _; exact .inr h0
  | succ n ih =>
   intro hn
   rcases ih (by omega) with h | h
   ·exact .inl h
   ·by_cases hx : (stp f g (n + 1)).2.2 ≤ x
    ·exact .inr hx
    ·exact .inl ⟨n, by omega, h, by omega⟩
 rcases key M (Nat.le_refl _) with h | h
 ·exact h
 ·have := end_x hf hg hM
  omega
structure EvOk (ev : ST → List (LN × Int)) : Prop where
 hd : ∀ s, SOk s → ∃ l t, ev s = (l, s.x) :: t
 up : ∀ s, SOk s → (ev s).Pairwise (fun a b => a.2 < b.2)
 in_ : ∀ s, SOk s → ∀ e ∈ ev s, (s.x ≤ e.2 ∧ e.2 < s.u) ∧ 0 < e.1.d
theorem stL_split {f g : List PC} {M j : Nat} (hj : j < M) : stL f g M = (stL f g M).take j ++ stE f g j :: (stL f g M).drop (j + 1) := by
 have h := List.take_append_drop j (stL f g M)
 have e : (stL f g M).drop j = stE f g j :: (stL f g M).drop (j + 1) := by
  rw [List.drop_eq_getElem_cons (by rw [stL_len]; exact hj)]
  congr 1
  simp [stL]
 rw [e] at h
 exact h.symm
theorem stL_take {f g : List PC} {M j : Nat} {s : ST} (hs : s ∈ (stL f g M).take j) : ∃ i, i < j ∧ i < M ∧ s = stE f g i := by
 obtain ⟨i, hi, rfl⟩ := List.mem_iff_getElem.1 hs
 rw [List.length_take, stL_len] at hi
 refine ⟨i, by omega, by omega, ?_⟩
 simp [stL]
theorem stL_drop {f g : List PC} {M j : Nat} {s : ST} (hs : s ∈ (stL f g M).drop j) : ∃ i, j ≤ i ∧ i < M ∧ s = stE f g i := by
 obtain ⟨i, hi, rfl⟩ := List.mem_iff_getElem.1 hs
 rw [List.length_drop, stL_len] at hi
 refine ⟨j + i, by omega, by omega, ?_⟩
 simp [stL]
theorem evs_at {f g : List PC} (hf : FOk f) (hg : FOk g) {M : Nat} (hM : StOk f g M) {ev : ST → List (LN × Int)} (he : EvOk ev) {x : Int} {j : Nat} (hj : j < M) (h0 : (stp f g j).2.2 ≤ x) (h1 : x < (stp f g (j + 1)).2.2) : lastE x ((stL f g M).flatMap ev) = lastE x (ev (stE f g j)) := by
 obtain ⟨l, t, hlt⟩ := he.hd _ (stE_ok hf hg hM hj)
 rw [stL_split hj, List.flatMap_append, List.flatMap_cons, ← List.append_assoc, hlt]
 refine lastE_mid (fun e hm => ?_) h0 (fun e hm => ?_)
 ·obtain ⟨s, hs, hes⟩ := List.mem_flatMap.1 hm
  obtain ⟨i, hi, hiM, rfl⟩ := stL_take hs
  have a := (he.in_ _ (stE_ok hf hg hM hiM) e hes).1.2
  have a' : e.2 < (stp f g (i + 1)).2.2 := a
  have b := stp_le hM (show i + 1 ≤ j by omega) (by omega)
  omega
 ·obtain ⟨s, hs, hes⟩ := List.mem_flatMap.1 hm
  obtain ⟨i, hi, hiM, rfl⟩ := stL_drop hs
  have a := (he.in_ _ (stE_ok hf hg hM hiM) e hes).1.1
  have a' : (stp f g i).2.2 ≤ e.2 := a
  have b := stp_le hM hi (by omega)
  omega
theorem evs_es {f g : List PC} (hf : FOk f) (hg : FOk g) {M : Nat} (hM : StOk f g M) (h1 : 1 ≤ M) {ev : ST → List (LN × Int)} (he : EvOk ev) : Es ((stL f g M).flatMap ev) := by
 have hin : ∀ s ∈ stL f g M, ∀ e ∈ ev s, (s.x ≤ e.2 ∧ e.2 < s.u) ∧ 0 < e.1.d := fun s hs => he.in_ s (stL_ok hf hg hM hs)
 refine ⟨?_, ?_, fun e hm => ?_⟩
 ·obtain ⟨l, t, hlt⟩ := he.hd _ (stE_ok hf hg hM (show 0 < M by omega))
  refine ⟨l, t ++ ((stL f g M).drop (0 + 1)).flatMap ev, ?_⟩
  rw [stL_split (show 0 < M by omega), List.flatMap_append, List.flatMap_cons, hlt]
  simp
  rfl
 ·have key : ∀ n, n ≤ M → (((stL f g M).take n).flatMap ev).Pairwise (fun a b => a.2 < b.2) := by
   intro n
   induction n with
   | zero => intro _; simp
   | succ n ih =>
    intro hn
    have hnM : n < M := by omega
    have e1 : (stL f g M).take (n + 1) = (stL f g M).take n ++ [stE f g n] := by
     rw [List.take_add_one, stL_at hnM]
     rfl
    rw [e1, List.flatMap_append]
    refine List.pairwise_append.2 ⟨ih (by omega), ?_, fun a ha b hb => ?_⟩
    ·simpa using he.up _ (stE_ok hf hg hM hnM)
    ·obtain ⟨s, hs, has⟩ := List.mem_flatMap.1 ha
     obtain ⟨i, hi, hiM, rfl⟩ := stL_take hs
     have c1 := (he.in_ _ (stE_ok hf hg hM hiM) a has).1.2
     have c1' : a.2 < (stp f g (i + 1)).2.2 := c1
     have c2 := stp_le hM (show i + 1 ≤ n by omega) (by omega)
     have hb' : b ∈ ev (stE f g n) := by simpa using hb
     have c3 := (he.in_ _ (stE_ok hf hg hM hnM) b hb').1.1
     have c3' : (stp f g n).2.2 ≤ b.2 := c3
     omega
  have := key M (Nat.le_refl _)
  rwa [List.take_of_length_le (by rw [stL_len]; omega)] at this
 ·obtain ⟨s, hs, hes⟩ := List.mem_flatMap.1 hm
  have h := stL_ok hf hg hM hs
  have := hin s hs e hes
  have := h.u1
  exact ⟨this |> fun _ => (hin s hs e hes).2, by omega⟩
theorem evA_evok : EvOk (fun s => [evA s]) := by
 refine ⟨fun s hs => ⟨sumX s, [], rfl⟩, fun s hs => by simp, fun s hs e he => ?_⟩
 rw [List.mem_singleton.1 he]
 refine ⟨⟨Int.le_refl _, hs.u0⟩, ?_⟩
 have := (sumX_WB hs).d1
 show 0 < (sumX s).d
 omega
theorem evL_evok : EvOk evL := by
 refine ⟨fun s hs => ⟨oneS s, _, rfl⟩, fun s hs => ?_, fun s hs e he => ?_⟩
 ·have hc := (kS_chg hs).lo
  unfold evL
  by_cases hlt : s.x + kS s < s.u
  ·rw [if_pos hlt]
   simpa using hc
  ·rw [if_neg hlt]
   simp
 ·have hc := (kS_chg hs).lo
  have hk := evL_ok hs e he
  refine ⟨?_, by have := hk.1.d1; omega⟩
  unfold evL at he
  rcases List.mem_cons.1 he with rfl | he
  ·exact ⟨Int.le_refl _, hs.u0⟩
  ·split at he
   ·rename_i hlt
    rw [List.mem_singleton.1 he]
    exact ⟨by show s.x ≤ s.x + kS s; omega, hlt⟩
   ·cases he
theorem addEs_flat (f g : List PC) (M : Nat) : addEs f g M = (stL f g M).flatMap (fun s => [evA s]) := by
 unfold addEs
 rw [List.map_eq_flatMap]
end Go.Proofs.Ytmhimmodigeeiaa.P
end
section
namespace Go.Proofs.Ytmhimmodigeeiaa.P
open Go.RowKit Go.Proofs.YtmhimmodigeeiaaW.PrintWords Go.Proofs.YtmhimmodigeeiaaW.PrintLast Go.Proofs.YtmhimmodigeeiaaW.PrintMore
set_option linter.unusedVariables false
set_option linter.unusedSimpArgs false
open Classical
theorem both_ev (f g : List PC) (hIf : ∀ p ∈ f, IBP p) (hIg : ∀ p ∈ g, IBP p) : ∃ b, Ev (fun k => cohousinglaw05_both.f k f g) b ∧ (b = true → FOk f ∧ FOk g) := by
 unfold cohousinglaw05_both.f cohousinglaw05_few.f
 simp only [Option.bind_some, decide_eq_true_eq]
 by_cases c1 : (f.length : Int) ≤ 70
 case neg => exact ⟨false, by simp only [c1, if_false]; exact Ev.pure _, fun h => by cases h⟩
 by_cases c2 : (g.length : Int) ≤ 70
 case neg => exact ⟨false, by simp only [c1, c2, if_true, if_false]; exact Ev.pure _, fun h => by cases h⟩
 simp only [c1, c2, if_true]
 by_cases hf : FOk f
 case neg =>
  refine ⟨false, Ev.bnd (rvalid_ev f hIf) ?_, fun h => by cases h⟩
  simp only [decide_eq_false hf, Bool.false_eq_true, if_false]
  exact Ev.pure _
 refine ⟨decide (FOk g), Ev.bnd (rvalid_ev f hIf) ?_, fun h => ⟨hf, of_decide_eq_true h⟩⟩
 simp only [decide_eq_true hf, if_true]
 exact Ev.bnd (rvalid_ev g hIg) (Ev.pure _)
theorem place_eq {a : Int} (h0 : 0 ≤ a) (h1 : a ≤ 4294967295) : ∃ x, cohousinglaw05_place.f a = some x ∧ 0 ≤ x ∧ x ≤ 100000 := by
 have h2 := tmod_in h0 (show (0 : Int) < 100001 by omega)
 exact ⟨_, rfl, by rw [wrap_id (by omega) (by omega)]; omega, by rw [wrap_id (by omega) (by omega)]; omega⟩
theorem num_sumX (s : ST) (x : Int) : num (sumX s) x = num s.f x * s.g.d + num s.g x * s.f.d := by
 rw [num_at (sumX s) s.x x, num_at s.f s.x x, num_at s.g s.x x]
 have e : num (sumX s) s.x = num s.f s.x * s.g.d + num s.g s.x * s.f.d := num_fr _ _ _ _
 rw [e]
 show _ + (s.f.s * s.g.d + s.g.s * s.f.d) * (x - s.x) = _
 rw [Int.add_mul, Int.add_mul, Int.add_mul]
 have e1 : s.f.s * s.g.d * (x - s.x) = s.f.s * (x - s.x) * s.g.d := by rw [Int.mul_assoc, Int.mul_comm s.g.d, ← Int.mul_assoc]
 have e2 : s.g.s * s.f.d * (x - s.x) = s.g.s * (x - s.x) * s.f.d := by rw [Int.mul_assoc, Int.mul_comm s.f.d, ← Int.mul_assoc]
 rw [e1, e2]
 omega
theorem cmpS_ev {l m : LN} (hl : LB l) (hm : LB m) {x : Int} (h0 : 0 ≤ x) (h1 : x ≤ 100001) (h : ¬ lt m l x) : ∃ c, cohousingref05_Compare.f (red (num l x) l.d).1 (red (num l x) l.d).2 (red (num m x) m.d).1 (red (num m x) m.d).2 = some c ∧ c ≤ 0 := by
 obtain ⟨c, h2, h3, h4⟩ := cmp_ev hl hm h0 h1
 exact ⟨c, h2, h4.2 h⟩
theorem add_line {f g : List PC} (hf : FOk f) (hg : FOk g) {M : Nat} (hM : StOk f g M) {x : Int} (h0 : 0 ≤ x) (h1 : x ≤ 100000) {i k : Nat} (hi : atI f x i) (hk : atI g x k) : num (lastE x (addEs f g M)) x = num (lineL (pA f i)) x * (lineL (pA g k)).d + num (lineL (pA g k)) x * (lineL (pA f i)).d ∧ (lastE x (addEs f g M)).d = (lineL (pA f i)).d * (lineL (pA g k)).d := by
 obtain ⟨j, hj, a, b⟩ := ex_st hf hg hM h0 h1
 obtain ⟨c1, c2⟩ := at_in hf hg a b
 rw [at_one hf hi c1, at_one hg hk c2, addEs_flat, evs_at hf hg hM evA_evok hj a b]
 exact ⟨num_sumX (stE f g j) x, rfl⟩
theorem least_line {f g : List PC} (hf : FOk f) (hg : FOk g) {M : Nat} (hM : StOk f g M) {x : Int} (h0 : 0 ≤ x) (h1 : x ≤ 100000) {i k : Nat} (hi : atI f x i) (hk : atI g x k) : (lastE x (leastEs f g M) = lineL (pA f i) ∨ lastE x (leastEs f g M) = lineL (pA g k)) ∧ ¬ lt (lineL (pA f i)) (lastE x (leastEs f g M)) x ∧ ¬ lt (lineL (pA g k)) (lastE x (leastEs f g M)) x := by
 obtain ⟨j, hj, a, b⟩ := ex_st hf hg hM h0 h1
 obtain ⟨c1, c2⟩ := at_in hf hg a b
 rw [at_one hf hi c1, at_one hg hk c2]
 have hs := stE_ok hf hg hM hj
 have hc := kS_chg hs
 have ov := over_iff hs
 have e : lastE x (leastEs f g M) = lastE x (evL (stE f g j)) := evs_at hf hg hM evL_evok hj a b
 rw [e]
 have hsame : ∀ l : LN, ¬ lt l l x := fun l h => by unfold lt at h; omega
 have hasym : ∀ l m : LN, lt l m x → ¬ lt m l x := fun l m h h' => by unfold lt at h h'; omega
 have goal : ∀ l : LN, (l = (stE f g j).f ∧ ¬ lt (stE f g j).g (stE f g j).f x) ∨ (l = (stE f g j).g ∧ lt (stE f g j).g (stE f g j).f x) → (l = (stE f g j).f ∨ l = (stE f g j).g) ∧ ¬ lt (stE f g j).f l x ∧ ¬ lt (stE f g j).g l x := by
  rintro l (⟨rfl, h⟩ | ⟨rfl, h⟩)
  ·exact ⟨.inl rfl, hsame _, h⟩
  ·exact ⟨.inr rfl, hasym _ _ h, hsame _⟩
 refine goal _ ?_
 have a' : (stE f g j).x ≤ x := a
 have b' : x < (stE f g j).u := b
 by_cases hx : x < (stE f g j).x + kS (stE f g j)
 ·have hb := hc.before x a' hx
  have e2 : lastE x (evL (stE f g j)) = oneS (stE f g j) := by
   unfold evL
   show lastL x (oneS (stE f g j)) _ = _
   split
   ·show (if (stE f g j).x + kS (stE f g j) ≤ x then _ else oneS (stE f g j)) = _
    rw [if_neg (by omega)]
   ·rfl
  rw [e2]
  unfold oneS
  rw [ov]
  by_cases h : lt (stE f g j).g (stE f g j).f (stE f g j).x
  ·rw [if_pos (decide_eq_true h)]
   exact .inr ⟨rfl, hb.2 h⟩
  ·rw [if_neg (by rw [decide_eq_false h]; decide)]
   exact .inl ⟨rfl, fun h2 => h (hb.1 h2)⟩
 ·have hlt : (stE f g j).x + kS (stE f g j) < (stE f g j).u := by omega
  have hb := lt_mono (l := (stE f g j).g) (m := (stE f g j).f) (x := (stE f g j).x) (z := x) (by have := hc.lo; omega) (show (stE f g j).x + kS (stE f g j) ≤ x by omega) (hc.at_ hlt)
  have e2 : lastE x (evL (stE f g j)) = twoS (stE f g j) := by
   unfold evL
   rw [if_pos hlt]
   show (if (stE f g j).x + kS (stE f g j) ≤ x then twoS (stE f g j) else _) = _
   rw [if_pos (by omega)]
  rw [e2]
  unfold twoS
  rw [ov]
  by_cases h : lt (stE f g j).g (stE f g j).f (stE f g j).x
  ·rw [if_pos (decide_eq_true h)]
   exact .inl ⟨rfl, fun h2 => hb ⟨fun _ => h, fun _ => h2⟩⟩
  ·rw [if_neg (by rw [decide_eq_false h]; decide)]
   refine .inr ⟨rfl, ?_⟩
   by_cases h2 : lt (stE f g j).g (stE f g j).f x
   ·exact h2
   ·exact absurd ⟨fun h3 => absurd h3 h2, fun h3 => absurd h3 h⟩ hb
theorem addEs_es {f g : List PC} (hf : FOk f) (hg : FOk g) {M : Nat} (hM : StOk f g M) (h1 : 1 ≤ M) : Es (addEs f g M) := by
 rw [addEs_flat]
 exact evs_es hf hg hM h1 evA_evok
theorem leastEs_es {f g : List PC} (hf : FOk f) (hg : FOk g) {M : Nat} (hM : StOk f g M) (h1 : 1 ≤ M) : Es (leastEs f g M) := evs_es hf hg hM h1 evL_evok
theorem scEs_es {a b : Int} (hb : 0 < b) {f : List PC} (hf : FOk f) : Es (scEs a b f) := by
 have hup : (scEs a b f).Pairwise (fun x y => x.2 < y.2) := by
  unfold scEs
  rw [List.pairwise_map, List.pairwise_iff_getElem]
  intro i j hi hj hij
  have := hf.lt hij hj
  rw [pA_get hi, pA_get hj] at this
  exact this
 have h1 := hf.one
 refine ⟨⟨lineS a b (pA f 0), (scEs a b f).drop (0 + 1), ?_⟩, hup, fun e he => ?_⟩
 ·have := drop_sc (a := a) (b := b) (show 0 < f.length by omega)
  rw [List.drop_zero, hf.zero] at this
  exact this
 ·unfold scEs at he
  obtain ⟨p, hp, rfl⟩ := List.mem_map.1 he
  obtain ⟨j, hj, rfl⟩ := List.mem_iff_getElem.1 hp
  have h2 := (hf.pok hj).dpos
  have h3 := (hf.in_ hj).2
  rw [pA_get hj] at h2 h3
  exact ⟨Int.mul_pos h2 hb, h3⟩
theorem scR_cases {a b : Int} {f : List PC} (hf : FOk f) : scR [] (outM none (scEs a b f)) = ([], 3) ∨ (scR [] (outM none (scEs a b f)) = (outM none (scEs a b f), 0) ∧ (∀ p ∈ outM none (scEs a b f), POk p) ∧ (outM none (scEs a b f)).length ≤ 64) := by
 have h1 := outM_len (scEs a b f) none
 have h2 : (scEs a b f).length = f.length := by unfold scEs; rw [List.length_map]
 have h3 := hf.few
 unfold scR
 by_cases h : ∃ p, p ∈ outM none (scEs a b f) ∧ ¬ POk p
 ·exact .inl (if_pos h)
 ·refine .inr ⟨by rw [if_neg h, List.nil_append], fun p hp => ?_, by omega⟩
  by_cases hk : POk p
  ·exact hk
  ·exact absurd ⟨p, hp, hk⟩ h
end Go.Proofs.Ytmhimmodigeeiaa.P
end
