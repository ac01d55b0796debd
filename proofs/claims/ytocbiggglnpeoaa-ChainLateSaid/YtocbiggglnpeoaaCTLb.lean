/- Part 2 of the proof of ChainLate: what it alone needs. -/
import Derived.Test.YtocbiggglnpeoaaCTLa
set_option linter.unusedVariables false
set_option linter.unusedSimpArgs false
section
namespace Go.Proofs.Ytocbiggglnpeoaa.P
open Go.RowKit Go.Proofs.YtocbiggglnpeoaaW.PrintWords Go.Proofs.YtocbiggglnpeoaaW.PrintLast Go.Proofs.YtocbiggglnpeoaaW.PrintMore Go.Proofs.YtocbiggglnpeoaaH
open Classical
theorem goR_succ (rs : List YT) (due : Int) (l : List GT) (n : Nat) : goR rs due l (n + 1) = goR rs due l n ++ (rg l n).f1.take (nR rs due (rg l n)) := goM_succ _ _ _
section
variable {fl : List FT} {pa : List PT} {l : List GT} (hR : RingsR fl pa l)
include hR
end
end Go.Proofs.Ytocbiggglnpeoaa.P
end
section
namespace Go.Proofs.Ytocbiggglnpeoaa.P
open Go.RowKit Go.Proofs.YtocbiggglnpeoaaW.PrintWords Go.Proofs.YtocbiggglnpeoaaW.PrintLast Go.Proofs.YtocbiggglnpeoaaW.PrintMore Go.Proofs.YtocbiggglnpeoaaH
open Classical
theorem go_congr {rs rs' : List YT} {due : Int} (h : ∀ x, agB rs due x = agB rs' due x) (l : List GT) (n : Nat) : goR rs due l n = goR rs' due l n ∧ brR rs due l n = brR rs' due l n := by
 have hr : refB (repM rs due rs.length) = refB (repM rs' due rs'.length) := funext fun x => by rw [refB_eq, refB_eq, h]
 have hn : ∀ r, nOf (repM rs due rs.length) r = nOf (repM rs' due rs'.length) r := fun r => by unfold nOf; rw [hr]
 have hb : ∀ r, brk (repM rs due rs.length) r = brk (repM rs' due rs'.length) r := fun r => by unfold brk; rw [hr]
 induction n with
 | zero => exact ⟨rfl, rfl⟩
 | succ n ih =>
  constructor
  ·rw [goR_succ, goR_succ, ih.1]
   show _ ++ (rg l n).f1.take (nOf _ _) = _ ++ (rg l n).f1.take (nOf _ _)
   rw [hn]
  ·show brM _ l (n + 1) = brM _ l (n + 1)
   have i2 : brM (repM rs due rs.length) l n = brM (repM rs' due rs'.length) l n := ih.2
   rw [brM_succ, brM_succ, hb, i2]
theorem ry_take (rs : List YT) {n j : Nat} (hn : n ≤ rs.length) (hj : j < n) : ry (rs.take n) j = ry rs j := by
 rw [ry_get _ j (by rw [List.length_take]; omega), ry_get rs j (by omega), List.getElem_take]
theorem ry_left (rs : List YT) (y : YT) {j : Nat} (hj : j < rs.length) : ry (rs ++ [y]) j = ry rs j := by
 rw [ry_get _ j (by rw [List.length_append]; omega), ry_get rs j hj, List.getElem_append_left hj]
theorem ry_last (rs : List YT) (y : YT) : ry (rs ++ [y]) rs.length = y := by
 rw [ry_get _ _ (by rw [List.length_append]; simp)]
 simp
theorem stA_pre (rs rs' : List YT) (due h : Int) : ∀ n, (∀ j, j < n → ry rs j = ry rs' j) → stA rs due h n = stA rs' due h n := by
 intro n
 induction n with
 | zero => intro _; rfl
 | succ n ih =>
  intro hj
  rw [stA_succ, stA_succ, hj n (by omega), ih (fun j h => hj j (by omega))]
theorem stA_late (rs : List YT) (due h : Int) (n : Nat) : ∀ d, (∀ j, n ≤ j → j < n + d → due < (ry rs j).f2) → stA rs due h (n + d) = stA rs due h n := by
 intro d
 induction d with
 | zero => intro _; rfl
 | succ d ih =>
  intro hj
  have := hj (n + d) (by omega) (by omega)
  rw [← Nat.add_assoc, stA_succ, if_neg (fun hh => by have := hh.1; omega)]
  exact ih (fun j h1 h2 => hj j h1 (by omega))
theorem asc_le {rs : List YT} (h : RepliesV rs) : ∀ d i, i + d < rs.length → (ry rs i).f2 ≤ (ry rs (i + d)).f2 := by
 intro d
 induction d with
 | zero => intro i _; exact Int.le_refl _
 | succ d ih =>
  intro i hi
  have h1 := ih i (by omega)
  have h2 := h.asc (i + d + 1) (by omega) (by omega)
  rw [show i + d + 1 - 1 = i + d by omega] at h2
  rw [← Nat.add_assoc]
  omega
theorem take_valid {rs : List YT} (h : RepliesV rs) {n : Nat} (hn : n ≤ rs.length) : RepliesV (rs.take n) := by
 have hl : (rs.take n).length = n := by rw [List.length_take]; omega
 refine ⟨by have := h.len; omega, fun j hj => ?_, fun j h0 hj => ?_⟩
 ·rw [hl] at hj
  rw [ry_take rs hn hj]
  exact h.one j (by omega)
 ·rw [hl] at hj
  rw [ry_take rs hn hj, ry_take rs hn (by omega)]
  exact h.asc j h0 (by omega)
section
variable {fl : List FT} {pa : List PT} {l : List GT} {rs : List YT} {day : Int} (U : Usable fl pa l rs) (h59 : rs.length ≤ 59) (hd : 0 ≤ day ∧ day ≤ 36524)
include U h59 hd
theorem late_last {w : Int} {n i : Nat} {x : MT} (hn : n ≤ rs.length) (hpre : ∀ j, j < n → (ry rs j).f2 ≤ day) (hi : i < l.length) (hl0 : ¬ ((l.length : Int) = 0)) (him : Int.tmod (wrap64 w) (l.length : Int) = (i : Int)) (hx : x = mv (rg l i).f1 0) (hxr : 1 ≤ x.f0 ∧ x.f0 ≤ 64) (hdead : ∀ j, j < n → (ry rs j).f1 = x.f0 → (ry rs j).f0 ≠ 3)
  (k0 : Nat → Option Bool) (hk0 : ∀ k, k0 k = ((chain_Run.f fl pa l day (rs.take n ++ [⟨1, x.f0, day⟩])).bind fun bt => cohousinglaw26_ChainLate.l2 k l w true bt.1 bt.2.2 0 x.f0 x.f1 x.f2)) : Ev k0 true := by
 have hR := U.r
 have hYt := take_valid U.y hn
 have i1 : (0 : Int) ≤ (i : Int) := by omega
 have i2 : (i : Int) < (l.length : Int) := by omega
 have hs := hR.shape i hi
 refine Ev.congr hk0 ?_
 have hlt : (rs.take n).length = n := by rw [List.length_take]; omega
 have hYm : RepliesV (rs.take n ++ [⟨1, x.f0, day⟩]) := by
  refine ⟨by rw [List.length_append, hlt]; simp; omega, fun j hj => ?_, fun j h0 hj => ?_⟩
  ·rw [List.length_append, hlt] at hj
   by_cases e : j = n
   ·have := ry_last (rs.take n) ⟨1, x.f0, day⟩
    rw [hlt] at this
    rw [e, this]
    exact ⟨by simp, by simp, hxr.1, hxr.2, hd.1, hd.2⟩
   ·have hjn : j < n := by simp at hj; omega
    rw [ry_left _ _ (by omega)]
    exact hYt.one j (by omega)
  ·rw [List.length_append, hlt] at hj
   by_cases e : j = n
   ·have := ry_last (rs.take n) ⟨1, x.f0, day⟩
    rw [hlt] at this
    rw [e, this, ry_left _ _ (by omega), ry_take rs hn (by omega)]
    exact hpre (n - 1) (by omega)
   ·have hjn : j < n := by simp at hj; omega
    rw [ry_left _ _ (by omega), ry_left _ _ (by omega)]
    exact hYt.asc j h0 (by omega)
 have f3 := Run_f (rs := rs.take n ++ [⟨1, x.f0, day⟩]) day U.fm U.fr.len U.fr.m hYm.len
 rw [runR_ok U.m hR hYm hd.1 hd.2] at f3
 simp only [f3, Option.bind_some]
 have hagx : agB (rs.take n ++ [⟨1, x.f0, day⟩]) day x.f0 = true := by
  have e1 : ∀ m, m ≤ n → (stA (rs.take n ++ [⟨1, x.f0, day⟩]) day x.f0 m).2 = false := by
   intro m
   induction m with
   | zero => intro _; rfl
   | succ m ih =>
    intro hm
    have i1 := ih (by omega)
    rw [stA_succ, ry_left _ _ (by omega), ry_take rs hn (by omega)]
    split
    ·rename_i hc
     have := hdead m (by omega) hc.2
     rw [i1]
     simpa using this
    ·exact i1
  unfold agB
  have el : (rs.take n ++ [(⟨1, x.f0, day⟩ : YT)]).length = n + 1 := by rw [List.length_append, hlt]; rfl
  have hl1 := ry_last (rs.take n) ⟨1, x.f0, day⟩
  rw [hlt] at hl1
  rw [el, stA_succ, hl1, if_pos ⟨Int.le_refl _, rfl⟩, e1 n (Nat.le_refl _)]
  rfl
 have ht := told_ring (rs.take n ++ [⟨1, x.f0, day⟩]) day (rg l i)
 have hin : 0 < nR (rs.take n ++ [⟨1, x.f0, day⟩]) day (rg l i) → x ∈ goR (rs.take n ++ [⟨1, x.f0, day⟩]) day l l.length := fun h => (mem_goR l.length).2 ⟨i, hi, 0, h, hx⟩
 have hnot : x ∉ goR (rs.take n ++ [⟨1, x.f0, day⟩]) day l l.length → (rg l i).f0 = false ∧ 1 < (rg l i).f1.length := by
  intro hno
  have h0 : nR (rs.take n ++ [⟨1, x.f0, day⟩]) day (rg l i) = 0 := by
   rcases Nat.eq_zero_or_pos (nR (rs.take n ++ [⟨1, x.f0, day⟩]) day (rg l i)) with h | h
   ·exact h
   ·exact absurd (hin h) hno
  have key : ∀ m b, Told (rs.take n ++ [⟨1, x.f0, day⟩]) day (rg l i) m b → m = 0 → (rg l i).f0 = false ∧ 1 < (rg l i).f1.length := by
   intro m b hT hm0
   cases hT with
   | all _ => have := hs.1; omega
   | chain _ hm hc _ hno' =>
    subst hm0
    rw [← hx, hagx] at hno'
    cases hno'
   | cycle m hm hc hno' =>
    refine ⟨hc, ?_⟩
    rcases Nat.eq_zero_or_pos m with e | e
    ·subst e
     rw [← hx, hagx] at hno'
     cases hno'
    ·omega
  exact key _ _ ht h0
 have hgl2 := go_few (rs := rs.take n ++ [⟨1, x.f0, day⟩]) (due := day) U.fr.len U.fr.m
 generalize goR (rs.take n ++ [⟨1, x.f0, day⟩]) day l l.length = G at hnot hgl2
 have loop : ∀ m, m ≤ G.length → (∀ j, j < m → mv G j ≠ x) → Ev (fun k => cohousinglaw26_ChainLate.l2 k l w true G 0 (m : Int) x.f0 x.f1 x.f2) true := by
  refine loopUp G.length _ ?_ ?_
  ·intro hno
   have d1 : ¬ (((G.length : Nat) : Int) < (G.length : Int)) := by omega
   obtain ⟨hc, hlen⟩ := hnot (fun hm => by
    obtain ⟨j, hj, e⟩ := List.mem_iff_getElem.1 hm
    exact hno j hj (by rw [mv_get G j hj]; exact e))
   have hc' : (rd_T49 l (i : Int)).f0 = false := hc
   have hlen' : (((rd_T49 l (i : Int)).f1).length : Int) > 1 := by simp only [rg] at hlen; omega
   refine Ev.step ?_
   simp only [cohousinglaw26_ChainLate.l2, d1, hl0, him, i1, i2, hc', if_true, if_false, Bool.false_eq_true]
   rw [decide_eq_true hlen']
   exact Ev.pure _
  ·intro m hm ih hno
   have d1 : (m : Int) < (G.length : Int) := by omega
   have d2 : (0 : Int) ≤ (m : Int) := by omega
   refine Ev.step ?_
   by_cases e : mv G m = x
   ·have hb : ((rd_T51 G (m : Int)).f0 == x.f0 && ((rd_T51 G (m : Int)).f1 == x.f1 && ((rd_T51 G (m : Int)).f2 == x.f2))) = true := by
     rw [move_beq]; exact decide_eq_true e
    simp only [cohousinglaw26_ChainLate.l2, d1, d2, hb, if_true, beq_self_eq_true]
    exact Ev.pure _
   ·have hb : ((rd_T51 G (m : Int)).f0 == x.f0 && ((rd_T51 G (m : Int)).f1 == x.f1 && ((rd_T51 G (m : Int)).f2 == x.f2))) = false := by
     rw [move_beq]; exact decide_eq_false e
    simp only [cohousinglaw26_ChainLate.l2, d1, d2, hb, if_true, Bool.false_eq_true, if_false, wrap_nat (show m ≤ 140737488355328 by omega)]
    refine ih (fun j hj => ?_)
    by_cases e2 : j = m
    ·rw [e2]; exact e
    ·exact hno j (by omega)
 exact loop 0 (by omega) (fun j hj => absurd hj (Nat.not_lt_zero _))
theorem late_cut (w : Int) (hw : 0 ≤ w ∧ w ≤ 255) {n : Nat} (hn : n ≤ rs.length) (hpre : ∀ j, j < n → (ry rs j).f2 ≤ day) (hpost : n < rs.length → day < (ry rs n).f2) :
  Ev (fun k => cohousinglaw26_ChainLate.j2 k l rs w true day (n : Int) fl pa) true := by
 have hR := U.r
 have hY := U.y
 have hlr := U.fr.len
 have hag : ∀ x, agB rs day x = agB (rs.take n) day x := by
  intro x
  have hl : (rs.take n).length = n := by rw [List.length_take]; omega
  have e1 : stA (rs.take n) day x n = stA rs day x n := stA_pre _ _ _ _ n (fun j hj => ry_take rs hn hj)
  have e2 : stA rs day x rs.length = stA rs day x n := by
   have := stA_late rs day x n (rs.length - n) (fun j h1 h2 => by
    have h3 := hpost (by omega)
    have h4 := asc_le hY (j - n) n (by omega)
    rw [show n + (j - n) = j by omega] at h4
    omega)
   rwa [show n + (rs.length - n) = rs.length by omega] at this
  unfold agB
  rw [hl, e1, e2]
 obtain ⟨c1, c2⟩ := go_congr hag l l.length
 have f1 := Run_f (rs := rs) day U.fm U.fr.len U.fr.m (by omega)
 rw [runR_ok U.m hR hY hd.1 hd.2] at f1
 have hYt := take_valid hY hn
 have f2 := Run_f (rs := rs.take n) day U.fm U.fr.len U.fr.m hYt.len
 rw [runR_ok U.m hR hYt hd.1 hd.2, ← c1, ← c2] at f2
 have hgl := go_few (rs := rs) (due := day) U.fr.len U.fr.m
 have hbl : (brR rs day l l.length).length ≤ 140737488355328 := by have := brM_len (repM rs day rs.length) l l.length; show (brM _ l l.length).length ≤ _; omega
 have h2 : (0 : Int) ≤ (n : Int) := by omega
 have h3 : (n : Int) ≤ (rs.length : Int) := by omega
 refine Ev.step ?_
 simp only [cohousinglaw26_ChainLate.j2, f1, h2, h3, if_true, Int.toNat_natCast, f2, Option.bind_some]
 refine Ev.bnd (SameMoves_f (goR rs day l l.length) (goR rs day l l.length) (by omega)) ?_
 simp only [decide_true, if_true]
 refine Ev.bnd (SameInts_f (brR rs day l l.length) (brR rs day l l.length) hbl) ?_
 simp only [decide_true, Bool.not_true]
 refine Ev.step ?_
 by_cases hl0 : (l.length : Int) = 0
 ·simp only [cohousinglaw26_ChainLate.j3, hl0, Bool.false_eq_true, if_true, if_false]
  exact Ev.pure _
 have hlp : 0 < l.length := by omega
 obtain ⟨i, hi, him⟩ : ∃ i : Nat, i < l.length ∧ Int.tmod (wrap64 w) (l.length : Int) = (i : Int) := by
  refine ⟨w.toNat % l.length, Nat.mod_lt _ hlp, ?_⟩
  have e : w = (w.toNat : Int) := by omega
  rw [show wrap64 w = w by unfold wrap64; omega, e, Int.tmod_eq_emod_of_nonneg (by omega), Int.toNat_natCast]
  exact (Int.natCast_emod _ _).symm
 have i1 : (0 : Int) ≤ (i : Int) := by omega
 have i2 : (i : Int) < (l.length : Int) := by omega
 have hs := hR.shape i hi
 have i3 : (0 : Int) < (((rd_T49 l (i : Int)).f1).length : Int) := by have := hs.1; simp only [rg] at this; omega
 simp only [cohousinglaw26_ChainLate.j3, hl0, him, i1, i2, i3, Bool.false_eq_true, if_true, if_false]
 obtain ⟨x, hx⟩ : ∃ x, x = mv (rg l i).f1 0 := ⟨_, rfl⟩
 have hx' : rd_T51 (rd_T49 l (i : Int)).f1 0 = x := hx.symm
 rw [hx']
 have hxr : 1 ≤ x.f0 ∧ x.f0 ≤ 64 := by
  obtain ⟨j, _, hj, e3, _, _⟩ := hR.fit i hi 0 hs.1
  rw [← hx] at e3
  rw [← e3]
  exact U.m.rng j hj
 have HIM := Aside0.mk him
 have HX := Aside0.mk hx
 have HXR := Aside0.mk hxr
 clear him hx hx' hxr i3 hbl hgl hag c1 c2 f1 f2
 have look : ∀ m, m ≤ n → ((∀ j, j < m → (ry rs j).f1 = x.f0 → (ry rs j).f0 ≠ 3) → Ev (fun k => cohousinglaw26_ChainLate.l1 k l rs w true day (n : Int) (m : Int) fl pa x.f0 x.f1 x.f2) true) := by
  refine loopUp n _ ?_ ?_
  ·intro hdead
   have d1 : ¬ ((n : Int) < (n : Int)) := by omega
   have d2 : ([] : List YT).length + (rs.take n).length < 5864062014805 := by rw [List.length_take]; simp; omega
   have d3 : (rs.take n).length + ([(⟨1, x.f0, day⟩ : YT)]).length < 5864062014805 := by rw [List.length_take]; simp; omega
   refine Ev.step ?_
   refine late_last U h59 hd hn hpre hi hl0 HIM.out HX.out HXR.out hdead _ (fun k => ?_)
   simp only [cohousinglaw26_ChainLate.l1, d1, if_false, Option.bind_some, h2, h3, if_true, Int.toNat_natCast, d2, d3, List.nil_append]
  ·intro m hm ih hdead
   have d1 : (m : Int) < (n : Int) := by omega
   have d2 : (0 : Int) ≤ (m : Int) := by omega
   have d3 : (m : Int) < (rs.length : Int) := by omega
   have hwm := wrap_nat (show m ≤ 140737488355328 by omega)
   have next : ((ry rs m).f1 = x.f0 → (ry rs m).f0 ≠ 3) → Ev (fun k => cohousinglaw26_ChainLate.l1 k l rs w true day (n : Int) ((m + 1 : Nat) : Int) fl pa x.f0 x.f1 x.f2) true := fun h => ih (fun j hj => by
    by_cases e : j = m
    ·rw [e]; exact h
    ·exact hdead j (Nat.lt_of_le_of_ne (Nat.le_of_lt_succ hj) e))
   refine Ev.step ?_
   by_cases e1 : (rd_T55 rs (m : Int)).f1 = x.f0
   ·by_cases e2 : (rd_T55 rs (m : Int)).f0 = 3
    ·simp only [cohousinglaw26_ChainLate.l1, d1, d2, d3, e1, e2, if_true]
     exact Ev.pure _
    ·simp only [cohousinglaw26_ChainLate.l1, d1, d2, d3, e1, e2, if_true, if_false, hwm]
     exact next (fun _ => e2)
   ·simp only [cohousinglaw26_ChainLate.l1, d1, d2, d3, e1, if_true, if_false, hwm]
    exact next (fun h => absurd h e1)
 exact look 0 (by omega) (fun j hj => absurd hj (Nat.not_lt_zero _))
end
theorem late_ (fl : List FT) (pa : List PT) (l : List GT) (a : Int) (rs : List YT) (w : Int) (ha : 0 ≤ a ∧ a ≤ 65535) (hw : 0 ≤ w ∧ w ≤ 255) : Ev (fun k => cohousinglaw26_ChainLate.f k fl pa l a rs w) true := by
 have out : Ev (fun k => cohousinglaw26_ChainLate.j0 k l a rs w true true fl pa) true := by
  refine Ev.step ?_
  simp only [cohousinglaw26_ChainLate.j0, if_true]
  exact Ev.pure _
 unfold cohousinglaw26_ChainLate.f
 refine Ev.bnd head26 ?_
 refine Ev.bnd (usable_f fl pa l rs) ?_
 by_cases U : Usable fl pa l rs
 case neg =>
  simp only [decide_eq_false U, Bool.false_eq_true, if_false]
  exact out
 simp only [decide_eq_true U, if_true]
 by_cases h59 : (rs.length : Int) > 59
 ·rw [decide_eq_true h59]; exact out
 rw [decide_eq_false h59]
 have h59' : rs.length ≤ 59 := by omega
 have hd : 0 ≤ a % 36525 ∧ a % 36525 ≤ 36524 := by omega
 refine Ev.step ?_
 simp only [cohousinglaw26_ChainLate.j0, Bool.false_eq_true, if_false, on_f ha.1 ha.2, Option.bind_some]
 have key : ∀ n, n ≤ rs.length → ((∀ j, j < n → (ry rs j).f2 ≤ a % 36525) → Ev (fun k => cohousinglaw26_ChainLate.l0 k l rs w true (a % 36525) (n : Int) fl pa) true) := by
  refine loopUp rs.length _ ?_ ?_
  ·intro hpre
   have h1 : ¬ (((rs.length : Nat) : Int) < (rs.length : Int)) := by omega
   refine Ev.step ?_
   simp only [cohousinglaw26_ChainLate.l0, h1, if_false]
   exact late_cut U h59' hd w hw (Nat.le_refl _) hpre (fun h => absurd h (Nat.lt_irrefl _))
  ·intro n hlt ih hpre
   have h1 : (n : Int) < (rs.length : Int) := by omega
   have h2 : (0 : Int) ≤ (n : Int) := by omega
   refine Ev.step ?_
   by_cases c : (rd_T55 rs (n : Int)).f2 ≤ a % 36525
   ·simp only [cohousinglaw26_ChainLate.l0, h1, h2, c, if_true, wrap_nat (show n ≤ 140737488355328 by omega)]
    refine ih (fun j hj => ?_)
    by_cases e : j = n
    ·rw [e]; exact c
    ·exact hpre j (by omega)
   ·simp only [cohousinglaw26_ChainLate.l0, h1, h2, c, if_true, if_false]
    exact late_cut U h59' hd w hw (Nat.le_of_lt hlt) hpre (fun _ => by simp only [ry]; omega)
 exact key 0 (by omega) (fun j hj => absurd hj (Nat.not_lt_zero _))
end Go.Proofs.Ytocbiggglnpeoaa.P
end
