/- Part 11 of the base that the seat's proofs share: words, walks and plain laws. -/
import Derived.Test.YtmhimmodigeeiaaCMj
set_option linter.unusedVariables false
set_option linter.unusedSimpArgs false
section
namespace Go.Proofs.Ytmhimmodigeeiaa.P
open Go.RowKit Go.Proofs.YtmhimmodigeeiaaW.PrintWords Go.Proofs.YtmhimmodigeeiaaW.PrintLast Go.Proofs.YtmhimmodigeeiaaW.PrintMore
set_option linter.unusedVariables false
set_option linter.unusedSimpArgs false
open Classical
noncomputable def atR (v : Int × Int) : Int × Int × Int := if RV v.1 v.2 then (v.1, v.2, 0) else (0, 0, 3)
theorem at_ev {f : List PC} (hf : FOk f) {x : Int} {i : Nat} (h : atI f x i) (h0 : 0 ≤ x) (h1 : x ≤ 100000) : Ev (fun k => piecewise_At.f k f x) (atR (red (num (lineL (pA f i)) x) (lineL (pA f i)).d)) := by
 have hl := hf.lb h.1
 have c0 : ¬ x < 0 := by omega
 have c1 : ¬ x > 100000 := by omega
 have hd1 := hl.d1
 have hd2 := hl.d2
 have hn := hl.num_in h0 (show x ≤ 100001 by omega)
 unfold piecewise_At.f
 refine Ev.bnd (b := decide (FOk f)) ⟨100, fun k hk => valid_eq f hk⟩ ?_
 simp only [decide_eq_true hf, if_true, c0, c1, if_false, decide_false]
 refine Ev.step ?_
 simp only [piecewise_At.j0, Bool.false_eq_true, if_false, find_eq hf h, Option.bind_some]
 have ea : piecewise_line_at.f (lineL (pA f i)).n (lineL (pA f i)).s (lineL (pA f i)).d (lineL (pA f i)).fr x = some (num (lineL (pA f i)) x) := congrArg some (atL_eq hl.w h0 (show x ≤ 100001 by omega))
 simp only [ea, Option.bind_some]
 refine Ev.bnd (b := red (num (lineL (pA f i)) x) (lineL (pA f i)).d) ⟨20000, fun k hk => lowest_eq (by omega) (by omega) (by omega) (by omega) (by omega)⟩ ?_
 simp only [rvalid_eq, Option.bind_some, decide_eq_true_eq]
 unfold atR
 by_cases hv : RV (red (num (lineL (pA f i)) x) (lineL (pA f i)).d).1 (red (num (lineL (pA f i)) x) (lineL (pA f i)).d).2
 ·simp only [hv, if_true]
  exact Ev.pure _
 ·simp only [hv, if_false]
  exact Ev.pure _
theorem at_bad {f : List PC} {x : Int} (h : ¬ (FOk f ∧ 0 ≤ x ∧ x ≤ 100000)) : Ev (fun k => piecewise_At.f k f x) (0, 0, 1) := by
 have hj : Ev (fun k => piecewise_At.j0 k f x true) (0, 0, 1) := by
  refine Ev.step ?_
  simp only [piecewise_At.j0, if_true]
  exact Ev.pure _
 unfold piecewise_At.f
 refine Ev.bnd (b := decide (FOk f)) ⟨100, fun k hk => valid_eq f hk⟩ ?_
 by_cases hf : FOk f
 case neg =>
  simp only [decide_eq_false hf, Bool.false_eq_true, if_false]
  exact hj
 simp only [decide_eq_true hf, if_true]
 by_cases c0 : x < 0
 ·simp only [c0, if_true]
  exact hj
 ·have c1 : x > 100000 := by
   rcases Int.lt_or_le 100000 x with h3 | h3
   ·exact h3
   ·exact absurd ⟨hf, by omega, h3⟩ h
  simp only [c0, c1, if_false, decide_true]
  exact hj
theorem rat_ev {f : List PC} (hf : FOk f) (hIf : ∀ p ∈ f, IBP p) {x : Int} {i : Nat} (h : atI f x i) (h0 : 0 ≤ x) (h1 : x ≤ 100000) : Ev (fun k => cohousingref05_At.f k f x) (atR (red (num (lineL (pA f i)) x) (lineL (pA f i)).d)) := by
 have hl := hf.lb h.1
 have c0 : ¬ x < 0 := by omega
 have c1 : ¬ x > 100000 := by omega
 have hb := red_LB hl h0 (show x ≤ 100001 by omega)
 unfold cohousingref05_At.f
 refine Ev.bnd (rvalid_ev f hIf) ?_
 simp only [decide_eq_true hf, if_true, c0, c1, if_false, decide_false]
 refine Ev.step ?_
 simp only [cohousingref05_At.j0, Bool.false_eq_true, if_false]
 refine Ev.bnd (value_ev hf h h0 (by omega)) (Ev.bnd (rv_ref (by constructor <;> omega) (by constructor <;> omega)) ?_)
 simp only [decide_eq_true_eq]
 unfold atR
 by_cases hv : RV (red (num (lineL (pA f i)) x) (lineL (pA f i)).d).1 (red (num (lineL (pA f i)) x) (lineL (pA f i)).d).2
 ·simp only [hv, if_true]
  exact Ev.pure _
 ·simp only [hv, if_false]
  exact Ev.pure _
theorem rat_bad {f : List PC} {x : Int} (hIf : ∀ p ∈ f, IBP p) (h : ¬ (FOk f ∧ 0 ≤ x ∧ x ≤ 100000)) : Ev (fun k => cohousingref05_At.f k f x) (0, 0, 1) := by
 have hj : Ev (fun k => cohousingref05_At.j0 k f x true) (0, 0, 1) := by
  refine Ev.step ?_
  simp only [cohousingref05_At.j0, if_true]
  exact Ev.pure _
 unfold cohousingref05_At.f
 refine Ev.bnd (rvalid_ev f hIf) ?_
 by_cases hf : FOk f
 case neg =>
  simp only [decide_eq_false hf, Bool.false_eq_true, if_false]
  exact hj
 simp only [decide_eq_true hf, if_true]
 by_cases c0 : x < 0
 ·simp only [c0, if_true]
  exact hj
 ·have c1 : x > 100000 := by
   rcases Int.lt_or_le 100000 x with h3 | h3
   ·exact h3
   ·exact absurd ⟨hf, by omega, h3⟩ h
  simp only [c0, c1, if_false, decide_true]
  exact hj
theorem pc_self {p : PC} (h : POk p) : pc (lineL p) p.f0 = p := by
 have e1 : num (lineL p) p.f0 = p.f1.f0 * p.f2.f1 := by
  rw [lineL_eq h]
  exact num_fr _ _ _ _
 have e2 := red_slope h
 unfold pc
 rw [e1, e2]
 rw [lineL_eq h]
 obtain ⟨⟨a1, a2, a3, a4, a5⟩, ⟨b1, b2, b3, b4, b5⟩, c1, c2, c3, c4⟩ := h
 have hp := mul_pos_in a1 c1 b1 c2
 have e3 : red (p.f1.f0 * p.f2.f1) (p.f1.f1 * p.f2.f1) = (p.f1.f0, p.f1.f1) := by
  rw [← red_id (n := p.f1.f0) (d := p.f1.f1) (by omega) a5]
  refine red_eq (by omega) (by omega) ?_
  rw [Int.mul_assoc, Int.mul_comm p.f2.f1]
 dsimp only
 rw [e3]
def lineS (a b : Int) (p : PC) : LN := ⟨(lineL p).n * a, (lineL p).s * a, (lineL p).d * b, p.f0⟩
theorem num_S {a b : Int} {p : PC} (h : POk p) (x : Int) : num (lineS a b p) x = num (lineL p) x * a := by
 rw [num_at (lineS a b p) p.f0 x, num_at (lineL p) p.f0 x]
 have e1 : num (lineS a b p) p.f0 = (lineL p).n * a := num_fr _ _ _ _
 have e2 : num (lineL p) p.f0 = (lineL p).n := by rw [lineL_eq h]; exact num_fr _ _ _ _
 rw [e1, e2, Int.add_mul]
 show _ + (lineL p).s * a * (x - p.f0) = _ + (lineL p).s * (x - p.f0) * a
 rw [Int.mul_assoc, Int.mul_comm a, ← Int.mul_assoc]
theorem POk.dpos {p : PC} (h : POk p) : 0 < (lineL p).d := by
 rw [lineL_eq h]
 exact Int.mul_pos (show 0 < p.f1.f1 from h.1.1) (show 0 < p.f2.f1 from h.2.1.1)
theorem same_S {a b : Int} (hb : 0 < b) {p q : PC} (hp : POk p) (hq : POk q) : same (lineS a b p) (lineS a b q) ↔ a = 0 ∨ same (lineL p) (lineL q) := by
 have e : ∀ x, num (lineS a b p) x * (lineS a b q).d = num (lineL p) x * (lineL q).d * (a * b) ∧ num (lineS a b q) x * (lineS a b p).d = num (lineL q) x * (lineL p).d * (a * b) := fun x => by
  rw [num_S hp, num_S hq]
  show num (lineL p) x * a * ((lineL q).d * b) = _ ∧ num (lineL q) x * a * ((lineL p).d * b) = _
  constructor <;> simp [Int.mul_comm, Int.mul_left_comm, Int.mul_assoc]
 constructor
 ·intro h
  by_cases ha : a = 0
  ·exact .inl ha
  ·refine .inr (fun x => ?_)
   have h1 := h x
   rw [(e x).1, (e x).2] at h1
   exact Int.eq_of_mul_eq_mul_right (by
    intro h2
    rcases Int.mul_eq_zero.1 h2 with h3 | h3
    ·exact ha h3
    ·omega) h1
 ·intro h x
  rw [(e x).1, (e x).2]
  rcases h with h | h
  ·rw [h]; simp
  ·rw [h x]
def scEs (a b : Int) (f : List PC) : List (LN × Int) := f.map (fun p => (lineS a b p, p.f0))
theorem pc_S {a b : Int} (hb : 0 < b) {p : PC} (h : POk p) : pc (lineS a b p) p.f0 = ⟨p.f0, ⟨(red (p.f1.f0 * a) (p.f1.f1 * b)).1, (red (p.f1.f0 * a) (p.f1.f1 * b)).2⟩, ⟨(red (p.f2.f0 * a) (p.f2.f1 * b)).1, (red (p.f2.f0 * a) (p.f2.f1 * b)).2⟩⟩ := by
 have h1 := h
 obtain ⟨⟨a1, a2, a3, a4, a5⟩, ⟨b1, b2, b3, b4, b5⟩, c1, c2, c3, c4⟩ := h
 have d1 : 0 < p.f1.f1 := by omega
 have d2 : 0 < p.f2.f1 := by omega
 have hp := Int.mul_pos d1 d2
 have e1 : red (num (lineS a b p) p.f0) (lineS a b p).d = red (p.f1.f0 * a) (p.f1.f1 * b) := by
  have : num (lineS a b p) p.f0 = (lineL p).n * a := num_fr _ _ _ _
  rw [this]
  show red ((lineL p).n * a) ((lineL p).d * b) = _
  rw [lineL_eq h1]
  dsimp only
  refine red_eq (Int.mul_pos hp hb) (Int.mul_pos d1 hb) ?_
  simp [Int.mul_comm, Int.mul_left_comm]
 have e2 : red (lineS a b p).s (lineS a b p).d = red (p.f2.f0 * a) (p.f2.f1 * b) := by
  show red ((lineL p).s * a) ((lineL p).d * b) = _
  rw [lineL_eq h1]
  dsimp only
  refine red_eq (Int.mul_pos hp hb) (Int.mul_pos d2 hb) ?_
  simp [Int.mul_comm, Int.mul_left_comm]
 unfold pc
 rw [e1, e2]
theorem sc_bounds {a b : Int} (hr : RV a b) {p : PC} (h : POk p) : (-1000000000000000000 ≤ p.f1.f0 * a ∧ p.f1.f0 * a ≤ 1000000000000000000) ∧ (1 ≤ p.f1.f1 * b ∧ p.f1.f1 * b ≤ 100000000000) ∧ (-100000000000000 ≤ p.f2.f0 * a ∧ p.f2.f0 * a ≤ 100000000000000) ∧ (1 ≤ p.f2.f1 * b ∧ p.f2.f1 * b ≤ 100000000000) := by
 obtain ⟨⟨a1, a2, a3, a4, a5⟩, ⟨b1, b2, b3, b4, b5⟩, c1, c2, c3, c4⟩ := h
 obtain ⟨r1, r2, r3, r4, _⟩ := hr
 have e1 := mul_in a3 a4 r3 r4
 have e2 := mul_pos_in a1 c1 r1 r2
 have e3 := mul_in c3 c4 r3 r4
 have e4 := mul_pos_in b1 c2 r1 r2
 omega
noncomputable def scR (out t : List PC) : List PC × Int := if ∃ p, p ∈ t ∧ ¬ POk p then ([], 3) else (out ++ t, 0)
theorem scR_cons {out t : List PC} {p : PC} (h : POk p) : scR out (p :: t) = scR (out ++ [p]) t := by
 unfold scR
 have e : (∃ q, q ∈ p :: t ∧ ¬ POk q) ↔ ∃ q, q ∈ t ∧ ¬ POk q := by
  constructor
  ·rintro ⟨q, hq, hn⟩
   rcases List.mem_cons.1 hq with rfl | hq
   ·exact absurd h hn
   ·exact ⟨q, hq, hn⟩
  ·rintro ⟨q, hq, hn⟩
   exact ⟨q, List.mem_cons_of_mem _ hq, hn⟩
 simp only [e, List.append_assoc, List.singleton_append]
theorem scR_bad {out t : List PC} {p : PC} (h : ¬ POk p) : scR out (p :: t) = ([], 3) := if_pos ⟨p, List.mem_cons_self .., h⟩
theorem drop_sc {a b : Int} {f : List PC} {i : Nat} (h : i < f.length) : (scEs a b f).drop i = (lineS a b (pA f i), (pA f i).f0) :: (scEs a b f).drop (i + 1) := by
 unfold scEs
 rw [List.drop_eq_getElem_cons (by rw [List.length_map]; exact h), List.getElem_map, pA_get h]
def prevS (a b : Int) (f : List PC) (i : Nat) : Option LN := if i = 0 then none else some (lineS a b (pA f (i - 1)))
theorem outM_S {a b : Int} (hb : 0 < b) {f : List PC} (hf : FOk f) {i : Nat} (h : i < f.length) : outM (prevS a b f i) ((scEs a b f).drop i) = (if 0 < i ∧ (a = 0 ∨ same (lineL (pA f (i - 1))) (lineL (pA f i))) then [] else [pc (lineS a b (pA f i)) (pA f i).f0]) ++ outM (prevS a b f (i + 1)) ((scEs a b f).drop (i + 1)) := by
 have e1 : prevS a b f (i + 1) = some (lineS a b (pA f i)) := by unfold prevS; rw [if_neg (by omega), Nat.add_sub_cancel]
 rw [drop_sc h, e1]
 by_cases hz : i = 0
 ·have e0 : prevS a b f i = none := if_pos hz
  rw [e0, if_neg (by omega)]
  rfl
 ·have e0 : prevS a b f i = some (lineS a b (pA f (i - 1))) := if_neg hz
  have hs := same_S (a := a) hb (hf.pok (show i - 1 < f.length by omega)) (hf.pok h)
  rw [e0]
  show (if same (lineS a b (pA f (i - 1))) (lineS a b (pA f i)) then _ else _) ++ _ = _
  by_cases hc : a = 0 ∨ same (lineL (pA f (i - 1))) (lineL (pA f i))
  ·rw [if_pos (hs.2 hc), if_pos ⟨by omega, hc⟩]
  ·rw [if_neg (fun h => hc (hs.1 h)), if_neg (fun h => hc h.2)]
theorem scale_l0 {a b : Int} (hr : RV a b) {f : List PC} (hf : FOk f) : ∀ (d i : Nat) (out : List PC), i + d = f.length → out.length ≤ i → Ev (fun k => piecewise_Scale.l0 k f out f (f.length : Int) (i : Int) a b) (scR out (outM (prevS a b f i) ((scEs a b f).drop i))) := by
 have hfew := hf.few
 have hb : 0 < b := by have := hr.1; omega
 intro d
 induction d with
 | zero =>
  intro i out hi ho
  have h1 : ¬ (i : Int) < (f.length : Int) := by omega
  have e : (scEs a b f).drop i = [] := List.drop_of_length_le (by unfold scEs; rw [List.length_map]; omega)
  refine Ev.step ?_
  simp only [piecewise_Scale.l0, h1, if_false]
  rw [e]
  have e2 : outM (prevS a b f i) [] = [] := by cases prevS a b f i <;> rfl
  rw [e2]
  unfold scR
  rw [if_neg (fun ⟨p, hp, _⟩ => by cases hp), List.append_nil]
  exact Ev.pure _
 | succ d ih =>
  intro i out hi ho
  have hil : i < f.length := by omega
  have h1 : (i : Int) < (f.length : Int) := by omega
  have h2 : 0 ≤ (i : Int) := by omega
  have ew : wrap64 ((i : Int) + 1) = ((i + 1 : Nat) : Int) := by unfold wrap64; omega
  have hp := hf.pok hil
  have hin := hf.in_ hil
  have hbd := sc_bounds hr hp
  have hll : out.length < 3518437208883 := by omega
  have eM := outM_S (a := a) hb hf hil
  have skip : (0 < i ∧ (a = 0 ∨ same (lineL (pA f (i - 1))) (lineL (pA f i)))) → Ev (fun k => piecewise_Scale.j2 k f out f (f.length : Int) (i : Int) true a b (pA f i).f0 (pA f i).f1.f0 (pA f i).f1.f1 (pA f i).f2.f0 (pA f i).f2.f1) (scR out (outM (prevS a b f i) ((scEs a b f).drop i))) := fun hc => by
   rw [eM, if_pos hc, List.nil_append]
   refine Ev.step ?_
   simp only [piecewise_Scale.j2, if_true, ew]
   exact ih (i + 1) out (by omega) (by omega)
  have take : (¬ (0 < i ∧ (a = 0 ∨ same (lineL (pA f (i - 1))) (lineL (pA f i))))) → Ev (fun k => piecewise_Scale.j2 k f out f (f.length : Int) (i : Int) false a b (pA f i).f0 (pA f i).f1.f0 (pA f i).f1.f1 (pA f i).f2.f0 (pA f i).f2.f1) (scR out (outM (prevS a b f i) ((scEs a b f).drop i))) := fun hc => by
   rw [eM, if_neg hc, List.singleton_append]
   have epc := pc_S (a := a) hb hp
   have hih := ih (i + 1) (out ++ [pc (lineS a b (pA f i)) (pA f i).f0]) (by omega) (by rw [List.length_append, List.length_singleton]; omega)
   have hn := numbers_eq (pc (lineS a b (pA f i)) (pA f i).f0)
   rw [epc] at hih hn ⊢
   have w1 : wrap64 ((pA f i).f1.f0 * a) = (pA f i).f1.f0 * a := wrap_id (by omega) (by omega)
   have w2 : wrap64 ((pA f i).f1.f1 * b) = (pA f i).f1.f1 * b := wrap_id (by omega) (by omega)
   have w3 : wrap64 ((pA f i).f2.f0 * a) = (pA f i).f2.f0 * a := wrap_id (by omega) (by omega)
   have w4 : wrap64 ((pA f i).f2.f1 * b) = (pA f i).f2.f1 * b := wrap_id (by omega) (by omega)
   have l1 : Ev (fun k => piecewise_lowest.f k ((pA f i).f1.f0 * a) ((pA f i).f1.f1 * b)) (red ((pA f i).f1.f0 * a) ((pA f i).f1.f1 * b)) := ⟨100000000001, fun k hk => by clear w1 w2 w3 w4; exact lowest_eq (by omega) (by omega) (by omega) (by omega) (by omega)⟩
   have l2 : Ev (fun k => piecewise_lowest.f k ((pA f i).f2.f0 * a) ((pA f i).f2.f1 * b)) (red ((pA f i).f2.f0 * a) ((pA f i).f2.f1 * b)) := ⟨100000000001, fun k hk => by clear w1 w2 w3 w4; exact lowest_eq (by omega) (by omega) (by omega) (by omega) (by omega)⟩
   refine Ev.step ?_
   simp only [piecewise_Scale.j2, Bool.false_eq_true, if_false, w1, w2, w3, w4]
   refine Ev.bnd l1 (Ev.bnd l2 ?_)
   simp only [hn, Option.bind_some, decide_eq_true_eq]
   by_cases hq : POk (⟨(pA f i).f0, ⟨(red ((pA f i).f1.f0 * a) ((pA f i).f1.f1 * b)).1, (red ((pA f i).f1.f0 * a) ((pA f i).f1.f1 * b)).2⟩, ⟨(red ((pA f i).f2.f0 * a) ((pA f i).f2.f1 * b)).1, (red ((pA f i).f2.f0 * a) ((pA f i).f2.f1 * b)).2⟩⟩ : PC)
   ·simp only [hq, if_true, hll, ew]
    rw [scR_cons hq]
    exact hih
   ·simp only [hq, if_false]
    rw [scR_bad hq]
    exact Ev.pure _
  refine Ev.step ?_
  by_cases hz : 0 < i
  ·have h3 : (i : Int) > 0 := by omega
   have e4 : wrap64 ((i : Int) - 1) = ((i - 1 : Nat) : Int) := by unfold wrap64; omega
   have e5 : 0 ≤ ((i - 1 : Nat) : Int) := by omega
   have e6 : ((i - 1 : Nat) : Int) < (f.length : Int) := by omega
   by_cases ha : a = 0
   ·simp only [piecewise_Scale.l0, h1, h2, h3, ha, if_true]
    have := skip ⟨hz, .inl ha⟩
    rw [ha] at this
    exact this
   ·have hp' := hf.pok (show i - 1 < f.length by omega)
    have hl' := hf.lb (show i - 1 < f.length by omega)
    have hLP : Ev (fun k => piecewise_line_piece.f k (lineL (pA f (i - 1))).n (lineL (pA f (i - 1))).s (lineL (pA f (i - 1))).d (lineL (pA f (i - 1))).fr (pA f i).f0) ((pA f i).f0, (red (num (lineL (pA f (i - 1))) (pA f i).f0) (lineL (pA f (i - 1))).d).1, (red (num (lineL (pA f (i - 1))) (pA f i).f0) (lineL (pA f (i - 1))).d).2, (red (lineL (pA f (i - 1))).s (lineL (pA f (i - 1))).d).1, (red (lineL (pA f (i - 1))).s (lineL (pA f (i - 1))).d).2) := by
     have q1 := hl'.num_in hin.1 (show (pA f i).f0 ≤ 100001 by omega)
     have q2 := hl'.s1
     have q3 := hl'.s2
     have q4 := hl'.d1
     have q5 := hl'.d2
     have ea : piecewise_line_at.f (lineL (pA f (i - 1))).n (lineL (pA f (i - 1))).s (lineL (pA f (i - 1))).d (lineL (pA f (i - 1))).fr (pA f i).f0 = some (num (lineL (pA f (i - 1))) (pA f i).f0) := congrArg some (atL_eq hl'.w hin.1 (show (pA f i).f0 ≤ 100001 by omega))
     unfold piecewise_line_piece.f
     simp only [ea, Option.bind_some]
     clear ea e4 ew
     exact Ev.bnd (b := red (num (lineL (pA f (i - 1))) (pA f i).f0) (lineL (pA f (i - 1))).d) ⟨20000, fun k hk => lowest_eq (by omega) (by omega) (by omega) (by omega) (by omega)⟩ (Ev.bnd (b := red (lineL (pA f (i - 1))).s (lineL (pA f (i - 1))).d) ⟨20000, fun k hk => lowest_eq (by omega) (by omega) (by omega) (by omega) (by omega)⟩ (Ev.pure _))
    have eline : piecewise_lineOf.f (pA f (i - 1)).f0 (pA f (i - 1)).f1.f0 (pA f (i - 1)).f1.f1 (pA f (i - 1)).f2.f0 (pA f (i - 1)).f2.f1 = some ((lineL (pA f (i - 1))).n, (lineL (pA f (i - 1))).s, (lineL (pA f (i - 1))).d, (lineL (pA f (i - 1))).fr) := rfl
    simp only [piecewise_Scale.l0, h1, h2, h3, ha, e4, e5, e6, if_true, if_false, eline, Option.bind_some]
    refine Ev.bnd hLP ?_
    have eq1 : ((pA f i).f0 == (pA f i).f0 && (((pA f i).f1.f0 == (red (num (lineL (pA f (i - 1))) (pA f i).f0) (lineL (pA f (i - 1))).d).1 && (pA f i).f1.f1 == (red (num (lineL (pA f (i - 1))) (pA f i).f0) (lineL (pA f (i - 1))).d).2) && ((pA f i).f2.f0 == (red (lineL (pA f (i - 1))).s (lineL (pA f (i - 1))).d).1 && (pA f i).f2.f1 == (red (lineL (pA f (i - 1))).s (lineL (pA f (i - 1))).d).2))) = decide (same (lineL (pA f (i - 1))) (lineL (pA f i))) := by
     have h7 := eqP_iff (pA f i) (pc (lineL (pA f (i - 1))) (pA f i).f0)
     have h8 := pc_iff hp'.dpos hp.dpos (pA f i).f0
     rw [pc_self hp] at h8
     have h9 : eqP (pA f i) (pc (lineL (pA f (i - 1))) (pA f i).f0) = decide (same (lineL (pA f (i - 1))) (lineL (pA f i))) := by
      rw [Bool.eq_iff_iff, decide_eq_true_eq, h7, ← h8]
      exact ⟨fun h => h.symm, fun h => h.symm⟩
     exact h9
    rw [eq1]
    by_cases hs : same (lineL (pA f (i - 1))) (lineL (pA f i))
    ·rw [decide_eq_true hs]
     exact skip ⟨hz, .inr hs⟩
    ·rw [decide_eq_false hs]
     exact take (fun h => h.2.elim ha hs)
  ·have h3 : ¬ (i : Int) > 0 := by omega
   simp only [piecewise_Scale.l0, h1, h2, h3, if_true, if_false]
   exact take (fun h => hz h.1)
theorem scale_ev {a b : Int} (hr : RV a b) {f : List PC} (hf : FOk f) : Ev (fun k => piecewise_Scale.f k f a b) (scR [] (outM none (scEs a b f))) := by
 unfold piecewise_Scale.f
 refine Ev.bnd (b := decide (FOk f)) ⟨100, fun k hk => valid_eq f hk⟩ ?_
 simp only [decide_eq_true hf, if_true, rvalid_eq, decide_eq_true hr, Option.bind_some, Bool.not_true]
 refine Ev.step ?_
 simp only [piecewise_Scale.j0, Bool.false_eq_true, if_false]
 have := scale_l0 hr hf f.length 0 [] (by omega) (by simp)
 rw [List.drop_zero] at this
 exact this
theorem scale_bad {a b : Int} {f : List PC} (h : ¬ (FOk f ∧ RV a b)) : Ev (fun k => piecewise_Scale.f k f a b) ([], 1) := by
 have hj : Ev (fun k => piecewise_Scale.j0 k f true a b) ([], 1) := by
  refine Ev.step ?_
  simp only [piecewise_Scale.j0, if_true]
  exact Ev.pure _
 unfold piecewise_Scale.f
 refine Ev.bnd (b := decide (FOk f)) ⟨100, fun k hk => valid_eq f hk⟩ ?_
 by_cases hf : FOk f
 ·have hr : ¬ RV a b := fun hr => h ⟨hf, hr⟩
  simp only [decide_eq_true hf, if_true, rvalid_eq, decide_eq_false hr, Option.bind_some, Bool.not_false]
  exact hj
 ·simp only [decide_eq_false hf, Bool.false_eq_true, if_false]
  exact hj
theorem rscale_l0 {a b : Int} (hr : RV a b) {f : List PC} (hf : FOk f) : ∀ (d i : Nat) (out : List PC), i + d = f.length → out.length ≤ i → Ev (fun k => cohousingref05_Scale.l0 k f out (i : Int) a b) (scR out (outM (prevS a b f i) ((scEs a b f).drop i))) := by
 have hfew := hf.few
 have hb : 0 < b := by have := hr.1; omega
 intro d
 induction d with
 | zero =>
  intro i out hi ho
  have h1 : ¬ (i : Int) < (f.length : Int) := by omega
  have e : (scEs a b f).drop i = [] := List.drop_of_length_le (by unfold scEs; rw [List.length_map]; omega)
  refine Ev.step ?_
  simp only [cohousingref05_Scale.l0, h1, if_false]
  rw [e]
  have e2 : outM (prevS a b f i) [] = [] := by cases prevS a b f i <;> rfl
  rw [e2]
  unfold scR
  rw [if_neg (fun ⟨p, hp, _⟩ => by cases hp), List.append_nil]
  exact Ev.pure _
 | succ d ih =>
  intro i out hi ho
  have hil : i < f.length := by omega
  have h1 : (i : Int) < (f.length : Int) := by omega
  have h2 : 0 ≤ (i : Int) := by omega
  have ew : wrap64 ((i : Int) + 1) = ((i + 1 : Nat) : Int) := by unfold wrap64; omega
  have hp := hf.pok hil
  have hin := hf.in_ hil
  have hbd := sc_bounds hr hp
  have hll : out.length < 3518437208883 := by omega
  have eM := outM_S (a := a) hb hf hil
  have skip : (0 < i ∧ (a = 0 ∨ same (lineL (pA f (i - 1))) (lineL (pA f i)))) → Ev (fun k => cohousingref05_Scale.l0 k f out ((i + 1 : Nat) : Int) a b) (scR out (outM (prevS a b f i) ((scEs a b f).drop i))) := fun hc => by
   rw [eM, if_pos hc, List.nil_append]
   exact ih (i + 1) out (by omega) (by omega)
  have take : (¬ (0 < i ∧ (a = 0 ∨ same (lineL (pA f (i - 1))) (lineL (pA f i))))) → Ev (fun k => cohousingref05_Scale.j2 k f out (i : Int) a b) (scR out (outM (prevS a b f i) ((scEs a b f).drop i))) := fun hc => by
   rw [eM, if_neg hc, List.singleton_append]
   have epc := pc_S (a := a) hb hp
   have hih := ih (i + 1) (out ++ [pc (lineS a b (pA f i)) (pA f i).f0]) (by omega) (by rw [List.length_append, List.length_singleton]; omega)
   rw [epc] at hih ⊢
   have l1 := reduce_ev (n := (pA f i).f1.f0 * a) (d := (pA f i).f1.f1 * b) (by omega) (by omega) (by omega) (by omega)
   have l2 := reduce_ev (n := (pA f i).f2.f0 * a) (d := (pA f i).f2.f1 * b) (by omega) (by omega) (by omega) (by omega)
   have q1 := red_bound (n := (pA f i).f1.f0 * a) (d := (pA f i).f1.f1 * b) (by omega) hbd.1.1 hbd.1.2
   have q2 := red_bound (n := (pA f i).f2.f0 * a) (d := (pA f i).f2.f1 * b) (by omega) hbd.2.2.1.1 hbd.2.2.1.2
   have q3 := red_den (n := (pA f i).f1.f0 * a) (d := (pA f i).f1.f1 * b) (by omega)
   have q4 := red_den (n := (pA f i).f2.f0 * a) (d := (pA f i).f2.f1 * b) (by omega)
   have q5 := (red_small (n := (pA f i).f1.f0 * a) (d := (pA f i).f1.f1 * b) (by omega)).2
   have q6 := (red_small (n := (pA f i).f2.f0 * a) (d := (pA f i).f2.f1 * b) (by omega)).2
   have w1 : wrap64 ((pA f i).f1.f0 * a) = (pA f i).f1.f0 * a := wrap_id (by omega) (by omega)
   have w2 : wrap64 ((pA f i).f1.f1 * b) = (pA f i).f1.f1 * b := wrap_id (by omega) (by omega)
   have w3 : wrap64 ((pA f i).f2.f0 * a) = (pA f i).f2.f0 * a := wrap_id (by omega) (by omega)
   have w4 : wrap64 ((pA f i).f2.f1 * b) = (pA f i).f2.f1 * b := wrap_id (by omega) (by omega)
   refine Ev.step ?_
   simp only [cohousingref05_Scale.j2, h1, h2, if_true, w1, w2, w3, w4]
   refine Ev.bnd l1 (Ev.bnd l2 ?_)
   simp only [hll, if_true]
   clear w1 w2 w3 w4 l1 l2
   refine Ev.bnd (rvalid_ev _ (fun p hp => ?_)) ?_
   ·rw [List.mem_singleton.1 hp]
    refine ⟨?_, ⟨?_, ?_⟩, ?_, ?_⟩ <;> constructor <;> dsimp only <;> omega
   have e := FOk_one (⟨(pA f i).f0, ⟨(red ((pA f i).f1.f0 * a) ((pA f i).f1.f1 * b)).1, (red ((pA f i).f1.f0 * a) ((pA f i).f1.f1 * b)).2⟩, ⟨(red ((pA f i).f2.f0 * a) ((pA f i).f2.f1 * b)).1, (red ((pA f i).f2.f0 * a) ((pA f i).f2.f1 * b)).2⟩⟩ : PC)
   by_cases hq : POk (⟨(pA f i).f0, ⟨(red ((pA f i).f1.f0 * a) ((pA f i).f1.f1 * b)).1, (red ((pA f i).f1.f0 * a) ((pA f i).f1.f1 * b)).2⟩, ⟨(red ((pA f i).f2.f0 * a) ((pA f i).f2.f1 * b)).1, (red ((pA f i).f2.f0 * a) ((pA f i).f2.f1 * b)).2⟩⟩ : PC)
   ·have e' := e.2 hq
    dsimp only at e'
    simp only [decide_eq_true e', if_true, ew]
    rw [scR_cons hq]
    exact hih
   ·have e' := fun h => hq (e.1 h)
    dsimp only at e'
    simp only [decide_eq_false e', Bool.false_eq_true, if_false]
    rw [scR_bad hq]
    exact Ev.pure _
  refine Ev.step ?_
  by_cases hz : 0 < i
  ·have h3 : (i : Int) > 0 := by omega
   have e4 : wrap64 ((i : Int) - 1) = ((i - 1 : Nat) : Int) := by unfold wrap64; omega
   have e5 : 0 ≤ ((i - 1 : Nat) : Int) := by omega
   have e6 : ((i - 1 : Nat) : Int) < (f.length : Int) := by omega
   by_cases ha : a = 0
   ·simp only [cohousingref05_Scale.l0, h1, h3, ha, if_true, ew]
    have := skip ⟨hz, .inl ha⟩
    rw [ha] at this
    exact this
   ·have hp' := hf.pok (show i - 1 < f.length by omega)
    have hin' := hf.in_ (show i - 1 < f.length by omega)
    have hc := cont_ev (m := lineL (pA f (i - 1))) (l := lineL (pA f i)) (x0 := (pA f (i - 1)).f0) (x := (pA f i).f0) hp'.dpos hp.dpos (by rw [pc_self hp']; exact hp'.pb) (by omega) (by omega)
    rw [pc_self hp', pc_self hp] at hc
    simp only [cohousingref05_Scale.l0, h1, h2, h3, ha, e4, e5, e6, if_true, if_false, ew]
    refine Ev.bnd hc ?_
    by_cases hs : same (lineL (pA f (i - 1))) (lineL (pA f i))
    ·simp only [decide_eq_true hs, if_true]
     exact skip ⟨hz, .inr hs⟩
    ·simp only [decide_eq_false hs, Bool.false_eq_true, if_false]
     exact take (fun h => h.2.elim ha hs)
  ·have h3 : ¬ (i : Int) > 0 := by omega
   simp only [cohousingref05_Scale.l0, h1, h3, if_true, if_false]
   exact take (fun h => hz h.1)
theorem rscale_ev {a b : Int} (ha : IB a) (hb : IB b) (hr : RV a b) {f : List PC} (hf : FOk f) (hIf : ∀ p ∈ f, IBP p) : Ev (fun k => cohousingref05_Scale.f k f a b) (scR [] (outM none (scEs a b f))) := by
 unfold cohousingref05_Scale.f
 refine Ev.bnd (rvalid_ev f hIf) (Ev.bnd (rv_ref ha hb) ?_)
 simp only [decide_eq_true hf, decide_eq_true hr, if_true, Bool.not_true]
 refine Ev.step ?_
 simp only [cohousingref05_Scale.j0, Bool.false_eq_true, if_false]
 have := rscale_l0 hr hf f.length 0 [] (by omega) (by simp)
 rw [List.drop_zero] at this
 exact this
theorem rscale_bad {a b : Int} (ha : IB a) (hb : IB b) {f : List PC} (hIf : ∀ p ∈ f, IBP p) (h : ¬ (FOk f ∧ RV a b)) : Ev (fun k => cohousingref05_Scale.f k f a b) ([], 1) := by
 have hj : Ev (fun k => cohousingref05_Scale.j0 k f true a b) ([], 1) := by
  refine Ev.step ?_
  simp only [cohousingref05_Scale.j0, if_true]
  exact Ev.pure _
 unfold cohousingref05_Scale.f
 refine Ev.bnd (rvalid_ev f hIf) (Ev.bnd (rv_ref ha hb) ?_)
 by_cases hf : FOk f
 ·have hr : ¬ RV a b := fun hr => h ⟨hf, hr⟩
  simp only [decide_eq_true hf, if_true, decide_eq_false hr, Bool.not_false]
  exact hj
 ·simp only [decide_eq_false hf, Bool.false_eq_true, if_false]
  exact hj
set_option maxRecDepth 100000 in
theorem head_ev : Ev (fun k => cohousinglaw05_head.f k) true := Ev.of_mono 120 (by kernel_rfl) (fun k => cohousinglaw05_head.mono k)
theorem outM_len : ∀ (es : List (LN × Int)) (m : Option LN), (outM m es).length ≤ es.length
 | [], m => by cases m <;> simp [outM]
 | e :: t, none => by simp only [outM, List.length_cons]; have := outM_len t (some e.1); omega
 | e :: t, some m => by
  have := outM_len t (some e.1)
  simp only [outM, List.length_append, List.length_cons]
  split <;> simp only [List.length_nil, List.length_singleton] <;> omega
end Go.Proofs.Ytmhimmodigeeiaa.P
end
section
namespace Go.Proofs.YtmhimmodigeeiaaH
open Go.RowKit Go.ChangeShapes Go.WideShapes Go.Proofs.YtmhimmodigeeiaaW.PrintWords
def Opens {α : Type} (P : Program) (d : Kd α) (t : TypeId) : Prop :=
 ∀ {H : Type} {enc : TypeId × Value → H} {w : World} {base : Nat} {spare : Nat → Bool} {held : Bool} {fuel : Nat} {cs : List Value} {x : DataW H × List MemPlace}, DataW.trod enc P w base spare held fuel t cs = some x → ∃ a : α, d.K w a cs
theorem Opens.int {P : Program} {t : TypeId} {k : IntKind} (h : P.underlying t = some (.int k)) : Opens P (Kd.int k) t := by
 intro H enc w base spare held fuel cs x hx
 obtain ⟨n, rfl, _, _⟩ := DataW.trod_int h hx
 exact ⟨n, rfl⟩
def Segs {β : Type} (P : Program) (d : Kd β) (fs : List Field) (o z : Nat) : Prop :=
 ∀ {H : Type} {enc : TypeId × Value → H} {w : World} {base : Nat} {spare : Nat → Bool} {held : Bool} {fuel : Nat} {cs : List Value}, cs.length = z →
  (∀ f ∈ fs, ∃ x : DataW H × List MemPlace, DataW.trod enc P w base spare held fuel f.type ((cs.drop f.offset).take (P.cellsOf f.type)) = some x) → ∃ b : β, d.K w b (cs.drop o)
theorem Segs.one {α : Type} {P : Program} {d : Kd α} {f : Field} {o z : Nat} (h : Opens P d f.type) (ho : f.offset = o) (hz : z = o + P.cellsOf f.type) : Segs P d [f] o z := by
 intro H enc w base spare held fuel cs hl hf
 obtain ⟨x, hx⟩ := hf f (by simp)
 obtain ⟨a, ha⟩ := h hx
 refine ⟨a, ?_⟩
 rw [ho, List.take_of_length_le (by rw [List.length_drop]; omega)] at ha
 exact ha
theorem Segs.cons {α β : Type} {P : Program} {d : Kd α} {d' : Kd β} {f : Field} {fs : List Field} {o o' z : Nat} (h : Opens P d f.type) (ho : f.offset = o) (ho' : o' = o + P.cellsOf f.type) (hr : Segs P d' fs o' z) : Segs P (Kd.pair d d') (f :: fs) o z := by
 intro H enc w base spare held fuel cs hl hf
 obtain ⟨x, hx⟩ := hf f (by simp)
 obtain ⟨a, ha⟩ := h hx
 obtain ⟨b, hb⟩ := hr hl (fun f' h' => hf f' (List.mem_cons_of_mem _ h'))
 refine ⟨(a, b), _, _, ?_, ha, hb⟩
 rw [ho, ho', ← List.drop_drop, List.take_append_drop]
theorem Opens.struct {β : Type} {P : Program} {d : Kd β} {t : TypeId} {fs : Array Field} (h : P.underlying t = some (.struct fs)) (hr : Segs P d fs.toList 0 (P.cellsOf t)) : Opens P d t := by
 intro H enc w base spare held fuel cs x hx
 obtain ⟨xs, n, _, _, hl, hxl, hf⟩ := DataW.trod_struct h hx
 have := hr (enc := enc) (w := w) (base := base) (spare := spare) (held := held) (fuel := n) (cs := cs) hl (fun f hm => by
  obtain ⟨i, hi, rfl⟩ := List.mem_iff_getElem.1 hm
  have hi' : i < fs.size := by simpa using hi
  have h1 := hf i fs[i] (by simp [hi'])
  refine ⟨xs[i]'(by omega), ?_⟩
  rw [Array.getElem_toList]
  rw [h1]
  simp [hxl, hi'])
 rw [List.drop_zero] at this
 exact this
theorem Opens.row {α : Type} {P : Program} {d : Kd α} {t e : TypeId} (ht : P.underlying t = some (.slice e)) (hsz : P.cellsOf e = d.sz) (he : Opens P d e) {H : Type} {enc : TypeId × Value → H} {w : World} {base : Nat} {spare : Nat → Bool} {held : Bool} {fuel : Nat} {cs : List Value} {x : DataW H × List MemPlace}
  (hx : DataW.trod enc P w base spare held fuel t cs = some x) : ∃ A len cap, cs = [.slice A len cap] ∧ ∃ xs : List α, xs.length = len ∧ len ≤ cap ∧ d.C w A len xs := by
 rcases Deep.open_slice ht hx with ⟨rfl, _⟩ | ⟨a, len, cap, m, n, D, Pl, rfl, _, hl, hm, hmm, _, hel⟩
 ·exact ⟨none, 0, 0, rfl, [], rfl, Nat.le_refl _, rfl, by omega, fun h => absurd h (Nat.lt_irrefl _)⟩
 ·have hlm : len ≤ m := by rw [hmm]; split <;> omega
  have each : ∀ i, i < len → ∃ a' : α, ∃ cs', cs'.length = d.sz ∧ d.K w a' cs' ∧ ∀ j u, cs'[j]? = some u → w.cell? (a.add (i * d.sz + j)) = some u := by
   intro i hi
   obtain ⟨cs', h1, h2⟩ := hel i (by omega)
   obtain ⟨a', ha'⟩ := he h2
   obtain ⟨_, hlen, hcell⟩ := World.cells?_some h1
   refine ⟨a', cs', by omega, ha', fun j u hj => ?_⟩
   have hjl : j < cs'.length := (List.getElem?_eq_some_iff.1 hj).1
   have := hcell j (by omega)
   rw [Deep.add_add, hsz] at this
   rw [this, hj]
  obtain ⟨xs, hxs⟩ : ∃ xs : List α, xs.length = len ∧ ∀ i (h : i < xs.length), ∃ cs', cs'.length = d.sz ∧ d.K w xs[i] cs' ∧ ∀ j u, cs'[j]? = some u → w.cell? (a.add (i * d.sz + j)) = some u := by
   have key : ∀ k, k ≤ len → ∃ xs : List α, xs.length = k ∧ ∀ i (h : i < xs.length), ∃ cs', cs'.length = d.sz ∧ d.K w xs[i] cs' ∧ ∀ j u, cs'[j]? = some u → w.cell? (a.add (i * d.sz + j)) = some u := by
    intro k
    induction k with
    | zero => intro _; exact ⟨[], rfl, fun i h => absurd h (Nat.not_lt_zero _)⟩
    | succ k ih =>
     intro hk
     obtain ⟨xs, hl, hxs⟩ := ih (by omega)
     obtain ⟨a', ha'⟩ := each k (by omega)
     refine ⟨xs ++ [a'], by simp [hl], fun i h => ?_⟩
     by_cases hi : i < xs.length
     ·rw [List.getElem_append_left hi]
      exact hxs i hi
     ·have e : i = xs.length := by simp at h; omega
      subst e
      rw [List.getElem_append_right (Nat.le_refl _)]
      simp only [Nat.sub_self, List.getElem_cons_zero]
      rw [hl]
      exact ha'
   exact key len (Nat.le_refl _)
  refine ⟨some a, len, cap, rfl, xs, hxs.1, hl, hxs.1, ?_, fun _ => ⟨a, rfl, fun j p hj => ?_⟩⟩
  ·have : maxLen = 2 ^ 63 - 1 := rfl
   omega
  ·obtain ⟨hjl, rfl⟩ := List.getElem?_eq_some_iff.1 hj
   exact hxs.2 j hjl
theorem Opens.slice {α : Type} {P : Program} {d : Kd α} {t e : TypeId} (ht : P.underlying t = some (.slice e)) (hsz : P.cellsOf e = d.sz) (he : Opens P d e) : Opens P (Kd.slice e d) t := by
 intro H enc w base spare held fuel cs x hx
 obtain ⟨A, len, cap, rfl, xs, rfl, hl, hC⟩ := Opens.row ht hsz he hx
 exact ⟨xs, A, cap, rfl, hl, hC⟩
theorem open_arg {α : Type} {P : Program} {d : Kd α} {t e : TypeId} (ht : P.underlying t = some (.slice e)) (hsz : P.cellsOf e = d.sz) (he : Opens P d e) {H : Type} {enc : TypeId × Value → H} {w : World} {base : Nat} {spare : Nat → Bool} {held : Bool} {A : Option Addr} {len cap : Nat} {x : DataW H} {ps : List MemPlace}
  (hx : DataW.Trod enc P w base spare held t (.slice A len cap) x ps) : ∃ xs : List α, xs.length = len ∧ len ≤ cap ∧ d.C w A len xs := by
 obtain ⟨fuel, hf⟩ := hx
 obtain ⟨A', len', cap', e1, r⟩ := Opens.row ht hsz he hf
 simp [Value.cells] at e1
 obtain ⟨rfl, rfl, rfl⟩ := e1
 exact r
theorem open_agg {α : Type} {P : Program} {d : Kd α} {t : TypeId} (he : Opens P d t) {H : Type} {enc : TypeId × Value → H} {w : World} {base : Nat} {spare : Nat → Bool} {held : Bool} {v : Value} {x : DataW H} {ps : List MemPlace}
  (hx : DataW.Trod enc P w base spare held t v x ps) : ∃ a : α, d.K w a v.cells.toList := by
 obtain ⟨fuel, hf⟩ := hx
 exact he hf
end Go.Proofs.YtmhimmodigeeiaaH
end
section
namespace Go.Proofs.YtmhimmodigeeiaaH
open Go.RowKit Go.ChangeShapes Go.WideShapes Go.Proofs.YtmhimmodigeeiaaW.PrintWords
theorem Opens.bool {P : Program} {t : TypeId} (h : P.underlying t = some .bool) : Opens P Kd.bool t := by
 intro H enc w base spare held fuel cs x hx
 obtain ⟨b, rfl, _⟩ := DataW.trod_bool h hx
 exact ⟨b, rfl⟩
theorem Opens.intR {P : Program} {t : TypeId} {k : IntKind} (lo hi : Int) (hwf : ∀ {n : Int}, (Lit.int k n).wf = true → lo ≤ n ∧ n ≤ hi) (h : P.underlying t = some (.int k)) : Opens P (Kd.iso (Kd.int k) (fun x : {n : Int // lo ≤ n ∧ n ≤ hi} => x.1)) t := by
 intro H enc w base spare held fuel cs x hx
 obtain ⟨n, rfl, _, hw⟩ := DataW.trod_int h hx
 exact ⟨⟨n, hwf hw⟩, rfl⟩
end Go.Proofs.YtmhimmodigeeiaaH
end
section
namespace Go.Proofs.YtmhimmodigeeiaaH
open Go.RowKit Go.ChangeShapes Go.WideShapes Go.Proofs.YtmhimmodigeeiaaW.PrintWords
theorem C_map {α β : Type} {d : Kd α} {d' : Kd β} (f : α → β) (hs : d'.sz = d.sz) (hK : ∀ w x cs, d.K w x cs → d'.K w (f x) cs) {w : World} {A : Option Addr} {n : Nat} {xs : List α} (h : d.C w A n xs) : d'.C w A n (xs.map f) := by
 refine ⟨by rw [List.length_map]; exact h.1, h.2.1, fun hn => ?_⟩
 obtain ⟨ad, e, hj⟩ := h.2.2 hn
 refine ⟨ad, e, fun j q hq => ?_⟩
 rw [List.getElem?_map] at hq
 obtain ⟨p, hp, rfl⟩ := Option.map_eq_some_iff.1 hq
 obtain ⟨cs, h1, h2, h3⟩ := hj j p hp
 exact ⟨cs, by rw [hs]; exact h1, hK _ _ _ h2, fun i u hu => by rw [hs]; exact h3 i u hu⟩
end Go.Proofs.YtmhimmodigeeiaaH
end
section
namespace Go.Proofs.Ytmhimmodigeeiaa.P
open Go.RowKit Go.ChangeShapes Go.WideShapes Go.Proofs.YtmhimmodigeeiaaH Go.Proofs.YtmhimmodigeeiaaW.PrintWords
set_option linter.unusedVariables false
abbrev I64 := {n : Int // -9223372036854775808 ≤ n ∧ n ≤ 9223372036854775807}
def kI : Kd I64 := Kd.iso (Kd.int .i64) (fun x : I64 => x.1)
def kR2 : Kd (I64 × I64) := Kd.pair kI kI
def kPc : Kd (I64 × ((I64 × I64) × (I64 × I64))) := Kd.pair kI (Kd.pair kR2 kR2)
theorem wf64 {n : Int} (h : (Lit.int .i64 n).wf = true) : -9223372036854775808 ≤ n ∧ n ≤ 9223372036854775807 := by
 simp [Lit.wf, IntKind.min, IntKind.max, IntKind.signed, IntKind.bits] at h ⊢ <;> omega
theorem opI : Opens Try.prog kI 3 := Opens.intR _ _ wf64 Try.underlying3
theorem opR : Opens Try.prog kR2 24 := Opens.struct Try.underlying24 (Segs.cons opI (by rfl) (by kernel_rfl) (Segs.one opI (by rfl) (by kernel_rfl)))
theorem opG : Opens Try.prog kR2 26 := Opens.struct Try.underlying26 (Segs.cons opI (by rfl) (by kernel_rfl) (Segs.one opI (by rfl) (by kernel_rfl)))
theorem opP : Opens Try.prog kPc 51 := Opens.struct Try.underlying51 (Segs.cons opI (by rfl) (by kernel_rfl) (Segs.cons opR (by rfl) (by kernel_rfl) (Segs.one opR (by rfl) (by kernel_rfl))))
def mkP (x : I64 × ((I64 × I64) × (I64 × I64))) : PC := ⟨x.1.1, ⟨x.2.1.1.1, x.2.1.2.1⟩, ⟨x.2.2.1.1, x.2.2.2.1⟩⟩
theorem open_pieces {H : Type} {enc : TypeId × Value → H} {w : World} {base : Nat} {spare : Nat → Bool} {held : Bool} {A : Option Addr} {len cap : Nat} {x : DataW H} {ps : List MemPlace}
  (hx : DataW.Trod enc Try.prog w base spare held 22 (.slice A len cap) x ps) : ∃ xs : List PC, xs.length = len ∧ len ≤ cap ∧ Kd.C k51 w A len xs ∧ ∀ p ∈ xs, IBP p := by
 obtain ⟨xs, g1, g2, g3⟩ := open_arg (d := kPc) Try.underlying22 (by kernel_rfl) opP hx
 refine ⟨xs.map mkP, by rw [List.length_map]; exact g1, g2, C_map mkP rfl (fun w x cs h => h) g3, fun p hp => ?_⟩
 obtain ⟨z, _, rfl⟩ := List.mem_map.1 hp
 exact ⟨z.1.2, ⟨z.2.1.1.2, z.2.1.2.2⟩, z.2.2.1.2, z.2.2.2.2⟩
theorem open_pair {t : TypeId} {fs : Array Field} (hu : Try.prog.underlying t = some (.struct fs)) (ho : Opens Try.prog kR2 t) {w : World} {r : Reach} {base : Nat} {v : Value} (ok : Value.okWide Try.prog w r base t v) {H : Type} {enc : TypeId × Value → H} {w' : World} {base' : Nat} {spare : Nat → Bool} {held : Bool} {x : DataW H} {ps : List MemPlace}
  (hx : DataW.Trod enc Try.prog w' base' spare held t v x ps) : ∃ a b, v = .agg #[.int .i64 a, .int .i64 b] ∧ IB a ∧ IB b := by
 obtain ⟨cs, rfl, _⟩ := okWide_struct hu ok
 obtain ⟨⟨a, b⟩, c1, c2, hcs, h1, h2⟩ := open_agg ho hx
 refine ⟨a.1, b.1, ?_, a.2, b.2⟩
 have hcs' : cs.toList = c1 ++ c2 := hcs
 have e1 : c1 = [.int .i64 a.1] := h1
 have e2 : c2 = [.int .i64 b.1] := h2
 rw [e1, e2] at hcs'
 have : cs = (cs.toList).toArray := rfl
 rw [this, hcs']
 rfl
end Go.Proofs.Ytmhimmodigeeiaa.P
end
