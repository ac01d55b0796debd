/- Part 2 of the base that the seat's proofs share: words, walks and plain laws. -/
import Derived.Test.YtocbiggglnpeoaaCMa
set_option linter.unusedVariables false
set_option linter.unusedSimpArgs false
section
namespace Go.Proofs.YtocbiggglnpeoaaW.PrintWords
open Go.RowKit
namespace Kd
section
variable {α : Type} {d : Kd α} {e base n cap g : Nat} {ok ok' okp : Nat → Prop} {w w1 W : World} {v v1 : Value} {xs ys : List α}
theorem N_appended {rows news : List (List Value)} (h0 : ∀ k, v.ownBlock = some k → ok k) (hl : rows.length = xs.length) (hf : ∀ (j : Nat) (x : α) (c : List Value), xs[j]? = some x → rows[j]? = some c → FK d W (fun k => ok k ∧ some k ≠ v.ownBlock) x c)
  (hl2 : news.length = ys.length) (hf2 : ∀ (j : Nat) (x : α) (c : List Value), ys[j]? = some x → news[j]? = some c → FK d W okp x c) (hokp : ∀ k, okp k → ok k ∧ some k ≠ v.ownBlock) (hfresh : ∀ k, W.heap.size ≤ k → ok k)
  (hR : (raw d.sz).R e w1 base (fun _ => True) v1 (rows ++ news)) (hg : W.grownBy w1 v.ownBlock) (hat : v1.ownBlock = v.ownBlock ∨ ∃ b, v1.ownBlock = some b ∧ W.heap.size ≤ b) : N d e w1 base ok v1 (xs ++ ys) := by
 have hne : ∀ k, some k ≠ v.ownBlock → k < W.heap.size → some k ≠ v1.ownBlock := by
  intro k hk hlt
  rcases hat with hat | ⟨b, hb, hle⟩
  ·rw [hat]; exact hk
  ·rw [hb]
   intro he
   injection he with he
   omega
 have step : ∀ {x : α} {c : List Value} {o : Nat → Prop}, FK d W o x c → (∀ k, o k → ok k ∧ some k ≠ v.ownBlock) → FK d w1 (fun k => ok k ∧ some k ≠ v1.ownBlock) x c := by
  intro x c o hq ho
  exact FK_mono (FK_step (FK_bound hq) (fun k hk hlt => hg.block k hlt (ho k hk.1).2)) (fun k hk => ⟨(ho k hk.1).1, hne k (ho k hk.1).2 hk.2⟩)
 refine ⟨fun k hk => ?_, rows ++ news, by rw [List.length_append, List.length_append, hl, hl2], raw_tight hR, fun j x c hx hc => ?_⟩
 ·rcases hat with hat | ⟨b, hb, hle⟩
  ·exact h0 k (hat ▸ hk)
  ·rw [hb] at hk
   injection hk with hk
   exact hfresh k (by omega)
 ·rcases Nat.lt_or_ge j xs.length with hlt | hge
  ·rw [List.getElem?_append_left hlt] at hx
   rw [List.getElem?_append_left (by omega)] at hc
   exact step (hf j x c hx hc) (fun _ hk => hk)
  ·rw [List.getElem?_append_right hge] at hx
   rw [List.getElem?_append_right (by omega), hl] at hc
   exact step (hf2 _ x c hx hc) hokp
theorem FK_raw {x : α} {c : List Value} (h : FK d W ok x c) : c = c ∧ c.length = d.sz ∧ ∀ u ∈ c, u.oneCell' = true := ⟨rfl, d.K_len (FK_now h), d.K_one (FK_now h)⟩
theorem N_made {rows : List (List Value)} (hR : (raw d.sz).R e w1 base (fun k => k = W.heap.size) v1 rows) (hg : W.grownBy w1 none) (hat : ∃ b, v1.ownBlock = some b ∧ W.heap.size ≤ b) (hl : rows.length = xs.length) (hf : ∀ (j : Nat) (x : α) (c : List Value), xs[j]? = some x → rows[j]? = some c → FK d W okp x c)
  (hok : ∀ k, okp k → ok k) (hfresh : ok W.heap.size) : N d e w1 base ok v1 xs := by
 obtain ⟨b, hb, hle⟩ := hat
 refine ⟨fun k hk => by rw [hR.1 k hk]; exact hfresh, rows, hl, raw_tight hR, fun j x c hx hc => ?_⟩
 refine FK_mono (FK_step (FK_bound (hf j x c hx hc)) (fun k hk hlt => hg.block k hlt (by simp))) (fun k hk => ⟨hok k hk.1, fun he => ?_⟩)
 rw [hb] at he
 injection he with he
 have := hk.2
 omega
end
section
variable {P : Program} {ops : Array Oper} {rest : List Oper} {o : Oper} {a : Act} {Q : Exit → Act → World → Prop} {Kc : Act → World → Prop} {α : Type}
theorem N_append (d : Kd α) {w0 W : World} (base : Nat) (hgd : o.guard = none) (s x : Operand) (t e : TypeId) (z : Value) (bytes : Nat)
  (ho : o.op = .call { callee := .builtin .append, args := #[s, x], argTypes := #[t, t] })
  (ht : P.underlying t = some (.slice e)) (hinfo : (P.info? e).map (fun i => (i.zero, i.size, i.bytes)) = some (some z, d.sz, bytes)) (hz : z.cells.size = d.sz) (hs0 : 0 < d.sz) (hb0 : 0 < bytes)
  (v : Value) (xs : List α) (p : α) (cs : List Value) (ok okp : Nat → Prop) (hs : a.eval s = v) (hx : a.eval x = .slice (some ⟨W.heap.size, 0, none⟩) 1 1) (hp : FK d W okp p cs) (hokp : ∀ k, okp k → ok k ∧ some k ≠ v.ownBlock) (hfresh : ∀ k, W.heap.size ≤ k → ok k)
  (HO : N d e W base ok v xs) (HB : Below base w0 W) (hbase : base ≤ W.heap.size) (hl : (xs.length + 1) * bytes ≤ 140737488355328)
  (h : ∀ v1 w1, N d e w1 base ok v1 (xs ++ [p]) → Below base w0 w1 → W.grownBy w1 v.ownBlock → (v1.ownBlock = v.ownBlock ∨ ∃ b, v1.ownBlock = some b ∧ W.heap.size ≤ b) → wpList P ops Q rest (a.put o.dst v1) w1) :
  wpList P ops Q (o :: rest) a (W.alloc (.cells cs.toArray e)) := by
 obtain ⟨h0, rows, hlr, hR, hf⟩ := HO
 refine R_append (raw d.sz) base hgd s x t e z bytes ho ht hinfo hz hs0 hb0 v rows cs cs (fun _ => True) (fun _ => False) hs hx (FK_raw hp) (fun _ hk => hk.elim) (fun _ _ => trivial) (raw_any hR) HB hbase (by rw [hlr]; exact hl) ?_
 intro v1 w1 hr hb hg hat
 exact h v1 w1 (N_appended h0 hlr hf (ys := [p]) (news := [cs]) rfl (fun j y c hy hc => by
  rcases j with _ | j
  ·simp only [List.getElem?_cons_zero, Option.some.injEq] at hy hc
   rw [← hy, ← hc]; exact hp
  ·simp at hy) hokp hfresh hr hg hat) hb hg hat
theorem N_lit (d : Kd α) {w0 W : World} (base e : Nat) (hgd : o.guard = none) {N' : Tmp} (_hd : o.dst = some N') {xs : List α} {inner : List Value} {ok okp : Nat → Prop}
  (hrun : (execOp a.eval o).run P W = .ok (.value (.slice (some ⟨W.heap.size, 0, none⟩) xs.length xs.length)) (W.alloc (.cells inner.toArray e)))
  (hrep : Reps (FK d W okp) d.sz xs inner) (hok : ∀ k, okp k → ok k) (hfresh : ok W.heap.size) (HB : Below base w0 W) (hbase : base ≤ W.heap.size) (hm : xs.length ≤ 9223372036854775807)
  (h : ∀ v1 w1, N d e w1 base ok v1 xs → Below base w0 w1 → W.grownBy w1 none → (∃ b, v1.ownBlock = some b ∧ W.heap.size ≤ b) → wpList P ops Q rest (a.put o.dst v1) w1) :
  wpList P ops Q (o :: rest) a W := by
 refine R_lit (raw d.sz) base e hgd _hd (xs := chunks d.sz xs.length inner) (inner := inner) (ok := fun k => k = W.heap.size) (okp := fun _ => False) (by rw [chunks_length]; exact hrun) (reps_raw hrep (fun y c hk => ⟨d.K_len (FK_now hk), d.K_one (FK_now hk)⟩)) (fun _ hk => hk.elim) rfl HB hbase (by rw [chunks_length]; exact hm) ?_
 intro v1 w1 hr hb hg hat
 exact h v1 w1 (N_made hr hg hat (chunks_length _ _ _) (fun j y c hy hc => by rw [chunks_get hc]; exact hrep.2 j y hy) hok hfresh) hb hg hat
end
end Kd
end Go.Proofs.YtocbiggglnpeoaaW.PrintWords
end
section
namespace Go.Proofs.YtocbiggglnpeoaaW.PrintMore
open Go.RowKit Go.Proofs.YtocbiggglnpeoaaW.PrintWords
namespace Kd
open Go.Proofs.YtocbiggglnpeoaaW.PrintWords.Kd
end Kd
namespace Kd
open Go.Proofs.YtocbiggglnpeoaaW.PrintWords.Kd
section
variable {α : Type} {d : Kd α} {e base g N : Nat} {ok : Nat → Prop} {W w1 : World} {u v : Value} {xs : List α}
end
end Kd
theorem max2_int (k k' : IntKind) (x y : Int) : Builtin.max2 (.int k x) (.int k' y) = pure (.int k (if x < y then y else x)) := by simp only [Builtin.max2, gt_iff_lt]
theorem min2_int (k k' : IntKind) (x y : Int) : Builtin.min2 (.int k x) (.int k' y) = pure (.int k (if y < x then y else x)) := by simp only [Builtin.min2]
theorem max_two (ats : Array TypeId) (ty : TypeId) (a b : Value) : Builtin.max_ ats ty #[a, b] = (Builtin.max2 a b >>= fun s => pure s) := by simp only [Builtin.max_, List.foldlM_cons, List.foldlM_nil]
theorem min_two (ats : Array TypeId) (ty : TypeId) (a b : Value) : Builtin.min_ ats ty #[a, b] = (Builtin.min2 a b >>= fun s => pure s) := by simp only [Builtin.min_, List.foldlM_cons, List.foldlM_nil]
theorem max_three (ats : Array TypeId) (ty : TypeId) (a b c : Value) : Builtin.max_ ats ty #[a, b, c] = (Builtin.max2 a b >>= fun s => Builtin.max2 s c >>= fun s => pure s) := by simp only [Builtin.max_, List.foldlM_cons, List.foldlM_nil]
theorem min_three (ats : Array TypeId) (ty : TypeId) (a b c : Value) : Builtin.min_ ats ty #[a, b, c] = (Builtin.min2 a b >>= fun s => Builtin.min2 s c >>= fun s => pure s) := by simp only [Builtin.min_, List.foldlM_cons, List.foldlM_nil]
theorem max_four (ats : Array TypeId) (ty : TypeId) (a b c d : Value) : Builtin.max_ ats ty #[a, b, c, d] = (Builtin.max2 a b >>= fun s => Builtin.max2 s c >>= fun s => Builtin.max2 s d >>= fun s => pure s) := by simp only [Builtin.max_, List.foldlM_cons, List.foldlM_nil]
theorem min_four (ats : Array TypeId) (ty : TypeId) (a b c d : Value) : Builtin.min_ ats ty #[a, b, c, d] = (Builtin.min2 a b >>= fun s => Builtin.min2 s c >>= fun s => Builtin.min2 s d >>= fun s => pure s) := by simp only [Builtin.min_, List.foldlM_cons, List.foldlM_nil]
end Go.Proofs.YtocbiggglnpeoaaW.PrintMore
namespace Go.Proofs.YtocbiggglnpeoaaW.PrintWords
open Go.RowKit
section
variable {P : Program} {ops : Array Oper} {rest : List Oper} {o : Oper} {a : Act} {Q : Exit → Act → World → Prop} {W : World}
theorem gate_callee {f : FuncId} {as_ : Array Operand} {ts : Array TypeId} (_ho : o.op = .call { callee := .value (.func f), args := as_, argTypes := ts }) (h : wpList P ops Q (o :: rest) a W) : wpList P ops Q (o :: rest) a W := h
theorem gate_builtin {b : Builtin} {xs : Array Operand} {ts : Array TypeId} (_ho : o.op = .call { callee := .builtin b, args := xs, argTypes := ts }) (h : wpList P ops Q (o :: rest) a W) : wpList P ops Q (o :: rest) a W := h
end
theorem drewN_self (w : World) (n : Nat) : w.drewN n = w.drewN n := rfl
namespace Kd
section
variable {α : Type} {d : Kd α} {e base : Nat} {ok : Nat → Prop} {W w1 : World} {v : Value} {xs : List α}
end
section
variable {α : Type} {d : Kd α} {e base g n cap : Nat} {ok oki okp : Nat → Prop} {W : World} {xs : List α} {i : Int} {c : List Value}
end
section
variable {α : Type} {d : Kd α} {e base b b' g N : Nat} {ok ok1 : Nat → Prop} {W W2 w1 : World} {u v : Value} {xs ys : List α} {S : Nat → Prop}
end
end Kd
end Go.Proofs.YtocbiggglnpeoaaW.PrintWords
namespace Go.Proofs.YtocbiggglnpeoaaW.PrintWords
open Go.RowKit
namespace Kd
def V {α : Type} (d : Kd α) (_e : Nat) (W : World) (_base : Nat) (ok : Nat → Prop) (v : Value) (xs : List α) : Prop := ∃ A c, v = .slice A xs.length c ∧ xs.length ≤ c ∧ F d W ok A xs.length xs
section
variable {α β : Type} {d : Kd α} {e base base' n m c g N' lo hi : Nat} {ok ok' S : Nat → Prop} {w W w1 : World} {A : Option Addr} {ad : Addr} {u v v1 : Value} {xs : List α}
theorem V_map (h : V d e W base ok v xs) (hF : ∀ A, F d W ok A xs.length xs → F d w1 ok' A xs.length xs) : V d e w1 base' ok' v xs := by
 obtain ⟨A, c, hv, hl, hf⟩ := h
 exact ⟨A, c, hv, hl, hF A hf⟩
theorem V_mk (hl : xs.length ≤ c) (hf : F d W ok A xs.length xs) : V d e W base ok (.slice A xs.length c) xs := ⟨A, c, rfl, hl, hf⟩
theorem V_slice (h : V d e W base ok v xs) : ∃ A c, v = .slice A xs.length c := by
 obtain ⟨A, c, hv, _⟩ := h
 exact ⟨A, c, hv⟩
theorem V_at (h : V d e W base ok (.slice A n c) xs) : n = xs.length ∧ n ≤ c ∧ F d W ok A xs.length xs := by
 obtain ⟨A', c', hv, hl, hf⟩ := h
 injection hv with ha hn hc
 subst ha; subst hc
 exact ⟨hn, by rw [hn]; exact hl, hf⟩
theorem V_reads' (h : V d e W base ok (.slice A n c) xs) : n = xs.length ∧ n ≤ c ∧ d.C W A xs.length xs := ⟨(V_at h).1, (V_at h).2.1, F_now (V_at h).2.2⟩
theorem V_F (h : V d e W base ok (.slice A n c) xs) : F d W ok A n xs := by
 obtain ⟨hn, _, hf⟩ := V_at h
 rw [hn]
 exact hf
theorem V_nil (d : Kd α) (e : Nat) (W : World) (base : Nat) (ok : Nat → Prop) : V d e W base ok (.slice none 0 0) [] := ⟨none, 0, rfl, Nat.le_refl _, F_nil d W ok⟩
theorem R_V (h : d.R e W base ok v xs) : V d e W base' ok v xs := by
 obtain ⟨A, c, rfl⟩ := R_slice h
 exact ⟨A, c, rfl, (R_reads' h).2.1, R_F h⟩
theorem V_mono (h : V d e W base ok v xs) (hok : ∀ k, ok k → ok' k) : V d e W base ok' v xs := V_map h (fun _ hf => F_mono hf hok)
theorem V_lower (h : V d e W base ok v xs) (_ : base' ≤ base) : V d e W base' ok v xs := h
theorem V_below (h : V d e W base ok v xs) (hb : Below W.heap.size W w1) : V d e w1 base ok v xs := V_map h (fun _ hf => F_below hf hb)
theorem V_alloc (h : V d e W base ok v xs) (o : Obj) : V d e (W.alloc o) base ok v xs := V_map h (fun _ hf => F_alloc hf o)
theorem V_drew (h : V d e W base ok v xs) : V d e W.drew base ok v xs := V_map h (fun _ hf => F_drew hf)
theorem V_drewN (h : V d e W base ok v xs) (m : Nat) : V d e (W.drewN m) base ok v xs := V_map h (fun _ hf => F_drewN hf m)
theorem V_far (h : V d e W base ok v xs) {p : Addr} (hok : ∀ k, ok k → k ≠ p.block) (u : Value) : V d e (W.setCell p u) base ok v xs := V_map h (fun _ hf => F_far hf hok u)
theorem V_after (h : V d e W base (fun k => ok k ∧ some k ≠ u.ownBlock) v xs) (hg : W.grownBy w1 u.ownBlock) (hat : v1.ownBlock = u.ownBlock ∨ ∃ b, v1.ownBlock = some b ∧ W.heap.size ≤ b) : V d e w1 base (fun k => ok k ∧ some k ≠ v1.ownBlock) v xs := V_map h (fun _ hf => F_after hf hg hat)
theorem V_afterv (h : V d e W base (fun k => ok k ∧ some k ≠ v.ownBlock) u xs) (hg : W.grownBy w1 v.ownBlock) (hat : v1.ownBlock = v.ownBlock ∨ ∃ b, v1.ownBlock = some b ∧ W.heap.size ≤ b) : V d e w1 base (fun k => ok k ∧ some k ≠ v1.ownBlock) u xs := V_after h hg hat
theorem N_afterv (h : N d e W base (fun k => ok k ∧ some k ≠ v.ownBlock) u xs) (hg : W.grownBy w1 v.ownBlock) (hat : v1.ownBlock = v.ownBlock ∨ ∃ b, v1.ownBlock = some b ∧ W.heap.size ≤ b) : N d e w1 base (fun k => ok k ∧ some k ≠ v1.ownBlock) u xs := N_after h hg hat
theorem V_elder' (h : V d e W base ok v xs) (hbase : ∀ k, u.ownBlock = some k → W.heap.size ≤ k) (hb : Below W.heap.size W w1) : V d e w1 base (fun k => ok k ∧ some k ≠ u.ownBlock) v xs := V_map h (fun _ hf => F_elder' hf hbase hb)
theorem V_elderB (h : V d e W base ok v xs) (a : Nat) (ha : W.heap.size ≤ a) : V d e W base (fun k => ok k ∧ k ≠ a) v xs := V_map h (fun _ hf => F_elderB hf a ha)
theorem V_get (h : V d e W base ok (.slice (some ad) n c) xs) (z : α) (i : Int) (h0 : 0 ≤ i) (h1 : i < n) :
  ∃ cs, cs.length = d.sz ∧ FK d W ok (xs.getD i.toNat z) cs ∧ ∀ j u, cs[j]? = some u → W.cell? (ad.add (i.toNat * d.sz + j)) = some u := by
 obtain ⟨ad', cs, he, hcl, hK, hcc, _⟩ := F_get (V_F h) z i h0 h1
 injection he with he
 subst he
 exact ⟨cs, hcl, hK, hcc⟩
theorem R_newM {M : Nat → Prop} (h : d.R e w1 W.heap.size ok v xs) (hle : w.heap.size ≤ W.heap.size) (hM : ∀ k, w.heap.size ≤ k → M k) : d.R e w1 W.heap.size (fun k => M k ∧ ok k) v xs := R_mono (R_bound h) (fun k hk => ⟨hM k (Nat.le_trans hle hk.2.1), hk.1⟩)
end
end Kd
end Go.Proofs.YtocbiggglnpeoaaW.PrintWords
end
section
namespace Go.Proofs.YtocbiggglnpeoaaH
open Go.ChangeMaps (setBlock)
open Go.RowKit
def lookL : List MapEntry → Int → Option Value
 | [], _ => none
 | e :: es, k => match e.key with
  | .int .i64 x => if x = k then some e.val else lookL es k
  | _ => lookL es k
def IntKeys (es : List MapEntry) : Prop := ∀ e ∈ es, ∃ x, e.key = .int .i64 x
def MapI (w : World) (b : Nat) (m : Int → Option Value) : Prop :=
 ∃ es clock, w.heap[b]? = some (.map es clock) ∧ IntKeys es.toList ∧ ∀ k, lookL es.toList k = m k
theorem findNow_int (k : Int) : ∀ (es : List MapEntry) (i : Nat), IntKeys es →
  (∃ j v e, Instr.findNow (.int .i64) (.int .i64 k) es i = some (some (i + j, v)) ∧ es[j]? = some e ∧ e.key = .int .i64 k ∧ e.val = v ∧ lookL es k = some v ∧
   (∀ v', ∀ k', lookL (es.modify j fun e => { e with key := .int .i64 k, val := v' }) k' = if k' = k then some v' else lookL es k')) ∨
  (Instr.findNow (.int .i64) (.int .i64 k) es i = some none ∧ lookL es k = none)
 | [], i, _ => .inr ⟨rfl, rfl⟩
 | e :: es, i, h => by
  obtain ⟨x, hx⟩ := h e (by simp)
  by_cases hxk : x = k
  ·subst hxk
   refine .inl ⟨0, e.val, e, ?_, rfl, hx, rfl, ?_, ?_⟩
   ·simp [Instr.findNow, Instr.sameNow, hx]
   ·simp [lookL, hx]
   ·intro v' k'
    simp only [List.modify_zero_cons, lookL, hx]
    by_cases hk : k' = x
    ·simp [hk]
    ·have hk2 : x ≠ k' := fun h => hk h.symm
     simp [hk, hk2]
  ·have hs : Instr.sameNow (.int .i64) (.int .i64 k) e.key = some false := by
    have : k ≠ x := fun h => hxk h.symm
    simp [Instr.sameNow, hx, this]
   rcases findNow_int k es (i + 1) (fun e' he' => h e' (by simp [he'])) with ⟨j, v, e', h1, h2, h3, h4, h5, h6⟩ | ⟨h1, h2⟩
   ·refine .inl ⟨j + 1, v, e', ?_, by simpa using h2, h3, h4, ?_, ?_⟩
    ·simp only [Instr.findNow, hs]
     rw [h1]
     congr 3
     omega
    ·simp [lookL, hx, hxk, h5]
    ·intro v' k'
     simp only [List.modify_succ_cons, lookL, hx]
     rw [h6]
     by_cases hk : k' = k
     ·subst hk
      simp [hxk]
     ·simp [hk]
   ·refine .inr ⟨?_, ?_⟩
    ·simp only [Instr.findNow, hs]
     exact h1
    ·simp [lookL, hx, hxk, h2]
theorem lookL_append (es : List MapEntry) (e : MapEntry) (k k' : Int) (he : e.key = .int .i64 k) (hn : lookL es k = none) : IntKeys es → lookL (es ++ [e]) k' = if k' = k then some e.val else lookL es k' := by
 induction es with
 | nil =>
  intro _
  by_cases hk : k' = k
  ·simp [lookL, he, hk]
  ·have : k ≠ k' := fun h => hk h.symm
   simp [lookL, he, hk, this]
 | cons a es ih =>
  intro h
  obtain ⟨x, hx⟩ := h a (by simp)
  have hxk : x ≠ k := by
   intro hxk
   simp [lookL, hx, hxk] at hn
  have hn' : lookL es k = none := by simpa [lookL, hx, hxk] using hn
  have ih' := ih hn' (fun e' he' => h e' (by simp [he']))
  simp only [List.cons_append, lookL, hx]
  by_cases hk : x = k'
  ·have : k' ≠ k := by omega
   simp [hk, this]
  ·simp [hk, ih']
theorem MapI.kept {w w1 : World} {b : Nat} {m : Int → Option Value} {row : Option Nat} (h : MapI w b m) (hg : w.grownBy w1 row) (hne : some b ≠ row) : MapI w1 b m := by
 obtain ⟨es, clock, hb, hk, hm⟩ := h
 exact ⟨es, clock, (hg.block b (Array.getElem?_eq_some_iff.1 hb).1 hne).trans hb, hk, hm⟩
theorem MapI.lt {w : World} {b : Nat} {m : Int → Option Value} (h : MapI w b m) : b < w.heap.size := by
 obtain ⟨es, clock, hb, hk, hm⟩ := h
 exact (Array.getElem?_eq_some_iff.1 hb).1
theorem MapI.move {w w1 : World} {b : Nat} {m : Int → Option Value} (h : MapI w b m) (e : w1.heap[b]? = w.heap[b]?) : MapI w1 b m := by
 obtain ⟨es, clock, hb, hk, hm⟩ := h
 exact ⟨es, clock, e.trans hb, hk, hm⟩
theorem MapI.below {w w1 : World} {b : Nat} {m : Int → Option Value} (h : MapI w b m) (hb : Below w.heap.size w w1) : MapI w1 b m := h.move (hb.block b h.lt)
theorem MapI.alloc {w : World} {b : Nat} {m : Int → Option Value} (h : MapI w b m) (o : Obj) : MapI (w.alloc o) b m := h.below ((Below.refl _ _).alloc (Nat.le_refl _) o)
theorem MapI.drew {w : World} {b : Nat} {m : Int → Option Value} (h : MapI w b m) : MapI w.drew b m := h
theorem MapI.drewN {w : World} {b : Nat} {m : Int → Option Value} (h : MapI w b m) (n : Nat) : MapI (w.drewN n) b m := h
theorem MapI.made (w : World) : MapI (w.alloc (.map #[] 0)) w.heap.size (fun _ => none) :=
 ⟨#[], 0, heap_alloc_new _ _, by simp [IntKeys], fun k => rfl⟩
theorem MapI.not_cells {w : World} {b : Nat} {m : Int → Option Value} (h : MapI w b m) {cs : Array Value} {t : TypeId} {fr : Nat × Nat} : w.heap[b]? ≠ some (.cells cs t fr) := by
 obtain ⟨es, clock, hb, hk, hm⟩ := h
 rw [hb]
 simp
theorem MapI.ne_blk {w : World} {b : Nat} {m : Int → Option Value} (h : MapI w b m) {g : Nat} {cs : Array Value} {t : TypeId} {fr : Nat × Nat} (hg : w.heap[g]? = some (.cells cs t fr)) : some g ≠ some b := by
 rintro ⟨⟩
 exact h.not_cells hg
theorem MapI.eq {w : World} {b : Nat} {m m' : Int → Option Value} (h : MapI w b m) (e : ∀ k, m k = m' k) : MapI w b m' := by
 obtain ⟨es, clock, hb, hk, hm⟩ := h
 exact ⟨es, clock, hb, hk, fun k => (hm k).trans (e k)⟩
def setM (m : Int → Option Value) (k : Int) (v : Value) : Int → Option Value := fun k' => if k' = k then some v else m k'
section
variable {P : Program}
theorem run_checkI {w : World} {kt : TypeId} (hk : P.underlying kt = some (.int .i64)) (k : Int) (em : Bool) (n : Nat) : (Instr.checkKey em (n + 1) kt (.int .i64 k)).run P w = .ok () w := by
 simp [Instr.checkKey, run_underlying hk]
theorem run_lookI {w : World} {b : Nat} {m : Int → Option Value} (h : MapI w b m) {t kt et : TypeId} (ht : P.underlying t = some (.map kt et)) (hk : P.underlying kt = some (.int .i64)) {z : Value} (hz : (zeroValue et).run P w = .ok z w) (k : Int) (c : Bool) :
  (Instr.lookup t (.map (some b)) (.int .i64 k) c).run P w = .ok (if c then .tuple #[(m k).getD z, .bool (m k).isSome] else (m k).getD z) w := by
 obtain ⟨es, clock, hb, hks, hm⟩ := h
 have hck : (Instr.checkKey es.isEmpty 10000 kt (.int .i64 k)).run P w = .ok () w := run_checkI hk k _ 9999
 rcases findNow_int k es.toList 0 hks with ⟨j, v, e, h1, h2, h3, h4, h5, _⟩ | ⟨h1, h2⟩
 ·have hf : (Instr.findKey kt (.int .i64 k) es.toList).run P w = .ok (some (0 + j, v)) w := by simp [Instr.findKey, run_underlying hk, h1]
  simp [Instr.lookup, run_underlying ht, MapKept.run_getObj_map hb, hck, hf, Result.andThen, ← hm, h5]
 ·have hf : (Instr.findKey kt (.int .i64 k) es.toList).run P w = .ok none w := by simp [Instr.findKey, run_underlying hk, h1]
  simp [Instr.lookup, run_underlying ht, MapKept.run_getObj_map hb, hck, hf, hz, Result.andThen, ← hm, h2]
theorem heap_set_same {w : World} {b : Nat} {o o' : Obj} (h : w.heap[b]? = some o) : (setBlock w b o').heap[b]? = some o' := by
 have := (Array.getElem?_eq_some_iff.1 h).1
 simp [setBlock, this]
theorem heap_set_other {w : World} {b i : Nat} {o' : Obj} (h : i ≠ b) : (setBlock w b o').heap[i]? = w.heap[i]? := by
 have : b ≠ i := fun e => h e.symm
 simp [setBlock, this]
theorem run_storeI {w : World} {b : Nat} {m : Int → Option Value} (h : MapI w b m) {t kt et : TypeId} (ht : P.underlying t = some (.map kt et)) (hk : P.underlying kt = some (.int .i64)) (k : Int) (v : Value) :
  ∃ w', (Instr.mapUpdate t (.map (some b)) (.int .i64 k) v).run P w = .ok () w' ∧ MapI w' b (setM m k v) ∧ w.grownBy w' (some b) := by
 obtain ⟨es, clock, hb, hks, hm⟩ := h
 have hck : (Instr.checkKey false 10000 kt (.int .i64 k)).run P w = .ok () w := run_checkI hk k _ 9999
 have grown : ∀ o', w.grownBy (setBlock w b o') (some b) := fun o' => ⟨rfl, rfl, rfl, by simp [setBlock], fun i _ hi => heap_set_other (fun e => hi (by rw [e]))⟩
 rcases findNow_int k es.toList 0 hks with ⟨j, v0, e, h1, h2, h3, h4, h5, h6⟩ | ⟨h1, h2⟩
 ·have hf : (Instr.findKey kt (.int .i64 k) es.toList).run P w = .ok (some (0 + j, v0)) w := by simp [Instr.findKey, run_underlying hk, h1]
  have h2' : es[j]? = some e := by simpa using h2
  have hst : (Instr.keyThatStays (((es[j]?).map (·.key)).getD (.int .i64 k)) (.int .i64 k)).run P w = .ok (.int .i64 k) w := by
   simp [h2', h3, Instr.keyThatStays, Instr.sameBits]
  refine ⟨setBlock w b (.map (es.modify j fun e => { e with key := .int .i64 k, val := v }) clock), ?_, ⟨_, _, heap_set_same hb, ?_, ?_⟩, grown _⟩
  ·simp only [h2', Option.map_some, Option.getD_some] at hst
   simp [Instr.mapUpdate, run_underlying ht, MapKept.run_getObj_map hb, hck, hf, h2', hst, MapKept.run_setObj_map _ hb, Result.andThen, setBlock]
  ·intro e' he'
   rw [Array.toList_modify] at he'
   obtain ⟨i, hi, rfl⟩ := List.mem_iff_getElem.1 he'
   rw [List.getElem_modify]
   split
   ·exact ⟨k, rfl⟩
   ·exact hks _ (List.getElem_mem _)
  ·intro k'
   rw [Array.toList_modify, h6]
   unfold setM
   rw [← hm]
 ·have hf : (Instr.findKey kt (.int .i64 k) es.toList).run P w = .ok none w := by simp [Instr.findKey, run_underlying hk, h1]
  refine ⟨setBlock w b (.map (es.push { key := .int .i64 k, val := v, born := clock }) (clock + 1)), ?_, ⟨_, _, heap_set_same hb, ?_, ?_⟩, grown _⟩
  ·simp [Instr.mapUpdate, run_underlying ht, MapKept.run_getObj_map hb, hck, hf, MapKept.run_setObj_map _ hb, Result.andThen, setBlock]
  ·intro e' he'
   simp at he'
   rcases he' with he' | rfl
   ·exact hks _ (by simpa using he')
   ·exact ⟨k, rfl⟩
  ·intro k'
   rw [Array.toList_push, lookL_append es.toList _ k k' rfl h2 hks]
   unfold setM
   rw [← hm]
variable (w : World) {ops : Array Oper} {rest : List Oper} {o : Oper} {a : Act} {Q : Exit → Act → World → Prop}
theorem wpList_lookI (hg : o.guard = none) (mo x : Operand) (t : TypeId) (c : Bool) (hop : o.op = Op.lookup t mo x c) (kt et : TypeId) (ht : P.underlying t = some (.map kt et)) (hk : P.underlying kt = some (.int .i64)) {z : Value} (hz : (zeroValue et).run P w = .ok z w)
  (b : Nat) (m : Int → Option Value) (hm : a.eval mo = .map (some b)) (h : MapI w b m) (k : Int) (hx : a.eval x = .int .i64 k)
  (hK : wpList P ops Q rest (a.put o.dst (if c then .tuple #[(m k).getD z, .bool (m k).isSome] else (m k).getD z)) w) : wpList P ops Q (o :: rest) a w := by
 refine wpList_plain hg fun K' hK' => ?_
 have hrun := run_lookI h ht hk hz k c
 unfold Oper.wp
 simp [execOp, hop, hm, hx, hrun, Result.andThen]
 exact hK' _ _ hK
theorem wpList_storeI (hg : o.guard = none) (mo x y : Operand) (t : TypeId) (hop : o.op = Op.mapUpdate t mo x y) (kt et : TypeId) (ht : P.underlying t = some (.map kt et)) (hk : P.underlying kt = some (.int .i64))
  (b : Nat) (m : Int → Option Value) (hm : a.eval mo = .map (some b)) (h : MapI w b m) (k : Int) (hx : a.eval x = .int .i64 k) (v : Value) (hy : a.eval y = v)
  (hK : ∀ w', MapI w' b (setM m k v) → w.grownBy w' (some b) → wpList P ops Q rest (a.put o.dst undef) w') : wpList P ops Q (o :: rest) a w := by
 refine wpList_plain hg fun K' hK' => ?_
 obtain ⟨w', hrun, h1, h2⟩ := run_storeI h ht hk k v
 unfold Oper.wp
 simp [execOp, hop, hm, hx, hy, hrun, Result.andThen]
 exact hK' _ _ (hK w' h1 h2)
end
end Go.Proofs.YtocbiggglnpeoaaH
end
section
namespace Go.Proofs.YtocbiggglnpeoaaH
open Go.RowKit Go.Proofs.YtocbiggglnpeoaaW.PrintWords
theorem blk_put2 {w : World} {g : Nat} {t : TypeId} {x y : Value} (h : w.heap[g]? = some (.cells #[x, y] t (0, 0))) (a b : Value) :
  ((w.setCell ⟨g, 0, none⟩ a).setCell ⟨g, 1, none⟩ b).heap[g]? = some (.cells #[a, b] t (0, 0)) := blk_put (blk_put h 0 a rfl) 1 b rfl
theorem blk_put3 {w : World} {g : Nat} {t : TypeId} {x y z : Value} (h : w.heap[g]? = some (.cells #[x, y, z] t (0, 0))) (a b c : Value) :
  (((w.setCell ⟨g, 0, none⟩ a).setCell ⟨g, 1, none⟩ b).setCell ⟨g, 2, none⟩ c).heap[g]? = some (.cells #[a, b, c] t (0, 0)) := blk_put (blk_put (blk_put h 0 a rfl) 1 b rfl) 2 c rfl
theorem below_put2 {w0 w : World} {g : Nat} (hb : Below w0.heap.size w0 w) (hg : w0.heap.size ≤ g) (a b : Value) :
  Below w0.heap.size w0 ((w.setCell ⟨g, 0, none⟩ a).setCell ⟨g, 1, none⟩ b) := below_set (below_set hb hg) hg
theorem below_put3 {w0 w : World} {g : Nat} (hb : Below w0.heap.size w0 w) (hg : w0.heap.size ≤ g) (a b c : Value) :
  Below w0.heap.size w0 (((w.setCell ⟨g, 0, none⟩ a).setCell ⟨g, 1, none⟩ b).setCell ⟨g, 2, none⟩ c) := below_set (below_put2 hb hg a b) hg
section
variable {α : Type} {d : Kd α} {e : Nat} {w w1 : World} {base b : Nat} {ok : Nat → Prop} {v : Value} {xs : List α} {m : Int → Option Value}
theorem R_notmap (h : Kd.R d e w base ok v xs) (hm : MapI w b m) : Kd.R d e w base (fun k => ok k ∧ some k ≠ some b) v xs :=
 Kd.R_mono (Kd.R_bound h) (fun k hk => ⟨hk.1, by
  rintro ⟨⟩
  obtain ⟨_, _, _, q, hq, cells, hc⟩ := hk
  exact hm.not_cells hc⟩)
theorem R_map (h : Kd.R d e w base ok v xs) (hm : MapI w b m) (hg : w.grownBy w1 (some b)) : Kd.R d e w1 base ok v xs := Kd.R_mono (Kd.R_grown (R_notmap h hm) hg (fun _ hk => hk.2)) (fun _ hk => hk.1)
end
theorem MapI.ne_row {α : Type} {d : Kd α} {e : Nat} {w : World} {base b : Nat} {ok : Nat → Prop} {v : Value} {xs : List α} {m : Int → Option Value} (hm : MapI w b m) (h : Kd.R d e w base ok v xs) : some b ≠ v.ownBlock := by
 intro e1
 obtain ⟨inner, ho⟩ := Kd.R_own h
 obtain ⟨cells, hc⟩ := own_typed ho b e1.symm
 exact hm.not_cells hc
end Go.Proofs.YtocbiggglnpeoaaH
end
section
namespace Go.Proofs.YtocbiggglnpeoaaH
open Go.RowKit Go.Proofs.YtocbiggglnpeoaaW.PrintWords Go.Proofs.YtocbiggglnpeoaaW.PrintLast
theorem grown_below {w0 w w1 : World} {row : Option Nat} (hb : Below w0.heap.size w0 w) (hg : w.grownBy w1 row) (hr : ∀ k, row = some k → w0.heap.size ≤ k) : Below w0.heap.size w0 w1 := pw_below_grown hb row hb.size hg hr
end Go.Proofs.YtocbiggglnpeoaaH
end
section
namespace Go.Proofs.YtocbiggglnpeoaaH
open Go.RowKit
variable {α : Type}
def mapV (f : α → Value) (m : Int → Option α) : Int → Option Value := fun k => (m k).map f
def upd (m : Int → Option α) (k : Int) (v : α) : Int → Option α := fun k' => if k' = k then some v else m k'
theorem mapV_set (f : α → Value) (m : Int → Option α) (k : Int) (v : α) : ∀ x, setM (mapV f m) k (f v) x = mapV f (upd m k v) x := by
 intro x
 unfold setM mapV upd
 by_cases h : x = k <;> simp [h]
theorem mapV_get (f : α → Value) (m : Int → Option α) (k : Int) (d : α) : (mapV f m k).getD (f d) = f ((m k).getD d) := by
 unfold mapV
 cases m k <;> rfl
theorem mapV_some (f : α → Value) (m : Int → Option α) (k : Int) : (mapV f m k).isSome = (m k).isSome := by
 unfold mapV
 cases m k <;> rfl
def foldM (ks : Nat → Int) (vs : Nat → α) : Nat → Int → Option α
 | 0 => fun _ => none
 | n + 1 => upd (foldM ks vs n) (ks n) (vs n)
theorem foldM_succ (ks : Nat → Int) (vs : Nat → α) (n : Nat) : foldM ks vs (n + 1) = upd (foldM ks vs n) (ks n) (vs n) := rfl
theorem foldM_isSome (ks : Nat → Int) (vs : Nat → α) (k : Int) : ∀ n, (foldM ks vs n k).isSome = true ↔ ∃ j, j < n ∧ ks j = k
 | 0 => by simp [foldM]
 | n + 1 => by
  rw [foldM_succ]
  unfold upd
  by_cases h : k = ks n
  ·rw [if_pos h]
   exact ⟨fun _ => ⟨n, by omega, h.symm⟩, fun _ => rfl⟩
  ·rw [if_neg h, foldM_isSome ks vs k n]
   exact ⟨fun ⟨j, hj, e⟩ => ⟨j, by omega, e⟩, fun ⟨j, hj, e⟩ => ⟨j, by
    rcases Nat.lt_succ_iff_lt_or_eq.1 hj with h' | h'
    ·exact h'
    ·subst h'; exact absurd e.symm h, e⟩⟩
theorem MapI.none_ {w : World} {b : Nat} (h : MapI w b (fun _ => none)) (f : α → Value) : MapI w b (mapV f (fun _ => none)) := h.eq (fun _ => rfl)
end Go.Proofs.YtocbiggglnpeoaaH
end
section
namespace Go.Proofs.YtocbiggglnpeoaaW.PrintLast
open Go.Proofs.YtocbiggglnpeoaaW.PrintWords (Aside0)
def needsOf (md : Region.Mode) (o : Oper) : List Nat := (o.after.toList.filter (fun e => Region.binds md e)).map (fun e => e.on)
def clashOf (md : Region.Mode) (ops : Array Oper) (i : Nat) (oi : Oper) : List Nat := (List.range ops.size).filter fun j => !(j == i) && match ops[j]? with
 | some oj => !(oj.after.any (fun e => Region.binds md e && e.on == i) || oi.apart ops oj)
 | none => false
def rtab (md : Region.Mode) (ops : Array Oper) : Bool × List (List Nat × List Nat) := (Region.noSelect ops, (List.range ops.size).map fun i => match ops[i]? with
 | some o => (needsOf md o, clashOf md ops i o)
 | none => ([], []))
def readyAt (T : List (List Nat × List Nat)) (l : List Bool) (i : Nat) : Bool := !l.getD i true && match T[i]? with
 | some r => r.1.all (fun j => l.getD j false)
 | none => false
def readyT (T : List (List Nat × List Nat)) (l : List Bool) : List Nat := (List.range T.length).filter (readyAt T l)
def freeT (T : List (List Nat × List Nat)) (l : List Bool) (i : Nat) : Bool := match T[i]? with
 | some r => r.2.all (fun j => l.getD j true)
 | none => false
def closedT (T : List (List Nat × List Nat)) (l : List Bool) : Bool := (List.range T.length).all fun j => !l.getD j false || match T[j]? with
 | some r => r.1.all (fun k => l.getD k false)
 | none => true
def reachT (T : List (List Nat × List Nat)) (i : Nat) : Nat → Nat → Bool
 | 0, _ => false
 | fuel + 1, d => match T[d]? with
  | some r => r.1.any fun j => j == i || reachT T i fuel j
  | none => false
def lastT (T : List (List Nat × List Nat)) (l : List Bool) (ds : List Nat) (i : Nat) : Bool := ds.all fun d => l.getD d true || reachT T i T.length d
section
variable {md : Region.Mode} {ops : Array Oper} {T : Bool × List (List Nat × List Nat)} {l l' li lj lk : Array Bool} {ds : List Nat} {i j k : Nat}
theorem gd (l : Array Bool) (j : Nat) (b : Bool) : l.getD j b = l.toList.getD j b := by simp [Array.getD_eq_getD_getElem?, List.getD_eq_getElem?_getD]
theorem needs_all (o : Oper) (p : Nat → Bool) : o.after.all (fun e => !Region.binds md e || p e.on) = (needsOf md o).all p := by
 unfold needsOf
 rw [← Array.all_toList]
 induction o.after.toList with
 | nil => rfl
 | cons e r ih =>
  rw [List.all_cons, ih, List.filter_cons]
  cases h : Region.binds md e <;> simp
theorem needs_any (o : Oper) (p : Nat → Bool) : o.after.any (fun e => Region.binds md e && p e.on) = (needsOf md o).any p := by
 unfold needsOf
 rw [← Array.any_toList]
 induction o.after.toList with
 | nil => rfl
 | cons e r ih =>
  rw [List.any_cons, ih, List.filter_cons]
  cases h : Region.binds md e <;> simp
theorem rtab_length : (rtab md ops).2.length = ops.size := by simp [rtab]
theorem rtab_some {o : Oper} (h : ops[i]? = some o) : (rtab md ops).2[i]? = some (needsOf md o, clashOf md ops i o) := by
 have hi := (Array.getElem?_eq_some_iff.1 h).1
 unfold rtab
 rw [List.getElem?_map, List.getElem?_range hi, Option.map_some, h]
theorem rtab_none (h : ops[i]? = none) : (rtab md ops).2[i]? = none := by
 have hi : ops.size ≤ i := Array.getElem?_eq_none_iff.1 h
 exact List.getElem?_eq_none (by rw [rtab_length]; exact hi)
theorem readyAt_eq : readyAt (rtab md ops).2 l.toList i = (!l.getD i true && ((ops[i]?).map (·.after.all fun e => !Region.binds md e || l.getD e.on false)).getD false) := by
 unfold readyAt
 rw [gd]
 cases h : ops[i]? with
 | none => rw [rtab_none h]; rfl
 | some o =>
  rw [rtab_some h]
  simp only [Option.map_some, Option.getD_some]
  rw [← needs_all]
  simp only [gd]
theorem ready_eq : Region.ready md ops l = readyT (rtab md ops).2 l.toList := by
 unfold Region.ready readyT
 rw [rtab_length]
 refine List.filter_congr (fun i _ => ?_)
 rw [readyAt_eq]
theorem free_eq : Region.free md ops l i = freeT (rtab md ops).2 l.toList i := by
 unfold Region.free freeT
 cases h : ops[i]? with
 | none => rw [rtab_none h]
 | some oi =>
  rw [rtab_some h]
  simp only [clashOf]
  rw [List.all_filter]
  congr 1
  funext j
  rw [gd]
  cases hj : ops[j]? with
  | none => cases (j == i) <;> cases (l.toList.getD j true) <;> simp
  | some oj =>
   cases (j == i) <;> cases (l.toList.getD j true) <;> cases (oj.after.any (fun e => Region.binds md e && e.on == i) || oi.apart ops oj) <;> simp_all
theorem closed_eq : Region.closedB md ops l = closedT (rtab md ops).2 l.toList := by
 unfold Region.closedB closedT
 rw [rtab_length]
 congr 1
 funext j
 rw [gd]
 cases h : ops[j]? with
 | none => rw [rtab_none h]
 | some o =>
  rw [rtab_some h]
  simp only
  rw [← needs_all]
  simp only [gd]
theorem reach_eq : ∀ (fuel d : Nat), Region.reachB md ops i fuel d = reachT (rtab md ops).2 i fuel d
 | 0, _ => rfl
 | fuel + 1, d => by
  unfold Region.reachB reachT
  cases h : ops[d]? with
  | none => rw [rtab_none h]
  | some o =>
   rw [rtab_some h]
   simp only
   rw [← needs_any]
   congr 1
   funext e
   rw [reach_eq fuel]
theorem last_eq : Region.lastB md ops l ds i = lastT (rtab md ops).2 l.toList ds i := by
 unfold Region.lastB lastT
 rw [rtab_length]
 congr 1
 funext d
 rw [gd, reach_eq]
theorem readyAt_mem (h : readyAt T.2 l.toList i = true) (hT : rtab md ops = T) : (Region.ready md ops l).contains i = true := by
 subst hT
 rw [ready_eq]
 unfold readyT
 rw [List.contains_iff_mem, List.mem_filter, List.mem_range]
 refine ⟨?_, h⟩
 unfold readyAt at h
 rw [Bool.and_eq_true] at h
 cases hq : (rtab md ops).2[i]? with
 | none => rw [hq] at h; simp at h
 | some r => exact (List.getElem?_eq_some_iff.1 hq).1
theorem set_of (h : (l.toList.set i true == l'.toList) = true) : (l.setIfInBounds i true == l') = true := by
 rw [beq_iff_eq] at h ⊢
 apply Array.ext'
 rw [Array.toList_setIfInBounds]
 exact h
def anyT (T : Bool × List (List Nat × List Nat)) (l l' : List Bool) (i : Nat) : Bool := T.1 && freeT T.2 l i && readyAt T.2 l i && (l.set i true == l')
theorem any_of (hT : rtab md ops = T) (h : anyT T l.toList l'.toList i = true) : anyB md ops l l' i = true := by
 simp only [anyT, Bool.and_eq_true] at h
 obtain ⟨⟨⟨h1, h2⟩, h3⟩, h4⟩ := h
 have h5 := readyAt_mem h3 hT
 have h6 := set_of h4
 subst hT
 simp only [anyB, Bool.and_eq_true]
 exact ⟨⟨⟨h1, by rw [free_eq]; exact h2⟩, h5⟩, h6⟩
def takeT (T : Bool × List (List Nat × List Nat)) (ds : List Nat) (l l' : List Bool) (i : Nat) : Bool := T.1 && freeT T.2 l i && readyAt T.2 l i && closedT T.2 l && lastT T.2 l ds i && (l.set i true == l')
theorem take_of (hT : rtab md ops = T) (h : takeT T ds l.toList l'.toList i = true) : takeB md ops ds l l' i = true := by
 simp only [takeT, Bool.and_eq_true] at h
 obtain ⟨⟨⟨⟨⟨h1, h2⟩, h3⟩, h4⟩, h5⟩, h6⟩ := h
 have h7 := readyAt_mem h3 hT
 have h8 := set_of h6
 subst hT
 simp only [takeB, Bool.and_eq_true]
 exact ⟨⟨⟨⟨⟨h1, by rw [free_eq]; exact h2⟩, h7⟩, by rw [closed_eq]; exact h4⟩, by rw [last_eq]; exact h5⟩, h8⟩
theorem one_of (hT : rtab md ops = T) (h : (readyT T.2 l.toList == [i] && l.toList.set i true == l'.toList) = true) : readyB md ops l l' i = true := by
 simp only [Bool.and_eq_true] at h
 obtain ⟨h1, h2⟩ := h
 subst hT
 simp only [readyB, Bool.and_eq_true]
 exact ⟨by rw [ready_eq]; exact h1, set_of h2⟩
theorem done_of (hT : rtab md ops = T) (h : (readyT T.2 l.toList == []) = true) : (Region.ready md ops l == []) = true := by
 subst hT
 rw [ready_eq]
 exact h
def upM (B : List Nat) (d : Nat) : List Nat → Nat
 | [] => 0
 | n :: r => (2 ^ n ||| (if n < d then B.getD n 0 else 0)) ||| upM B d r
def waitsOk (T : List (List Nat × List Nat)) (B : List Nat) : Bool := (List.range T.length).all fun d => match T[d]? with
 | some r => (B.getD d 0 ||| upM B d r.1) == upM B d r.1
 | none => false
theorem upM_bit {B : List Nat} {d i : Nat} : ∀ {ns : List Nat}, (upM B d ns).testBit i = true → ∃ n ∈ ns, n = i ∨ (n < d ∧ (B.getD n 0).testBit i = true)
 | [], h => by simp [upM] at h
 | n :: r, h => by
  unfold upM at h
  rw [Nat.testBit_or, Nat.testBit_or, Bool.or_eq_true, Bool.or_eq_true] at h
  rcases h with (h | h) | h
  ·rw [Nat.testBit_two_pow] at h
   exact ⟨n, List.mem_cons_self, .inl (by simpa using h)⟩
  ·by_cases hn : n < d
   ·rw [if_pos hn] at h
    exact ⟨n, List.mem_cons_self, .inr ⟨hn, h⟩⟩
   ·rw [if_neg hn] at h
    simp at h
  ·obtain ⟨m, hm, h2⟩ := upM_bit h
   exact ⟨m, List.mem_cons_of_mem _ hm, h2⟩
theorem reach_bit {T : List (List Nat × List Nat)} {B : List Nat} (hB : waitsOk T B = true) : ∀ (fuel d : Nat), d < fuel → d < T.length → (B.getD d 0).testBit i = true → reachT T i fuel d = true
 | 0, d, h, _, _ => by omega
 | fuel + 1, d, h, hd, hb => by
  have h1 := List.all_eq_true.1 hB d (List.mem_range.2 hd)
  cases hr : T[d]? with
  | none => rw [hr] at h1; simp at h1
  | some r =>
   rw [hr] at h1
   simp only [beq_iff_eq] at h1
   have h2 : (upM B d r.1).testBit i = true := by rw [← h1, Nat.testBit_or, hb, Bool.true_or]
   obtain ⟨n, hn, h3⟩ := upM_bit h2
   unfold reachT
   rw [hr]
   simp only
   rw [List.any_eq_true]
   refine ⟨n, hn, ?_⟩
   rcases h3 with rfl | ⟨h4, h5⟩
   ·simp
   ·rw [reach_bit hB fuel n (by omega) (by omega) h5, Bool.or_true]
def lastW (T : List (List Nat × List Nat)) (B : List Nat) (l : List Bool) (ds : List Nat) (i : Nat) : Bool := ds.all fun d => l.getD d true || (decide (d < T.length) && (B.getD d 0).testBit i)
def takeW (T : Bool × List (List Nat × List Nat)) (B : List Nat) (ds : List Nat) (l l' : List Bool) (i : Nat) : Bool := T.1 && freeT T.2 l i && readyAt T.2 l i && closedT T.2 l && lastW T.2 B l ds i && (l.set i true == l')
theorem take_ofW {B : List Nat} (hT : rtab md ops = T) (hB : waitsOk T.2 B = true) (h : takeW T B ds l.toList l'.toList i = true) : takeB md ops ds l l' i = true := by
 refine take_of hT ?_
 simp only [takeW, takeT, Bool.and_eq_true] at h ⊢
 obtain ⟨⟨⟨⟨⟨h1, h2⟩, h3⟩, h4⟩, h5⟩, h6⟩ := h
 refine ⟨⟨⟨⟨⟨h1, h2⟩, h3⟩, h4⟩, ?_⟩, h6⟩
 unfold lastW at h5
 unfold lastT
 rw [List.all_eq_true] at h5 ⊢
 intro d hd
 have h7 := h5 d hd
 rw [Bool.or_eq_true, Bool.and_eq_true, decide_eq_true_eq] at h7
 rcases h7 with h7 | ⟨h8, h9⟩
 ·rw [h7, Bool.true_or]
 ·rw [reach_bit hB _ d h8 h8 h9, Bool.or_true]
theorem with_tabW {P : Program} {Q : Exit → Act → World → Prop} {S : World → Prop} {n : Nat} {a : Act} {w : World} {B : List Nat} (hT : rtab md ops = T) (hB : waitsOk T.2 B = true) (h : Aside0 (rtab md ops = T) → Aside0 (waitsOk T.2 B = true) → wpAnyLast P md ops Q S ds n l a w) : wpAnyLast P md ops Q S ds n l a w := h ⟨hT⟩ ⟨hB⟩
end
def opsIn : Code → Nat → Option (Array Oper)
 | .region id ops _, k => if id == k then some ops else none
 | .seq a b, k => match opsIn a k with
  | some o => some o
  | none => opsIn b k
 | .cond _ a b, k => match opsIn a k with
  | some o => some o
  | none => opsIn b k
 | .block _ c, k => opsIn c k
 | .loop c, k => opsIn c k
 | .scope c, k => opsIn c k
 | .rangeFunc _ _ a b, k => match opsIn a k with
  | some o => some o
  | none => opsIn b k
 | _, _ => none
def opsOf (f : Func) (k : Nat) : Array Oper := ((f.body.bind fun c => opsIn c k)).getD #[]
end Go.Proofs.YtocbiggglnpeoaaW.PrintLast
end
section
namespace Go.Proofs.YtocbiggglnpeoaaW.PrintWords
open Go.RowKit
section
variable {w w' u : World} {m B g : Nat} {o : Obj} {row : Option Nat} {S : Nat → Prop} {a : Addr} {v : Value}
theorem kept_at (hq : w.drewN m = w') (h : Kept u w S) : Kept u w' S := by subst hq; exact Kept.drewN h m
end
namespace Kd
section
variable {α : Type} {d : Kd α} {e base n m : Nat} {ok : Nat → Prop} {w w' : World} {v : Value} {A : Option Addr} {xs : List α}
end
end Kd
end Go.Proofs.YtocbiggglnpeoaaW.PrintWords
end
section
namespace Go.Proofs.YtocbiggglnpeoaaW.PrintWords
open Go.RowKit
section
variable {P : Program} {d : Nat} {xs ys : Array Value} {f : Field} {fs : List Field} {a b : Value} {r s : Bool} {w : World}
theorem eqf_last (hn : (f.name == "_") = false) (ha : (part f.type xs f.offset).run P w = .ok a w) (hb : (part f.type ys f.offset).run P w = .ok b w) (he : (Op.equalIn d f.type a b).run P w = .ok r w) : (Op.eqFields d xs ys [f]).run P w = .ok r w := by
 have hn' : f.name ≠ "_" := by simpa using hn
 simp only [Op.eqFields, if_pos hn', Sem.run_bind, ha, hb, he, Result.andThen_ok]
 cases r <;> simp
theorem eqf_cons (hn : (f.name == "_") = false) (ha : (part f.type xs f.offset).run P w = .ok a w) (hb : (part f.type ys f.offset).run P w = .ok b w) (he : (Op.equalIn d f.type a b).run P w = .ok r w) (hr : (Op.eqFields d xs ys fs).run P w = .ok s w) : (Op.eqFields d xs ys (f :: fs)).run P w = .ok (r && s) w := by
 have hn' : f.name ≠ "_" := by simpa using hn
 rw [Op.eqFields]
 simp only [if_pos hn', Sem.run_bind, ha, hb, he, Result.andThen_ok]
 cases r
 ·simp
 ·simpa using hr
theorem eqA_of {t : TypeId} {fs : Array Field} (hu : P.underlying t = some (.struct fs)) (hp : P.stoodInHeld t = false) (h : (Op.eqFields d xs ys fs.toList).run P w = .ok r w) : (Op.equalIn (d + 1) t (.agg xs) (.agg ys)).run P w = .ok r w := by
 have hf : P.fieldsOf t = fs := by simp [Program.fieldsOf, hu]
 rw [run_equalIn_struct (P := P) w d t xs ys (by rw [hf]; exact hu) hp, hf]
 exact h
end
end Go.Proofs.YtocbiggglnpeoaaW.PrintWords
end
section
namespace Go.Proofs.YtocbiggglnpeoaaW.PrintWords
theorem Reps.one {α : Type} {R : α → List Value → Prop} {ps : List α} {cs : List Value} {p : α} {v : Value} (hp : R p [v]) (h : Reps R 1 ps cs) : Reps R 1 (p :: ps) (v :: cs) := by
 refine ⟨by simp [h.1], fun j q hq => ?_⟩
 cases j with
 | zero =>
  simp only [List.getElem?_cons_zero, Option.some.injEq] at hq
  subst hq
  simpa using hp
 | succ j =>
  simp only [List.getElem?_cons_succ] at hq
  have h1 := h.2 j q hq
  simpa [Nat.mul_one] using h1
theorem Reps.front {α : Type} {R : α → List Value → Prop} {size : Nat} {ps : List α} {cs c all : List Value} {p : α} (hp : R p c) (hc : c.length = size) (h : Reps R size ps cs) (ha : c ++ cs = all) : Reps R size (p :: ps) all := by
 subst ha
 refine ⟨by rw [List.length_append, hc, h.1, List.length_cons, Nat.succ_mul, Nat.add_comm], fun j q hq => ?_⟩
 cases j with
 | zero =>
  simp only [List.getElem?_cons_zero, Option.some.injEq] at hq
  subst hq
  rw [Nat.zero_mul, List.drop_zero, List.take_append_of_le_length (by omega), List.take_of_length_le (by omega)]
  exact hp
 | succ j =>
  simp only [List.getElem?_cons_succ] at hq
  have h1 := h.2 j q hq
  rw [Nat.succ_mul, List.drop_append, List.drop_of_length_le (by rw [hc]; exact Nat.le_add_left _ _), List.nil_append, hc, Nat.add_sub_cancel]
  exact h1
theorem Reps.c2 {α : Type} {R : α → List Value → Prop} {ps : List α} {cs : List Value} {p : α} {va vb : Value} (hp : R p [va, vb]) (h : Reps R 2 ps cs) : Reps R 2 (p :: ps) (va :: vb :: cs) := Reps.front hp rfl h rfl
theorem Reps.c3 {α : Type} {R : α → List Value → Prop} {ps : List α} {cs : List Value} {p : α} {va vb vc : Value} (hp : R p [va, vb, vc]) (h : Reps R 3 ps cs) : Reps R 3 (p :: ps) (va :: vb :: vc :: cs) := Reps.front hp rfl h rfl
theorem Reps.c4 {α : Type} {R : α → List Value → Prop} {ps : List α} {cs : List Value} {p : α} {va vb vc vd : Value} (hp : R p [va, vb, vc, vd]) (h : Reps R 4 ps cs) : Reps R 4 (p :: ps) (va :: vb :: vc :: vd :: cs) := Reps.front hp rfl h rfl
theorem Reps.c5 {α : Type} {R : α → List Value → Prop} {ps : List α} {cs : List Value} {p : α} {va vb vc vd ve : Value} (hp : R p [va, vb, vc, vd, ve]) (h : Reps R 5 ps cs) : Reps R 5 (p :: ps) (va :: vb :: vc :: vd :: ve :: cs) := Reps.front hp rfl h rfl
theorem Reps.c6 {α : Type} {R : α → List Value → Prop} {ps : List α} {cs : List Value} {p : α} {va vb vc vd ve vf : Value} (hp : R p [va, vb, vc, vd, ve, vf]) (h : Reps R 6 ps cs) : Reps R 6 (p :: ps) (va :: vb :: vc :: vd :: ve :: vf :: cs) := Reps.front hp rfl h rfl
theorem Reps.c7 {α : Type} {R : α → List Value → Prop} {ps : List α} {cs : List Value} {p : α} {va vb vc vd ve vf vg : Value} (hp : R p [va, vb, vc, vd, ve, vf, vg]) (h : Reps R 7 ps cs) : Reps R 7 (p :: ps) (va :: vb :: vc :: vd :: ve :: vf :: vg :: cs) := Reps.front hp rfl h rfl
theorem Reps.c8 {α : Type} {R : α → List Value → Prop} {ps : List α} {cs : List Value} {p : α} {va vb vc vd ve vf vg vh : Value} (hp : R p [va, vb, vc, vd, ve, vf, vg, vh]) (h : Reps R 8 ps cs) : Reps R 8 (p :: ps) (va :: vb :: vc :: vd :: ve :: vf :: vg :: vh :: cs) := Reps.front hp rfl h rfl
theorem Reps.c9 {α : Type} {R : α → List Value → Prop} {ps : List α} {cs : List Value} {p : α} {va vb vc vd ve vf vg vh vi : Value} (hp : R p [va, vb, vc, vd, ve, vf, vg, vh, vi]) (h : Reps R 9 ps cs) : Reps R 9 (p :: ps) (va :: vb :: vc :: vd :: ve :: vf :: vg :: vh :: vi :: cs) := Reps.front hp rfl h rfl
theorem Reps.c10 {α : Type} {R : α → List Value → Prop} {ps : List α} {cs : List Value} {p : α} {va vb vc vd ve vf vg vh vi vj : Value} (hp : R p [va, vb, vc, vd, ve, vf, vg, vh, vi, vj]) (h : Reps R 10 ps cs) : Reps R 10 (p :: ps) (va :: vb :: vc :: vd :: ve :: vf :: vg :: vh :: vi :: vj :: cs) := Reps.front hp rfl h rfl
end Go.Proofs.YtocbiggglnpeoaaW.PrintWords
end
section
namespace Go.Proofs.YtocbiggglnpeoaaW.PrintLast
def up (b : Nat → Bool) (i : Nat) : Nat → Bool := fun j => if j = i then true else b j
section
variable {P : Program} {ops : Array Oper} {Q : Exit → Act → World → Prop} {md : Region.Mode} {T : Bool × List (List Nat × List Nat)} {B : List Nat} {O : List Nat} {b : Nat → Bool} {i j n : Nat}
end
end Go.Proofs.YtocbiggglnpeoaaW.PrintLast
end
section
namespace Go.Proofs.YtocbiggglnpeoaaW.PrintWords
open Go.RowKit
section
variable {P : Program} {ops : Array Oper} {rest : List Oper} {o : Oper} {a : Act} {Q : Exit → Act → World → Prop} {W : World}
theorem gate_guard (hw : Region.wanted o (yielded ops a.tmps) = true) (h : wpList P ops Q ({ o with guard := none } :: rest) a W) : wpList P ops Q (o :: rest) a W := by
 have h1 : Region.wanted { o with guard := none } (yielded ops a.tmps) = true := rfl
 unfold wpList at h ⊢
 rw [if_pos h1] at h
 rw [if_pos hw]
 exact h
end
end Go.Proofs.YtocbiggglnpeoaaW.PrintWords
end
namespace Go.Proofs.Ytocbiggglnpeoaa
section
open Go.RowKit Go.Proofs.YtocbiggglnpeoaaW.PrintWords Go.Proofs.YtocbiggglnpeoaaW.PrintLast Go.Proofs.YtocbiggglnpeoaaW.PrintMore
def w_ (n b : Nat) : Array Bool := ((List.range n).map b.testBit).toArray
theorem bb_ {n : Nat} {w W0 W : World} (H : Aside0 (Below n w W0)) (h : Below n w W0 → Below n w W := by intro hB_; repeat (first | (with_reducible first | exact hB_ | apply below_alloc | apply pw_below_drewN | apply below_drew1) | exact hB_)) : Below n w W := h H.out
theorem bs_ {n g : Nat} {w W0 W : World} (H : Aside0 (Below n w W0)) (G : n ≤ g) (h : Below n w W0 → n ≤ g → Below n w W := by intro hB_ hG_; repeat (first | (with_reducible first | exact hB_ | apply below_alloc | apply pw_below_drewN | apply below_drew1 | refine below_set ?_ hG_) | exact hB_)) : Below n w W := h H.out G
theorem rr_ {α : Type} {d : Kd α} {e : Nat} {w0 w : World} {base : Nat} {ok : Nat → Prop} {v : Value} {xs : List α} (H : Aside0 (d.R e w0 base ok v xs)) (h : d.R e w0 base ok v xs → d.R e w base ok v xs := by intro hR_; (with_reducible repeat (first | apply Kd.R_alloc | apply Kd.R_drewN | apply Kd.R_drew)); exact hR_) : d.R e w base ok v xs := h H.out
theorem kk_ {w0 w : World} {g : Nat} {o : Obj} (H : Aside0 (w0.heap[g]? = some o)) (h : w0.heap[g]? = some o → w.heap[g]? = some o := by intro hK_; (with_reducible repeat (first | refine blk_drewN ?_ _ | refine blk_drew ?_ | refine blk_alloc ?_ _)); exact hK_) : w.heap[g]? = some o := h H.out
theorem cc_ {α : Type} {d : Kd α} {w0 w : World} {xs : List α} {A : Option Addr} {n : Nat} (H : d.C w0 A n xs) (h : d.C w0 A n xs → d.C w A n xs := by intro hC_; repeat (first | exact hC_ | (with_reducible refine Kd.C_alloc ?_ _) | (with_reducible refine Kd.C_drewN ?_ _) | (with_reducible refine Kd.C_drew ?_))) : d.C w A n xs := h H
theorem od_ {p : Prop} [Decidable p] (h : decide p = true := by first | (with_reducible assumption) | assumption) : p := of_decide_eq_true h
theorem ew_ {p : Prop} (h : p := by first | rfl | (simp [errW_none, errW_some] <;> rfl) | (simp [*, errW_none, errW_some] <;> rfl)) : p := h
theorem sd_ {p : Prop} (h : p := by first | rfl | (simp; done) | (simp [*]; done)) : p := h
theorem hc_ {n : Nat} {w W : World} {p : Addr} {v : Value} (H : Aside0 (Below n w W)) (h : w.cell? p = some v) (hn : n = w.heap.size := by exact rfl) : W.cell? p = some v := by subst hn; exact (H.out.cell (World.block_lt_of_cell? w _ h)).trans h
theorem gl_ {P : Program} {ops : Array Oper} {Q : Exit → Act → World → Prop} {rest : List Oper} {oi : Oper} {a : Act} {w : World} {f : FuncId} {fn : Func} {as_ : Array Operand} {ts : Array TypeId} (N : Option Tmp) (hf : P.funcs[f]? = some fn) (args : Array Value) (h : Calls P f args w fun e w' => ∃ v, e = .returned v ∧ wpList P ops Q rest (a.put N v) w') (hd : oi.dst = N := by exact rfl) (hg : oi.guard = none := by exact rfl) (hname : (fn.name == "runtime.NumGoroutine") = false := by kernel_rfl) (hb : fn.body.isSome = true := by exact rfl) (hop : oi.op = .call { callee := .value (.func f), args := as_, argTypes := ts } := by exact rfl) (hargs : as_.map a.eval = args := by (try simp only [List.map_toArray, List.map_cons, List.map_nil]); first | done | rfl | (simp only [List.length_drop, List.length_take]; rfl)) : wpList P ops Q (oi :: rest) a w := goesL_ N hd hg hf hname hb args hop hargs h
theorem pu_ {P : Program} {ops : Array Oper} {Q : Exit → Act → World → Prop} {md : Region.Mode} {S : World → Prop} {ds : List Nat} {oi : Oper} {v : Value} {fuel : Nat} {l : Array Bool} {a a' : Act} {w : World} {T : Bool × List (List Nat × List Nat)} (i N : Nat) (l' : Array Bool) (hi : ops[i]? = some oi) (HT : Aside0 (rtab md ops = T)) (h : wpAnyLast P md ops Q S ds fuel l' a' w) (hN : oi.dst = some N := by exact rfl) (hc : anyT T l.toList l'.toList i = true := by kernel_rfl) (hQ : ∀ c a w, Q (.panic c) (a.put oi.dst v) w → Q (.panic c) a w := by exact fun _ _ _ h => h) (hg : Region.wanted oi (yielded ops a.tmps) = true := by rfl) (hy : ∀ w', (execOp a.eval oi).run P w' = .ok (.value v) w' := by intro w'; go_simp; with_reducible rfl) (ha : a.put (some N) v = a' := by simp only [Act.put, sI_, s0_, sS_, i64_w, i32_w]; rfl) : wpAnyLast P md ops Q S ds (fuel + 1) l a w := pure_ l' hi hN (any_of HT.out hc) hQ (.inl ⟨hg, hy⟩) ha h
theorem pv_ {P : Program} {ops : Array Oper} {Q : Exit → Act → World → Prop} {md : Region.Mode} {S : World → Prop} {ds : List Nat} {oi : Oper} {v : Value} {fuel : Nat} {l : Array Bool} {a a' : Act} {w : World} (i N : Nat) (l' : Array Bool) (hi : ops[i]? = some oi) (h : wpAnyLast P md ops Q S ds fuel l' a' w) (hN : oi.dst = some N := by exact rfl) (hc : anyB md ops l l' i = true := by kernel_rfl) (hQ : ∀ c a w, Q (.panic c) (a.put oi.dst v) w → Q (.panic c) a w := by exact fun _ _ _ h => h) (hg : Region.wanted oi (yielded ops a.tmps) = true := by rfl) (hy : ∀ w', (execOp a.eval oi).run P w' = .ok (.value v) w' := by intro w'; go_simp; with_reducible rfl) (ha : a.put (some N) v = a' := by simp only [Act.put, sI_, s0_, sS_, i64_w, i32_w]; rfl) : wpAnyLast P md ops Q S ds (fuel + 1) l a w := pure_ l' hi hN hc hQ (.inl ⟨hg, hy⟩) ha h
theorem pn_ {P : Program} {ops : Array Oper} {Q : Exit → Act → World → Prop} {md : Region.Mode} {S : World → Prop} {ds : List Nat} {oi : Oper} {fuel : Nat} {l : Array Bool} {a a' : Act} {w : World} {T : Bool × List (List Nat × List Nat)} (i N : Nat) (l' : Array Bool) (hi : ops[i]? = some oi) (HT : Aside0 (rtab md ops = T)) (h : wpAnyLast P md ops Q S ds fuel l' a' w) (hN : oi.dst = some N := by exact rfl) (hc : anyT T l.toList l'.toList i = true := by kernel_rfl) (hQ : ∀ c a w, Q (.panic c) (a.put oi.dst undef) w → Q (.panic c) a w := by exact fun _ _ _ h => h) (hg : Region.wanted oi (yielded ops a.tmps) = false := by rfl) (ha : a.put (some N) undef = a' := by simp only [Act.put, sI_, s0_, sS_, i64_w, i32_w]; rfl) : wpAnyLast P md ops Q S ds (fuel + 1) l a w := pure_ l' hi hN (any_of HT.out hc) hQ (.inr ⟨hg, rfl⟩) ha h
theorem po_ {P : Program} {ops : Array Oper} {Q : Exit → Act → World → Prop} {md : Region.Mode} {S : World → Prop} {ds : List Nat} {oi : Oper} {fuel : Nat} {l : Array Bool} {a a' : Act} {w : World} (i N : Nat) (l' : Array Bool) (hi : ops[i]? = some oi) (h : wpAnyLast P md ops Q S ds fuel l' a' w) (hN : oi.dst = some N := by exact rfl) (hc : anyB md ops l l' i = true := by kernel_rfl) (hQ : ∀ c a w, Q (.panic c) (a.put oi.dst undef) w → Q (.panic c) a w := by exact fun _ _ _ h => h) (hg : Region.wanted oi (yielded ops a.tmps) = false := by rfl) (ha : a.put (some N) undef = a' := by simp only [Act.put, sI_, s0_, sS_, i64_w, i32_w]; rfl) : wpAnyLast P md ops Q S ds (fuel + 1) l a w := pure_ l' hi hN hc hQ (.inr ⟨hg, rfl⟩) ha h
theorem ta_ {P : Program} {ops : Array Oper} {Q : Exit → Act → World → Prop} {md : Region.Mode} {S : World → Prop} {ds : List Nat} {oi : Oper} {v : Value} {fuel : Nat} {l : Array Bool} {a a' : Act} {w : World} {T : Bool × List (List Nat × List Nat)} {B : List Nat} (i N : Nat) (l' : Array Bool) (hi : ops[i]? = some oi) (HT : Aside0 (rtab md ops = T)) (HW : Aside0 (waitsOk T.2 B = true)) (hS : S w) (hy : ∀ w', S w' → (execOp a.eval oi).run P w' = .ok (.value v) w') (h : wpAnyLast P md ops Q S ds fuel l' a' w) (hN : oi.dst = some N := by exact rfl) (hc : takeW T B ds l.toList l'.toList i = true := by kernel_rfl) (hQ : ∀ c a w, Q (.panic c) (a.put oi.dst v) w → Q (.panic c) a w := by exact fun _ _ _ h => h) (hg : Region.wanted oi (yielded ops a.tmps) = true := by rfl) (ha : a.put (some N) v = a' := by simp only [Act.put, sI_, s0_, sS_, i64_w, i32_w]; rfl) : wpAnyLast P md ops Q S ds (fuel + 1) l a w := take_ l' hi hN (take_ofW HT.out HW.out hc) hQ (.inl ⟨hg, hy⟩) hS ha h
theorem tb_ {P : Program} {ops : Array Oper} {Q : Exit → Act → World → Prop} {md : Region.Mode} {S : World → Prop} {ds : List Nat} {oi : Oper} {v : Value} {fuel : Nat} {l : Array Bool} {a a' : Act} {w : World} (i N : Nat) (l' : Array Bool) (hi : ops[i]? = some oi) (hS : S w) (hy : ∀ w', S w' → (execOp a.eval oi).run P w' = .ok (.value v) w') (h : wpAnyLast P md ops Q S ds fuel l' a' w) (hN : oi.dst = some N := by exact rfl) (hc : takeB md ops ds l l' i = true := by kernel_rfl) (hQ : ∀ c a w, Q (.panic c) (a.put oi.dst v) w → Q (.panic c) a w := by exact fun _ _ _ h => h) (hg : Region.wanted oi (yielded ops a.tmps) = true := by rfl) (ha : a.put (some N) v = a' := by simp only [Act.put, sI_, s0_, sS_, i64_w, i32_w]; rfl) : wpAnyLast P md ops Q S ds (fuel + 1) l a w := take_ l' hi hN hc hQ (.inl ⟨hg, hy⟩) hS ha h
theorem vv_ {α : Type} {d : Kd α} {e : Nat} {w0 w : World} {base : Nat} {ok : Nat → Prop} {v : Value} {xs : List α} (H : Aside0 (Kd.V d e w0 base ok v xs)) (h : Kd.V d e w0 base ok v xs → Kd.V d e w base ok v xs := by intro hV_; (with_reducible repeat (first | apply Kd.V_alloc | apply Kd.V_drewN | apply Kd.V_drew)); exact hV_) : Kd.V d e w base ok v xs := h H.out
theorem vm_ {α : Type} {d : Kd α} {e : Nat} {w0 w : World} {base : Nat} {ok : Nat → Prop} {v : Value} {xs : List α} {ok' : Nat → Prop} (H : Aside0 (Kd.V d e w0 base ok v xs)) (hm : ∀ k, ok k → ok' k := by intro _ hk_; (try dsimp only at hk_ ⊢); simp only [hk_, ne_eq, not_false_eq_true, and_self]) (h : Kd.V d e w0 base ok' v xs → Kd.V d e w base ok' v xs := by intro hV_; (with_reducible repeat (first | apply Kd.V_alloc | apply Kd.V_drewN | apply Kd.V_drew)); exact hV_) : Kd.V d e w base ok' v xs := h (Kd.V_mono H.out hm)
theorem nn_ {α : Type} {d : Kd α} {e : Nat} {w0 w : World} {base : Nat} {ok : Nat → Prop} {v : Value} {xs : List α} (H : Aside0 (Kd.N d e w0 base ok v xs)) (h : Kd.N d e w0 base ok v xs → Kd.N d e w base ok v xs := by intro hV_; (with_reducible repeat (first | apply Kd.N_alloc | apply Kd.N_drewN | apply Kd.N_drew)); exact hV_) : Kd.N d e w base ok v xs := h H.out
theorem nm_ {α : Type} {d : Kd α} {e : Nat} {w0 w : World} {base : Nat} {ok : Nat → Prop} {v : Value} {xs : List α} {ok' : Nat → Prop} (H : Aside0 (Kd.N d e w0 base ok v xs)) (hm : ∀ k, ok k → ok' k := by intro _ hk_; (try dsimp only at hk_ ⊢); simp only [hk_, ne_eq, not_false_eq_true, and_self]) (h : Kd.N d e w0 base ok' v xs → Kd.N d e w base ok' v xs := by intro hV_; (with_reducible repeat (first | apply Kd.N_alloc | apply Kd.N_drewN | apply Kd.N_drew)); exact hV_) : Kd.N d e w base ok' v xs := h (Kd.N_mono H.out hm)
theorem bs1_ {n g0 : Nat} {w W0 W : World} (H : Aside0 (Below n w W0)) (G0 : Aside0 (n ≤ g0)) (h : Below n w W0 → n ≤ g0 → Below n w W := by intro hB_ hG0_; repeat (first | (with_reducible first | exact hB_ | apply below_alloc | apply pw_below_drewN | apply below_drew1 | refine below_set ?_ hG0_) | exact hB_)) : Below n w W := h H.out G0.out
theorem bs2_ {n g0 g1 : Nat} {w W0 W : World} (H : Aside0 (Below n w W0)) (G0 : Aside0 (n ≤ g0)) (G1 : Aside0 (n ≤ g1)) (h : Below n w W0 → n ≤ g0 → n ≤ g1 → Below n w W := by intro hB_ hG0_ hG1_; repeat (first | (with_reducible first | exact hB_ | apply below_alloc | apply pw_below_drewN | apply below_drew1 | refine below_set ?_ hG0_ | refine below_set ?_ hG1_) | exact hB_)) : Below n w W := h H.out G0.out G1.out
theorem bs3_ {n g0 g1 g2 : Nat} {w W0 W : World} (H : Aside0 (Below n w W0)) (G0 : Aside0 (n ≤ g0)) (G1 : Aside0 (n ≤ g1)) (G2 : Aside0 (n ≤ g2)) (h : Below n w W0 → n ≤ g0 → n ≤ g1 → n ≤ g2 → Below n w W := by intro hB_ hG0_ hG1_ hG2_; repeat (first | (with_reducible first | exact hB_ | apply below_alloc | apply pw_below_drewN | apply below_drew1 | refine below_set ?_ hG0_ | refine below_set ?_ hG1_ | refine below_set ?_ hG2_) | exact hB_)) : Below n w W := h H.out G0.out G1.out G2.out
theorem bs4_ {n g0 g1 g2 g3 : Nat} {w W0 W : World} (H : Aside0 (Below n w W0)) (G0 : Aside0 (n ≤ g0)) (G1 : Aside0 (n ≤ g1)) (G2 : Aside0 (n ≤ g2)) (G3 : Aside0 (n ≤ g3)) (h : Below n w W0 → n ≤ g0 → n ≤ g1 → n ≤ g2 → n ≤ g3 → Below n w W := by intro hB_ hG0_ hG1_ hG2_ hG3_; repeat (first | (with_reducible first | exact hB_ | apply below_alloc | apply pw_below_drewN | apply below_drew1 | refine below_set ?_ hG0_ | refine below_set ?_ hG1_ | refine below_set ?_ hG2_ | refine below_set ?_ hG3_) | exact hB_)) : Below n w W := h H.out G0.out G1.out G2.out G3.out
theorem bs5_ {n g0 g1 g2 g3 g4 : Nat} {w W0 W : World} (H : Aside0 (Below n w W0)) (G0 : Aside0 (n ≤ g0)) (G1 : Aside0 (n ≤ g1)) (G2 : Aside0 (n ≤ g2)) (G3 : Aside0 (n ≤ g3)) (G4 : Aside0 (n ≤ g4)) (h : Below n w W0 → n ≤ g0 → n ≤ g1 → n ≤ g2 → n ≤ g3 → n ≤ g4 → Below n w W := by intro hB_ hG0_ hG1_ hG2_ hG3_ hG4_; repeat (first | (with_reducible first | exact hB_ | apply below_alloc | apply pw_below_drewN | apply below_drew1 | refine below_set ?_ hG0_ | refine below_set ?_ hG1_ | refine below_set ?_ hG2_ | refine below_set ?_ hG3_ | refine below_set ?_ hG4_) | exact hB_)) : Below n w W := h H.out G0.out G1.out G2.out G3.out G4.out
theorem bs6_ {n g0 g1 g2 g3 g4 g5 : Nat} {w W0 W : World} (H : Aside0 (Below n w W0)) (G0 : Aside0 (n ≤ g0)) (G1 : Aside0 (n ≤ g1)) (G2 : Aside0 (n ≤ g2)) (G3 : Aside0 (n ≤ g3)) (G4 : Aside0 (n ≤ g4)) (G5 : Aside0 (n ≤ g5)) (h : Below n w W0 → n ≤ g0 → n ≤ g1 → n ≤ g2 → n ≤ g3 → n ≤ g4 → n ≤ g5 → Below n w W := by intro hB_ hG0_ hG1_ hG2_ hG3_ hG4_ hG5_; repeat (first | (with_reducible first | exact hB_ | apply below_alloc | apply pw_below_drewN | apply below_drew1 | refine below_set ?_ hG0_ | refine below_set ?_ hG1_ | refine below_set ?_ hG2_ | refine below_set ?_ hG3_ | refine below_set ?_ hG4_ | refine below_set ?_ hG5_) | exact hB_)) : Below n w W := h H.out G0.out G1.out G2.out G3.out G4.out G5.out
theorem bs7_ {n g0 g1 g2 g3 g4 g5 g6 : Nat} {w W0 W : World} (H : Aside0 (Below n w W0)) (G0 : Aside0 (n ≤ g0)) (G1 : Aside0 (n ≤ g1)) (G2 : Aside0 (n ≤ g2)) (G3 : Aside0 (n ≤ g3)) (G4 : Aside0 (n ≤ g4)) (G5 : Aside0 (n ≤ g5)) (G6 : Aside0 (n ≤ g6)) (h : Below n w W0 → n ≤ g0 → n ≤ g1 → n ≤ g2 → n ≤ g3 → n ≤ g4 → n ≤ g5 → n ≤ g6 → Below n w W := by intro hB_ hG0_ hG1_ hG2_ hG3_ hG4_ hG5_ hG6_; repeat (first | (with_reducible first | exact hB_ | apply below_alloc | apply pw_below_drewN | apply below_drew1 | refine below_set ?_ hG0_ | refine below_set ?_ hG1_ | refine below_set ?_ hG2_ | refine below_set ?_ hG3_ | refine below_set ?_ hG4_ | refine below_set ?_ hG5_ | refine below_set ?_ hG6_) | exact hB_)) : Below n w W := h H.out G0.out G1.out G2.out G3.out G4.out G5.out G6.out
theorem bs8_ {n g0 g1 g2 g3 g4 g5 g6 g7 : Nat} {w W0 W : World} (H : Aside0 (Below n w W0)) (G0 : Aside0 (n ≤ g0)) (G1 : Aside0 (n ≤ g1)) (G2 : Aside0 (n ≤ g2)) (G3 : Aside0 (n ≤ g3)) (G4 : Aside0 (n ≤ g4)) (G5 : Aside0 (n ≤ g5)) (G6 : Aside0 (n ≤ g6)) (G7 : Aside0 (n ≤ g7)) (h : Below n w W0 → n ≤ g0 → n ≤ g1 → n ≤ g2 → n ≤ g3 → n ≤ g4 → n ≤ g5 → n ≤ g6 → n ≤ g7 → Below n w W := by intro hB_ hG0_ hG1_ hG2_ hG3_ hG4_ hG5_ hG6_ hG7_; repeat (first | (with_reducible first | exact hB_ | apply below_alloc | apply pw_below_drewN | apply below_drew1 | refine below_set ?_ hG0_ | refine below_set ?_ hG1_ | refine below_set ?_ hG2_ | refine below_set ?_ hG3_ | refine below_set ?_ hG4_ | refine below_set ?_ hG5_ | refine below_set ?_ hG6_ | refine below_set ?_ hG7_) | exact hB_)) : Below n w W := h H.out G0.out G1.out G2.out G3.out G4.out G5.out G6.out G7.out
theorem wm_ {ok ok' : Nat → Prop} (hm : ∀ k, ok k → ok' k := by intro _ hk_; (try dsimp only at hk_ ⊢); simp only [hk_, ne_eq, not_false_eq_true, and_self]) : ∀ k, ok k → ok' k := hm
theorem cb_ {w W : World} {p : Addr} {v : Value} (H : Aside0 (Below w.heap.size w W)) (h : w.cell? p = some v) : W.cell? p = some v := (H.out.cell (World.block_lt_of_cell? w _ h)).trans h
theorem cd_ {w W : World} {p : Addr} {v : Value} (H : Below w.heap.size w W) (h : w.cell? p = some v) : W.cell? p = some v := (H.cell (World.block_lt_of_cell? w _ h)).trans h
theorem bz_ {w W : World} {g : Nat} (hg : g = W.heap.size) (h : Below w.heap.size w W) : w.heap.size ≤ g := by rw [hg]; exact h.size
theorem bl_ {w : World} {a g : Nat} {o : Obj} (hg : g = w.heap.size) (h : w.heap[a]? = some o) : a ≠ g := by rw [hg]; exact Nat.ne_of_lt (blk_lt h)
theorem bg_ {w : World} {a g : Nat} {o : Obj} (hg : g = w.heap.size) (h : w.heap[a]? = some o) : g ≠ a := by rw [hg]; exact Nat.ne_of_gt (blk_lt h)
theorem bc0_ {w : World} {g : Nat} {t : TypeId} {a : Value} {l : List Value} (h : w.heap[g]? = some (.cells (List.toArray (a :: l)) t (0, 0))) : w.cell? ⟨g, 0, none⟩ = some a := (blk_cell h 0).trans rfl
theorem bc1_ {w : World} {g : Nat} {t : TypeId} {a b : Value} {l : List Value} (h : w.heap[g]? = some (.cells (List.toArray (a :: b :: l)) t (0, 0))) : w.cell? ⟨g, 1, none⟩ = some b := (blk_cell h 1).trans rfl
theorem bc2_ {w : World} {g : Nat} {t : TypeId} {a b c : Value} {l : List Value} (h : w.heap[g]? = some (.cells (List.toArray (a :: b :: c :: l)) t (0, 0))) : w.cell? ⟨g, 2, none⟩ = some c := (blk_cell h 2).trans rfl
theorem mk_ {p : Prop} (h : p) : Aside0 p := ⟨h⟩
end
end Go.Proofs.Ytocbiggglnpeoaa
section
namespace Go.Proofs.Ytocbiggglnpeoaa.M
open Go.RowKit Go.Proofs.YtocbiggglnpeoaaW.PrintWords Go.Proofs.YtocbiggglnpeoaaW.PrintLast Go.Proofs.YtocbiggglnpeoaaW.PrintMore
attribute [local go_sem] max2_int min2_int max_two min_two max_three min_three max_four min_four
set_option linter.unusedVariables false
set_option linter.unusedSimpArgs false
def errW : Option Int → Value
 | none => .nilIface
 | some c => .iface 0 (.int .i64 c)
theorem errW_none : errW none = .nilIface := rfl
theorem errW_some (c : Int) : errW (some c) = .iface 0 (.int .i64 c) := rfl
theorem info3 : (Try.prog.info? 3).map (fun i => (i.zero, i.size, i.bytes)) = some (some (.int .i64 0), 1, 8) := by kernel_rfl
theorem info4 : (Try.prog.info? 4).map (fun i => (i.zero, i.size, i.bytes)) = some (some (.bool false), 1, 1) := by kernel_rfl
theorem info46 : (Try.prog.info? 46).map (fun i => (i.zero, i.size, i.bytes)) = some (some (.agg #[(.int .i64 0), (.int .i64 0), (.slice none 0 0)]), 3, 40) := by kernel_rfl
theorem info51 : (Try.prog.info? 51).map (fun i => (i.zero, i.size, i.bytes)) = some (some (.agg #[(.int .i64 0), (.int .i64 0), (.int .i64 0)]), 3, 24) := by kernel_rfl
theorem info84 : (Try.prog.info? 84).map (fun i => (i.zero, i.size, i.bytes)) = some (some (.agg #[(.int .i64 0), (.int .i64 0)]), 2, 16) := by kernel_rfl
structure S84 where
 f0 : Int
 f1 : Int
def z84 : S84 := ⟨(0 : Int), (0 : Int)⟩
def k84 : Kd S84 := Kd.iso (Kd.pair (Kd.int .i64) (Kd.int .i64)) (fun x : S84 => (x.f0, x.f1))
theorem k84_heap : Kd.Heap k84 := Kd.heap_iso _ (Kd.heap_pair (Kd.heap_int .i64) (Kd.heap_int .i64))
theorem k84_open {w : World} {x : S84} {cs : List Value} (h : k84.K w x cs) : cs = [.int .i64 x.f0, .int .i64 x.f1] := by
 obtain ⟨_, _, rfl, rfl, rfl⟩ := h
 exact rfl
theorem k84_mkM (w : World) (base : Nat) (ok : Nat → Prop) (x : S84)  : k84.M w base ok x [.int .i64 x.f0, .int .i64 x.f1] := ⟨[.int .i64 x.f0], [.int .i64 x.f1], rfl, rfl, rfl⟩
def rd_T84 (xs : List S84) (i : Int) : S84 := xs.getD i.toNat z84
theorem at_T84 {w : World} {A : Option Addr} {n : Nat} {xs : List S84} (h : Kd.C k84 w A n xs) (i : Int) (h0 : 0 ≤ i) (h1 : i < n) : ∃ ad , A = some ad ∧ w.cell? (ad.add (i.toNat * 2)) = some (.int .i64 (rd_T84 xs i).f0) ∧ w.cell? ⟨(ad.add (i.toNat * 2)).block, (ad.add (i.toNat * 2)).off + 1, none⟩ = some (.int .i64 (rd_T84 xs i).f1) := by
 obtain ⟨ad, c, e, _, hK, hc0⟩ := Kd.C_get h z84 i h0 h1
 have hc : ∀ j u, c[j]? = some u → w.cell? (ad.add (i.toNat * 2 + j)) = some u := hc0
 obtain rfl := k84_open hK
 exact ⟨ad, e, hc 0 _ rfl, by rw [← add_field _ _ 1 (by omega)]; exact hc 1 _ rfl⟩
structure S46 where
 f0 : Int
 f1 : Int
 f2 : (List Int)
def z46 : S46 := ⟨(0 : Int), (0 : Int), ([] : List Int)⟩
def k46 : Kd S46 := Kd.iso (Kd.pair (Kd.int .i64) (Kd.pair (Kd.int .i64) (Kd.slice 3 (Kd.int .i64)))) (fun x : S46 => (x.f0, x.f1, x.f2))
theorem k46_heap : Kd.Heap k46 := Kd.heap_iso _ (Kd.heap_pair (Kd.heap_int .i64) (Kd.heap_pair (Kd.heap_int .i64) (Kd.heap_slice 3 (Kd.heap_int .i64))))
theorem k46_open {w : World} {x : S46} {cs : List Value} (h : k46.K w x cs) : ∃ A2 c2, cs = [.int .i64 x.f0, .int .i64 x.f1, .slice A2 x.f2.length c2] ∧ x.f2.length ≤ c2 ∧ (Kd.int .i64).C w A2 x.f2.length x.f2 := by
 obtain ⟨_, _, rfl, rfl, ⟨_, _, rfl, rfl, ⟨A2, c2, rfl, l2, g2⟩⟩⟩ := h
 exact ⟨A2, c2, rfl, l2, g2⟩
theorem k46_mk (w : World) (x : S46) {A2 : Option Addr} {c2 : Nat} (l2 : x.f2.length ≤ c2) (g2 : (Kd.int .i64).C w A2 x.f2.length x.f2) : k46.K w x [.int .i64 x.f0, .int .i64 x.f1, .slice A2 x.f2.length c2] := ⟨[.int .i64 x.f0], [.int .i64 x.f1, .slice A2 x.f2.length c2], rfl, rfl, ⟨[.int .i64 x.f1], [.slice A2 x.f2.length c2], rfl, rfl, ⟨A2, c2, rfl, l2, g2⟩⟩⟩
theorem k46_mkM (w : World) (base : Nat) (ok : Nat → Prop) (x : S46) {v2 : Value} (g2 : (Kd.int .i64).R 3 w base ok v2 x.f2) : k46.M w base ok x [.int .i64 x.f0, .int .i64 x.f1, v2] := ⟨[.int .i64 x.f0], [.int .i64 x.f1, v2], rfl, rfl, ⟨[.int .i64 x.f1], [v2], rfl, rfl, ⟨v2, rfl, g2⟩⟩⟩
theorem k46_openF {W : World} {ok : Nat → Prop} {x : S46} {cs : List Value} (h : Kd.FK k46 W ok x cs) : ∃ A2 c2, cs = [.int .i64 x.f0, .int .i64 x.f1, .slice A2 x.f2.length c2] ∧ x.f2.length ≤ c2 ∧ Kd.F (Kd.int .i64) W ok A2 x.f2.length x.f2 := by
 obtain ⟨A2, c2, rfl, l2, _⟩ := k46_open (Kd.FK_now h)
 exact ⟨A2, c2, rfl, l2, (fun W' hW => by obtain ⟨A2_, c2_, he, l2_, g2_⟩ := k46_open (h W' hW); injection (Option.some.inj (show some (Value.slice A2 x.f2.length c2) = some (Value.slice A2_ x.f2.length c2_) from congrArg (fun l => l[2]?) he)) with ha_ _ _; rw [ha_]; exact g2_)⟩
theorem k46_mkF (W : World) (ok : Nat → Prop) (x : S46) {A2 : Option Addr} {c2 : Nat} (l2 : x.f2.length ≤ c2) (g2 : Kd.F (Kd.int .i64) W ok A2 x.f2.length x.f2) : Kd.FK k46 W ok x [.int .i64 x.f0, .int .i64 x.f1, .slice A2 x.f2.length c2] := fun W2 hW => k46_mk W2 x l2 (g2 W2 hW)
def rd_T46 (xs : List S46) (i : Int) : S46 := xs.getD i.toNat z46
theorem at_T46 {w : World} {A : Option Addr} {n : Nat} {xs : List S46} (h : Kd.C k46 w A n xs) (i : Int) (h0 : 0 ≤ i) (h1 : i < n) : ∃ ad A2 c2, A = some ad ∧ w.cell? (ad.add (i.toNat * 3)) = some (.int .i64 (rd_T46 xs i).f0) ∧ w.cell? ⟨(ad.add (i.toNat * 3)).block, (ad.add (i.toNat * 3)).off + 1, none⟩ = some (.int .i64 (rd_T46 xs i).f1) ∧ w.cell? ⟨(ad.add (i.toNat * 3)).block, (ad.add (i.toNat * 3)).off + 2, none⟩ = some (.slice A2 (rd_T46 xs i).f2.length c2) ∧ (rd_T46 xs i).f2.length ≤ c2 ∧ (Kd.int .i64).C w A2 (rd_T46 xs i).f2.length (rd_T46 xs i).f2 := by
 obtain ⟨ad, c, e, _, hK, hc0⟩ := Kd.C_get h z46 i h0 h1
 have hc : ∀ j u, c[j]? = some u → w.cell? (ad.add (i.toNat * 3 + j)) = some u := hc0
 obtain ⟨A2, c2, rfl, l2, g2⟩ := k46_open hK
 exact ⟨ad, A2, c2, e, hc 0 _ rfl, by rw [← add_field _ _ 1 (by omega)]; exact hc 1 _ rfl, by rw [← add_field _ _ 2 (by omega)]; exact hc 2 _ rfl, l2, g2⟩
structure S55 where
 f0 : Int
 f1 : Int
 f2 : Int
def z55 : S55 := ⟨(0 : Int), (0 : Int), (0 : Int)⟩
def k55 : Kd S55 := Kd.iso (Kd.pair (Kd.int .i64) (Kd.pair (Kd.int .i64) (Kd.int .i64))) (fun x : S55 => (x.f0, x.f1, x.f2))
theorem k55_open {w : World} {x : S55} {cs : List Value} (h : k55.K w x cs) : cs = [.int .i64 x.f0, .int .i64 x.f1, .int .i64 x.f2] := by
 obtain ⟨_, _, rfl, rfl, ⟨_, _, rfl, rfl, rfl⟩⟩ := h
 exact rfl
theorem k55_mkM (w : World) (base : Nat) (ok : Nat → Prop) (x : S55)  : k55.M w base ok x [.int .i64 x.f0, .int .i64 x.f1, .int .i64 x.f2] := ⟨[.int .i64 x.f0], [.int .i64 x.f1, .int .i64 x.f2], rfl, rfl, ⟨[.int .i64 x.f1], [.int .i64 x.f2], rfl, rfl, rfl⟩⟩
def rd_T55 (xs : List S55) (i : Int) : S55 := xs.getD i.toNat z55
theorem at_T55 {w : World} {A : Option Addr} {n : Nat} {xs : List S55} (h : Kd.C k55 w A n xs) (i : Int) (h0 : 0 ≤ i) (h1 : i < n) : ∃ ad , A = some ad ∧ w.cell? (ad.add (i.toNat * 3)) = some (.int .i64 (rd_T55 xs i).f0) ∧ w.cell? ⟨(ad.add (i.toNat * 3)).block, (ad.add (i.toNat * 3)).off + 1, none⟩ = some (.int .i64 (rd_T55 xs i).f1) ∧ w.cell? ⟨(ad.add (i.toNat * 3)).block, (ad.add (i.toNat * 3)).off + 2, none⟩ = some (.int .i64 (rd_T55 xs i).f2) := by
 obtain ⟨ad, c, e, _, hK, hc0⟩ := Kd.C_get h z55 i h0 h1
 have hc : ∀ j u, c[j]? = some u → w.cell? (ad.add (i.toNat * 3 + j)) = some u := hc0
 obtain rfl := k55_open hK
 exact ⟨ad, e, hc 0 _ rfl, by rw [← add_field _ _ 1 (by omega)]; exact hc 1 _ rfl, by rw [← add_field _ _ 2 (by omega)]; exact hc 2 _ rfl⟩
structure S51 where
 f0 : Int
 f1 : Int
 f2 : Int
def z51 : S51 := ⟨(0 : Int), (0 : Int), (0 : Int)⟩
def k51 : Kd S51 := Kd.iso (Kd.pair (Kd.int .i64) (Kd.pair (Kd.int .i64) (Kd.int .i64))) (fun x : S51 => (x.f0, x.f1, x.f2))
theorem k51_open {w : World} {x : S51} {cs : List Value} (h : k51.K w x cs) : cs = [.int .i64 x.f0, .int .i64 x.f1, .int .i64 x.f2] := by
 obtain ⟨_, _, rfl, rfl, ⟨_, _, rfl, rfl, rfl⟩⟩ := h
 exact rfl
theorem k51_mkM (w : World) (base : Nat) (ok : Nat → Prop) (x : S51)  : k51.M w base ok x [.int .i64 x.f0, .int .i64 x.f1, .int .i64 x.f2] := ⟨[.int .i64 x.f0], [.int .i64 x.f1, .int .i64 x.f2], rfl, rfl, ⟨[.int .i64 x.f1], [.int .i64 x.f2], rfl, rfl, rfl⟩⟩
def rd_T51 (xs : List S51) (i : Int) : S51 := xs.getD i.toNat z51
theorem at_T51 {w : World} {A : Option Addr} {n : Nat} {xs : List S51} (h : Kd.C k51 w A n xs) (i : Int) (h0 : 0 ≤ i) (h1 : i < n) : ∃ ad , A = some ad ∧ w.cell? (ad.add (i.toNat * 3)) = some (.int .i64 (rd_T51 xs i).f0) ∧ w.cell? ⟨(ad.add (i.toNat * 3)).block, (ad.add (i.toNat * 3)).off + 1, none⟩ = some (.int .i64 (rd_T51 xs i).f1) ∧ w.cell? ⟨(ad.add (i.toNat * 3)).block, (ad.add (i.toNat * 3)).off + 2, none⟩ = some (.int .i64 (rd_T51 xs i).f2) := by
 obtain ⟨ad, c, e, _, hK, hc0⟩ := Kd.C_get h z51 i h0 h1
 have hc : ∀ j u, c[j]? = some u → w.cell? (ad.add (i.toNat * 3 + j)) = some u := hc0
 obtain rfl := k51_open hK
 exact ⟨ad, e, hc 0 _ rfl, by rw [← add_field _ _ 1 (by omega)]; exact hc 1 _ rfl, by rw [← add_field _ _ 2 (by omega)]; exact hc 2 _ rfl⟩
structure S49 where
 f0 : Bool
 f1 : (List S51)
def z49 : S49 := ⟨false, ([] : List S51)⟩
def k49 : Kd S49 := Kd.iso (Kd.pair Kd.bool (Kd.slice 51 k51)) (fun x : S49 => (x.f0, x.f1))
theorem k49_open {w : World} {x : S49} {cs : List Value} (h : k49.K w x cs) : ∃ A1 c1, cs = [.bool x.f0, .slice A1 x.f1.length c1] ∧ x.f1.length ≤ c1 ∧ k51.C w A1 x.f1.length x.f1 := by
 obtain ⟨_, _, rfl, rfl, ⟨A1, c1, rfl, l1, g1⟩⟩ := h
 exact ⟨A1, c1, rfl, l1, g1⟩
theorem k49_mk (w : World) (x : S49) {A1 : Option Addr} {c1 : Nat} (l1 : x.f1.length ≤ c1) (g1 : k51.C w A1 x.f1.length x.f1) : k49.K w x [.bool x.f0, .slice A1 x.f1.length c1] := ⟨[.bool x.f0], [.slice A1 x.f1.length c1], rfl, rfl, ⟨A1, c1, rfl, l1, g1⟩⟩
theorem k49_openF {W : World} {ok : Nat → Prop} {x : S49} {cs : List Value} (h : Kd.FK k49 W ok x cs) : ∃ A1 c1, cs = [.bool x.f0, .slice A1 x.f1.length c1] ∧ x.f1.length ≤ c1 ∧ Kd.F k51 W ok A1 x.f1.length x.f1 := by
 obtain ⟨A1, c1, rfl, l1, _⟩ := k49_open (Kd.FK_now h)
 exact ⟨A1, c1, rfl, l1, (fun W' hW => by obtain ⟨A1_, c1_, he, l1_, g1_⟩ := k49_open (h W' hW); injection (Option.some.inj (show some (Value.slice A1 x.f1.length c1) = some (Value.slice A1_ x.f1.length c1_) from congrArg (fun l => l[1]?) he)) with ha_ _ _; rw [ha_]; exact g1_)⟩
theorem k49_mkF (W : World) (ok : Nat → Prop) (x : S49) {A1 : Option Addr} {c1 : Nat} (l1 : x.f1.length ≤ c1) (g1 : Kd.F k51 W ok A1 x.f1.length x.f1) : Kd.FK k49 W ok x [.bool x.f0, .slice A1 x.f1.length c1] := fun W2 hW => k49_mk W2 x l1 (g1 W2 hW)
def rd_T49 (xs : List S49) (i : Int) : S49 := xs.getD i.toNat z49
theorem at_T49 {w : World} {A : Option Addr} {n : Nat} {xs : List S49} (h : Kd.C k49 w A n xs) (i : Int) (h0 : 0 ≤ i) (h1 : i < n) : ∃ ad A1 c1, A = some ad ∧ w.cell? (ad.add (i.toNat * 2)) = some (.bool (rd_T49 xs i).f0) ∧ w.cell? ⟨(ad.add (i.toNat * 2)).block, (ad.add (i.toNat * 2)).off + 1, none⟩ = some (.slice A1 (rd_T49 xs i).f1.length c1) ∧ (rd_T49 xs i).f1.length ≤ c1 ∧ k51.C w A1 (rd_T49 xs i).f1.length (rd_T49 xs i).f1 := by
 obtain ⟨ad, c, e, _, hK, hc0⟩ := Kd.C_get h z49 i h0 h1
 have hc : ∀ j u, c[j]? = some u → w.cell? (ad.add (i.toNat * 2 + j)) = some u := hc0
 obtain ⟨A1, c1, rfl, l1, g1⟩ := k49_open hK
 exact ⟨ad, A1, c1, e, hc 0 _ rfl, by rw [← add_field _ _ 1 (by omega)]; exact hc 1 _ rfl, l1, g1⟩
end Go.Proofs.Ytocbiggglnpeoaa.M
end
section
namespace Go.Proofs.Ytocbiggglnpeoaa.M
open Go.RowKit Go.Proofs.YtocbiggglnpeoaaW.PrintWords Go.Proofs.YtocbiggglnpeoaaW.PrintLast Go.Proofs.YtocbiggglnpeoaaW.PrintMore
attribute [local go_sem] max2_int min2_int max_two min_two max_three min_three max_four min_four
set_option linter.unusedVariables false
set_option linter.unusedSimpArgs false
open Go.Proofs.YtocbiggglnpeoaaH
def lastF (l : List S84) (n : Nat) : Int := if n = 0 then 0 else (rd_T84 l ((n - 1 : Nat) : Int)).f0
theorem lastF_succ (l : List S84) (n : Nat) : lastF l (n + 1) = (rd_T84 l (n : Int)).f0 := by
 unfold lastF
 rw [if_neg (by omega)]
 rfl
def flatAt (l : List S84) (n : Nat) : Bool := decide (lastF l n < (rd_T84 l (n : Int)).f0 ∧ (rd_T84 l (n : Int)).f0 ≤ 64 ∧ 1 ≤ (rd_T84 l (n : Int)).f1 ∧ (rd_T84 l (n : Int)).f1 ≤ 10)
def flatsOk (l : List S84) : Bool := (List.range l.length).all (flatAt l)
theorem flatsOk_false {l : List S84} {n : Nat} (hn : n < l.length) (h : flatAt l n = false) : flatsOk l = false := by
 unfold flatsOk
 rw [List.all_eq_false]
 exact ⟨n, List.mem_range.2 hn, by simp [h]⟩
theorem flatsOk_true {l : List S84} (h : ∀ j, j < l.length → flatAt l j = true) : flatsOk l = true := by
 unfold flatsOk
 rw [List.all_eq_true]
 exact fun j hj => h j (List.mem_range.1 hj)
def roomsM (l : List S84) (n : Nat) : Int → Option Int := foldM (fun j => (rd_T84 l (j : Int)).f0) (fun j => (rd_T84 l (j : Int)).f1) n
def vInt : Int → Value := fun x => .int .i64 x
def vBool : Bool → Value := fun x => .bool x
set_option maxHeartbeats 8000000 in
set_option maxRecDepth 100000 in
theorem flats_calls (A0 : Option Addr) (c0 : Nat) (l0 : List (S84)) (w : World) (hr0 : Kd.C k84 w A0 l0.length l0) (hc0 : l0.length ≤ c0) (hn : l0.length ≤ 1000000000) :
  Calls Try.prog 42 #[.slice A0 l0.length c0] w fun e w' => ∃ mv : Option Nat, e = .returned (.tuple #[.map mv, .bool (flatsOk l0)]) ∧ (flatsOk l0 = true → ∃ gm, mv = some gm ∧ w.heap.size ≤ gm ∧ MapI w' gm (mapV vInt (roomsM l0 l0.length))) ∧ Below w.heap.size w w' := by
 have hu84 := Try.underlying84
 have HR0 := mk_ hr0
 have HN := mk_ hn
 have hmm := @run_makeMap Try.prog
 clear hr0 hn
 go_enter Try.func42, Try.ntmps42
 go_wp2
 obtain ⟨gm, hgm⟩ : ∃ gm, gm = w.heap.size := ⟨_, rfl⟩
 obtain ⟨w4, hw4⟩ : ∃ w4, w4 = w.alloc (Obj.map #[] 0) := ⟨_, rfl⟩
 rw [← hw4, ← hgm]
 have HM := mk_ (show MapI w4 gm (mapV vInt (roomsM l0 0)) by rw [hw4, hgm]; exact (MapI.made w).none_ vInt)
 have HB := mk_ (show Below w.heap.size w w4 by rw [hw4]; exact below_alloc (Below.refl _ _) _)
 have GM := mk_ (show w.heap.size ≤ gm by omega)
 clear hw4 hgm
 go_loopg [5, 11] l0.length (fun kq v5 v11 wr => ∃ (n : Nat) (q : Int), v5 = .int .i64 q ∧ v11 = .int .i64 n ∧ Aside0 (kq + n = l0.length) ∧ Aside0 (q = lastF l0 n) ∧ Aside0 (∀ j, j < n → flatAt l0 j = true) ∧ Aside0 (MapI wr gm (mapV vInt (roomsM l0 n))) ∧ Aside0 (Below w.heap.size w wr))
 case atStart => exact ⟨0, 0, rfl, rfl, ⟨by omega⟩, ⟨rfl⟩, ⟨fun j hj => absurd hj (by omega)⟩, HM, HB⟩
 case round =>
  clear HM HB
  obtain ⟨n, q, rfl, rfl, HK, HQ, HA, HM, HB⟩ := hrel
  by_cases hlt : n < l0.length
  rotate_left
  ·have d7 : decide ((n : Int) < (l0.length : Int)) = false := decide_eq_false (by omega)
   have d7' : decide (n < l0.length) = false := decide_eq_false hlt
   have hnl : n = l0.length := by have := HK.out; omega
   rw [hnl] at HM HA
   have HX := mk_ (flatsOk_true HA.out)
   clear hlt hnl
   go_wp2
   go_ret2
   rw [HX.out]
   exact ⟨_, rfl, fun _ => ⟨gm, rfl, GM.out, HM.out⟩, HB.out⟩
  obtain ⟨i, hi⟩ : ∃ i : Int, i = (n : Int) := ⟨_, rfl⟩
  rw [← hi]
  have HI2 := mk_ (show 0 ≤ i ∧ i < l0.length ∧ i = (n : Int) from ⟨by omega, by omega, hi⟩)
  have d7 : decide (i < (l0.length : Int)) = true := decide_eq_true HI2.out.2.1
  have ci2 : (0 ≤ i) = True := eq_true HI2.out.1
  have ci3 : (i < l0.length) = True := eq_true HI2.out.2.1
  obtain ⟨adp, ep, hx0, hx1⟩ := at_T84 (Kd.C_below HR0.out HB.out) i HI2.out.1 HI2.out.2.1
  subst ep
  obtain ⟨p, hp⟩ : ∃ p, p = rd_T84 l0 i := ⟨_, rfl⟩
  rw [← hp] at hx0 hx1
  have HP := mk_ (show rd_T84 l0 (n : Int) = p by rw [hp, hi])
  have hz1 : i + 1 ≤ 9223372036854775807 := by have := HI2.out; have := HN.out; omega
  have hz2 : -9223372036854775808 ≤ i + 1 := by have := HI2.out; omega
  have HFA := mk_ (show flatAt l0 n = decide (q < p.f0 ∧ p.f0 ≤ 64 ∧ 1 ≤ p.f1 ∧ p.f1 ≤ 10) by unfold flatAt; rw [HP.out, ← HQ.out])
  have HLT := mk_ hlt
  clear hi hlt hp
  have HB0 := mk_ (Below.refl wr.heap.size wr)
  go_upto_region 5 with (first | ((with_reducible refine gate_dst (N := 7) rfl ?_); refine box_event ?hg (N := 7) ?hd (cs := #[.int .i64 0, .int .i64 0]) (t := 84) ?hr ?_; (case hd => rfl); (case hg => rfl); (case hr => first | (go_simp; done) | (go_simp; rfl)); intro gf hg_F w9 hbox_ hb_; replace hx0 := cd_ hb_ hx0; replace hx1 := cd_ hb_ hx1; have n0_ := mk_ (below_step HB0.out hb_); have BF := mk_ hbox_; have GF := mk_ (show wr.heap.size ≤ gf by rw [hg_F]; exact below_size HB0.out); have EF := mk_ hg_F; have hcf0 : w9.cell? ⟨gf, 0, none⟩ = some (.int .i64 0) := (blk_cell hbox_ 0).trans rfl; have hff0 := blk_frozen hbox_ 0; have hcf1 : w9.cell? ⟨gf, 1, none⟩ = some (.int .i64 0) := (blk_cell hbox_ 1).trans rfl; have hff1 := blk_frozen hbox_ 1; clear HB0 hg_F hbox_ hb_; have HB0 := n0_; clear n0_))
  obtain ⟨w10, hw10⟩ : ∃ w10, w10 = (w9.setCell ⟨gf, 0, none⟩ (.int .i64 p.f0)).setCell ⟨gf, 1, none⟩ (.int .i64 p.f1) := ⟨_, rfl⟩
  rw [← hw10]
  have BF10 := mk_ (show w10.heap[gf]? = some (.cells #[.int .i64 p.f0, .int .i64 p.f1] 84 (0, 0)) by rw [hw10]; exact blk_put2 BF.out _ _)
  have HB10 := mk_ (show Below wr.heap.size wr w10 by rw [hw10]; exact below_put2 HB0.out GF.out _ _)
  clear hw10 BF HB0 hcf0 hcf1 hff0 hff1 hx0 hx1
  have hcf0 := bc0_ BF10.out
  have hcf1 := bc1_ BF10.out
  have HM10 := mk_ (HM.out.below HB10.out)
  have HB11 := mk_ (below_step HB.out HB10.out)
  have hbad : (q < p.f0 ∧ p.f0 ≤ 64 ∧ 1 ≤ p.f1 ∧ p.f1 ≤ 10) ∨ ¬(q < p.f0 ∧ p.f0 ≤ 64 ∧ 1 ≤ p.f1 ∧ p.f1 ≤ 10) := Decidable.em _
  rcases hbad with hgood | hbad
  ·have HG := mk_ (show flatAt l0 n = true by rw [HFA.out]; exact decide_eq_true hgood)
   have t1 : decide (p.f0 ≤ q) = false := decide_eq_false (by omega)
   have t2 : decide (64 < p.f0) = false := decide_eq_false (by omega)
   have t3 : decide (p.f1 < 1) = false := decide_eq_false (by omega)
   have t4 : decide (10 < p.f1) = false := decide_eq_false (by omega)
   clear hgood
   go_upto_region 7 with (fail)
   refine start_ (n := 9) (S := fun w' => w'.cell? ⟨gf, 0, none⟩ = some (.int .i64 p.f0) ∧ w'.cell? ⟨gf, 1, none⟩ = some (.int .i64 p.f1)) (ds := []) #[n_, n_, n_, n_, n_, n_, n_, n_, n_] (by kernel_rfl) rfl rfl ⟨hcf0, hcf1⟩ (fun hHeld => ?_)
   refine pv_ 0 34 (w_ 9 1) rfl ?_
   refine pv_ 1 35 (w_ 9 3) rfl ?_
   refine pv_ 3 37 (w_ 9 11) rfl ?_
   refine pv_ 5 39 (w_ 9 43) rfl ?_
   refine tb_ 2 36 (w_ 9 47) rfl hHeld (by rintro w' ⟨s0, s1⟩; go_simp; with_reducible rfl) ?_
   refine tb_ 4 38 (w_ 9 63) rfl hHeld (by rintro w' ⟨s0, s1⟩; go_simp; with_reducible rfl) ?_
   refine tb_ 6 40 (w_ 9 127) rfl hHeld (by rintro w' ⟨s0, s1⟩; go_simp; with_reducible rfl) ?_
   refine one_ (i := 7) (N := none) (w_ 9 255) rfl rfl (by kernel_rfl) (by decide) (fun K hK => ?_)
   obtain ⟨w11, hrun_, hm_, hg_⟩ := run_storeI (P := Try.prog) (t := 65) (kt := 3) (et := 3) HM10.out.drew Try.underlying65 Try.underlying3 p.f0 (.int .i64 p.f1)
   have HM11 := mk_ hm_
   have HG11 := mk_ hg_
   refine skip_ (w1 := w11) (by rfl) rfl ?_ ?_
   ·go_simp
    try (first | (rw [hrun_]; done) | (rw [hrun_]; rfl) | rfl)
   clear hrun_ hm_ hg_
   have BF11 := mk_ (blk_grown (show w10.drew.heap[gf]? = _ from BF10.out) HG11.out (HM10.out.ne_blk BF10.out))
   refine hK.out _ _ ⟨(blk_cell BF11.out 0).trans rfl, (blk_cell BF11.out 1).trans rfl⟩ (fun hHeld => ?_)
   clear hK K
   refine pv_ 8 5 (w_ 9 511) rfl ?_
   refine done_ (by kernel_rfl) ?_
   obtain ⟨w12, hw12⟩ : ∃ w12, w12 = w11 := ⟨_, rfl⟩
   have HM12 := mk_ (show MapI w11 gm (mapV vInt (roomsM l0 (n + 1))) from by
    refine HM11.out.eq fun k => (mapV_set vInt (roomsM l0 n) p.f0 p.f1 k).trans ?_
    unfold roomsM
    rw [foldM_succ]
    simp only [HP.out])
   have HB12 := mk_ (grown_below (show Below w.heap.size w w10.drew from HB11.out.drew) HG11.out (fun k e => by cases e; exact GM.out))
   clear hw12
   go_wp2
   go_roundg (gk - 1)
   case measure => have := HK.out; have := HLT.out; omega
   case rel =>
    refine ⟨n + 1, p.f0, ?_, ?_, ⟨by have := HK.out; have := HLT.out; omega⟩, ⟨by rw [lastF_succ, HP.out]⟩, ⟨fun j hj => ?_⟩, HM12, HB12⟩
    ·first | rfl | (simp; done)
    ·have := HI2.out
     first | (rw [show ((n + 1 : Nat) : Int) = i + 1 from by omega]; done) | (simp; omega)
    ·by_cases e : j = n
     rotate_left
     ·exact HA.out j (by omega)
     rw [e]; exact HG.out
  ·have HX := mk_ (flatsOk_false HLT.out (show flatAt l0 n = false by rw [HFA.out]; exact decide_eq_false hbad))
   by_cases b1 : p.f0 ≤ q
   ·have t1 : decide (p.f0 ≤ q) = true := decide_eq_true b1
    clear b1 hbad
    go_wp2
    go_ret2
    rw [HX.out]
    exact ⟨_, rfl, fun h => Bool.noConfusion h, HB11.out⟩
   have t1 : decide (p.f0 ≤ q) = false := decide_eq_false b1
   by_cases b2 : 64 < p.f0
   ·have t2 : decide (64 < p.f0) = true := decide_eq_true b2
    clear b1 b2 hbad
    go_wp2
    go_ret2
    rw [HX.out]
    exact ⟨_, rfl, fun h => Bool.noConfusion h, HB11.out⟩
   have t2 : decide (64 < p.f0) = false := decide_eq_false b2
   by_cases b3 : p.f1 < 1
   ·have t3 : decide (p.f1 < 1) = true := decide_eq_true b3
    clear b1 b2 b3 hbad
    go_wp2
    go_ret2
    rw [HX.out]
    exact ⟨_, rfl, fun h => Bool.noConfusion h, HB11.out⟩
   have t3 : decide (p.f1 < 1) = false := decide_eq_false b3
   have b4 : 10 < p.f1 := by omega
   have t4 : decide (10 < p.f1) = true := decide_eq_true b4
   clear b1 b2 b3 b4 hbad
   go_wp2
   go_ret2
   rw [HX.out]
   exact ⟨_, rfl, fun h => Bool.noConfusion h, HB11.out⟩
end Go.Proofs.Ytocbiggglnpeoaa.M
end
section
namespace Go.Proofs.Ytocbiggglnpeoaa.M
open Go.RowKit Go.Proofs.YtocbiggglnpeoaaW.PrintWords Go.Proofs.YtocbiggglnpeoaaW.PrintLast Go.Proofs.YtocbiggglnpeoaaW.PrintMore
attribute [local go_sem] max2_int min2_int max_two min_two max_three min_three max_four min_four
set_option linter.unusedVariables false
set_option linter.unusedSimpArgs false
open Go.Proofs.YtocbiggglnpeoaaH
def seenM (l : List Int) (n : Nat) : Int → Option Bool := foldM (fun j => rd l (j : Int)) (fun _ => true) n
def wantAt (rooms : Int → Option Int) (l : List Int) (n : Nat) : Bool := decide ((rooms (rd l (n : Int))).getD 0 ≠ 0) && !(seenM l n (rd l (n : Int))).getD false
def wantsOk (rooms : Int → Option Int) (l : List Int) : Bool := (List.range l.length).all (wantAt rooms l)
theorem wantsOk_false {rooms : Int → Option Int} {l : List Int} {n : Nat} (hn : n < l.length) (h : wantAt rooms l n = false) : wantsOk rooms l = false := by
 unfold wantsOk
 rw [List.all_eq_false]
 exact ⟨n, List.mem_range.2 hn, by simp [h]⟩
theorem wantsOk_true {rooms : Int → Option Int} {l : List Int} (h : ∀ j, j < l.length → wantAt rooms l j = true) : wantsOk rooms l = true := by
 unfold wantsOk
 rw [List.all_eq_true]
 exact fun j hj => h j (List.mem_range.1 hj)
def partyOk (rooms : Int → Option Int) (q : Int) (T : Int → Option Bool) (x0 x1 : Int) (l : List Int) : Bool :=
 decide (q < x0 ∧ x0 ≤ 64) && (decide (x1 = 0) || (decide ((rooms x1).getD 0 ≠ 0) && !(T x1).getD false)) && wantsOk rooms l
structure VS (w0 w : World) (gl gr gt gm gj : Nat) (rooms : Int → Option Int) (q : Int) (T : Int → Option Bool) : Prop where
 last : w.heap[gl]? = some (.cells #[.int .i64 q] 3 (0, 0))
 rm : w.heap[gr]? = some (.cells #[.map (some gm)] 65 (0, 0))
 tk : w.heap[gt]? = some (.cells #[.map (some gj)] 66 (0, 0))
 mr : MapI w gm (mapV vInt rooms)
 mt : MapI w gj (mapV vBool T)
 ne : gm ≠ gj
 lo : w0.heap.size ≤ gl ∧ w0.heap.size ≤ gj
 below : Below w0.heap.size w0 w
theorem VS.later {w0 w w' : World} {gl gr gt gm gj : Nat} {rooms : Int → Option Int} {q : Int} {T : Int → Option Bool} (h : VS w0 w gl gr gt gm gj rooms q T) (hb : Below w.heap.size w w') : VS w0 w' gl gr gt gm gj rooms q T :=
 ⟨blk_below h.last hb, blk_below h.rm hb, blk_below h.tk hb, h.mr.below hb, h.mt.below hb, h.ne, h.lo, below_step h.below hb⟩
theorem VS.map {w0 w w' : World} {gl gr gt gm gj gs : Nat} {rooms : Int → Option Int} {q : Int} {T : Int → Option Bool} {m : Int → Option Value} (h : VS w0 w gl gr gt gm gj rooms q T) (hs : MapI w gs m) (n1 : gm ≠ gs) (n2 : gj ≠ gs) (hlo : w0.heap.size ≤ gs) (hg : w.grownBy w' (some gs)) : VS w0 w' gl gr gt gm gj rooms q T :=
 ⟨blk_grown h.last hg (hs.ne_blk h.last), blk_grown h.rm hg (hs.ne_blk h.rm), blk_grown h.tk hg (hs.ne_blk h.tk), h.mr.kept hg (fun e => n1 (by cases e; rfl)), h.mt.kept hg (fun e => n2 (by cases e; rfl)), h.ne, h.lo, grown_below h.below hg (fun k e => by cases e; exact hlo)⟩
theorem VS.taken {w0 w w' : World} {gl gr gt gm gj : Nat} {rooms : Int → Option Int} {q x0 x1 : Int} {T : Int → Option Bool} (h : VS w0 w gl gr gt gm gj rooms q T) (hk : MapI w' gj (setM (mapV vBool T) x1 (.bool true))) (hg : w.grownBy w' (some gj)) : VS w0 (w'.setCell ⟨gl, 0, none⟩ (.int .i64 x0)) gl gr gt gm gj rooms x0 (upd T x1 true) := by
 have hl : w'.heap[gl]? = some (.cells #[.int .i64 q] 3 (0, 0)) := blk_grown h.last hg (h.mt.ne_blk h.last)
 have hr : w'.heap[gr]? = some (.cells #[.map (some gm)] 65 (0, 0)) := blk_grown h.rm hg (h.mt.ne_blk h.rm)
 have ht : w'.heap[gt]? = some (.cells #[.map (some gj)] 66 (0, 0)) := blk_grown h.tk hg (h.mt.ne_blk h.tk)
 have hm : MapI w' gm (mapV vInt rooms) := h.mr.kept hg (fun e => h.ne (by cases e; rfl))
 have far : ∀ {g t : Nat} {cs : Array Value}, w'.heap[g]? = some (.cells cs t (0, 0)) → t ≠ 3 → (w'.setCell ⟨gl, 0, none⟩ (.int .i64 x0)).heap[g]? = some (.cells cs t (0, 0)) := fun {g t cs} hb ht => (Below.heap_setCell w' ⟨gl, 0, none⟩ _ g (fun e => by
  rw [e] at hb
  have hb := hb.symm.trans hl
  injection hb with hb
  injection hb with _ h2
  exact ht h2)).trans hb
 exact ⟨blk_put hl 0 _ rfl, far hr (by decide), far ht (by decide), hm.move (Below.heap_setCell _ _ _ _ (fun e => hm.ne_blk hl (by rw [e]))), (hk.eq (mapV_set vBool T x1 true)).move (Below.heap_setCell _ _ _ _ (fun e => hk.ne_blk hl (by rw [e]))), h.ne, h.lo, below_set (grown_below h.below hg (fun k e => by cases e; exact h.lo.2)) h.lo.1⟩
set_option maxHeartbeats 8000000 in
set_option maxRecDepth 100000 in
theorem valid1_calls (w0 w : World) (x0 x1 : Int) (A2 : Option Addr) (c2 : Nat) (l2 : List Int) (gl gr gt gm gj : Nat) (rooms : Int → Option Int) (q : Int) (T : Int → Option Bool) (hr2 : Kd.C (Kd.int .i64) w0 A2 l2.length l2) (hc2 : l2.length ≤ c2) (hn : l2.length ≤ 1000000000000) (hv : VS w0 w gl gr gt gm gj rooms q T) :
  Calls Try.prog 43 #[.agg #[.int .i64 x0, .int .i64 x1, .slice A2 l2.length c2], .pointer (some ⟨gl, 0, none⟩), .pointer (some ⟨gr, 0, none⟩), .pointer (some ⟨gt, 0, none⟩)] w fun e w' => e = .returned (.bool (partyOk rooms q T x0 x1 l2)) ∧ Below w0.heap.size w0 w' ∧ (partyOk rooms q T x0 x1 l2 = true → VS w0 w' gl gr gt gm gj rooms x0 (upd T x1 true)) := by
 have hu46 := Try.underlying46
 have HR2 := mk_ hr2
 have HN := mk_ hn
 have HV := mk_ hv
 have hmm := @run_makeMap Try.prog
 have HB0 := mk_ (Below.refl w.heap.size w)
 clear hr2 hn hv
 by_cases b1 : x0 ≤ q
 ·have HX := mk_ (show partyOk rooms q T x0 x1 l2 = false by unfold partyOk; rw [decide_eq_false (by omega)]; rfl)
  have t1 : decide (x0 ≤ q) = true := decide_eq_true b1
  clear b1
  go_enter Try.func43, Try.ntmps43
  go_wp2_with (first | ((with_reducible refine gate_dst (N := 4) rfl ?_); refine box_event ?hg (N := 4) ?hd (cs := #[.int .i64 x0, .int .i64 x1, .slice A2 l2.length c2]) (t := 46) ?hr ?_; (case hd => rfl); (case hg => rfl); (case hr => first | (go_simp; done) | (go_simp; rfl)); intro gp hg_P wp hbox_ hb_; have n0_ := mk_ (below_step HB0.out hb_); have BP := mk_ hbox_; have GP := mk_ (show w.heap.size ≤ gp by rw [hg_P]; exact below_size HB0.out); have EP := mk_ hg_P; have hcp0 : wp.cell? ⟨gp, 0, none⟩ = some (.int .i64 x0) := (blk_cell hbox_ 0).trans rfl; have hfp0 := blk_frozen hbox_ 0; have hcp1 : wp.cell? ⟨gp, 1, none⟩ = some (.int .i64 x1) := (blk_cell hbox_ 1).trans rfl; have hfp1 := blk_frozen hbox_ 1; have hcp2 : wp.cell? ⟨gp, 2, none⟩ = some (.slice A2 l2.length c2) := (blk_cell hbox_ 2).trans rfl; have hfp2 := blk_frozen hbox_ 2; have HVp := mk_ (HV.out.later hb_); have hcl0 := (blk_cell HVp.out.last 0).trans rfl; have hcr0 := (blk_cell HVp.out.rm 0).trans rfl; have hct0 := (blk_cell HVp.out.tk 0).trans rfl; clear HB0 hg_P hbox_ hb_; have HB0 := n0_; clear n0_))
  go_ret
  rw [HX.out]
  exact ⟨rfl, HVp.out.below, fun h => Bool.noConfusion h⟩
 have t1 : decide (x0 ≤ q) = false := decide_eq_false b1
 by_cases b2 : 64 < x0
 ·have HX := mk_ (show partyOk rooms q T x0 x1 l2 = false by unfold partyOk; rw [decide_eq_false (by omega)]; rfl)
  have t2 : decide (64 < x0) = true := decide_eq_true b2
  clear b1 b2
  go_enter Try.func43, Try.ntmps43
  go_wp2_with (first | ((with_reducible refine gate_dst (N := 4) rfl ?_); refine box_event ?hg (N := 4) ?hd (cs := #[.int .i64 x0, .int .i64 x1, .slice A2 l2.length c2]) (t := 46) ?hr ?_; (case hd => rfl); (case hg => rfl); (case hr => first | (go_simp; done) | (go_simp; rfl)); intro gp hg_P wp hbox_ hb_; have n0_ := mk_ (below_step HB0.out hb_); have BP := mk_ hbox_; have GP := mk_ (show w.heap.size ≤ gp by rw [hg_P]; exact below_size HB0.out); have EP := mk_ hg_P; have hcp0 : wp.cell? ⟨gp, 0, none⟩ = some (.int .i64 x0) := (blk_cell hbox_ 0).trans rfl; have hfp0 := blk_frozen hbox_ 0; have hcp1 : wp.cell? ⟨gp, 1, none⟩ = some (.int .i64 x1) := (blk_cell hbox_ 1).trans rfl; have hfp1 := blk_frozen hbox_ 1; have hcp2 : wp.cell? ⟨gp, 2, none⟩ = some (.slice A2 l2.length c2) := (blk_cell hbox_ 2).trans rfl; have hfp2 := blk_frozen hbox_ 2; have HVp := mk_ (HV.out.later hb_); have hcl0 := (blk_cell HVp.out.last 0).trans rfl; have hcr0 := (blk_cell HVp.out.rm 0).trans rfl; have hct0 := (blk_cell HVp.out.tk 0).trans rfl; clear HB0 hg_P hbox_ hb_; have HB0 := n0_; clear n0_))
  go_ret
  rw [HX.out]
  exact ⟨rfl, HVp.out.below, fun h => Bool.noConfusion h⟩
 have t2 : decide (64 < x0) = false := decide_eq_false b2
 have HPO := mk_ (show partyOk rooms q T x0 x1 l2 = ((decide (x1 = 0) || (decide ((rooms x1).getD 0 ≠ 0) && !(T x1).getD false)) && wantsOk rooms l2) by unfold partyOk; rw [decide_eq_true (by omega : q < x0 ∧ x0 ≤ 64)]; rfl)
 clear b1 b2
 by_cases b3 : x1 = 0
 ·have t3 : (x1 == 0) = true := beq_iff_eq.2 b3
  have t3' : (x1 != 0) = false := by rw [bne_eq_false_iff_eq]; exact b3
  have HX := mk_ (show partyOk rooms q T x0 x1 l2 = wantsOk rooms l2 by rw [HPO.out, decide_eq_true b3]; rfl)
  clear b3
  go_enter Try.func43, Try.ntmps43
  go_upto_region 3 with (first | ((with_reducible refine gate_dst (N := 4) rfl ?_); refine box_event ?hg (N := 4) ?hd (cs := #[.int .i64 x0, .int .i64 x1, .slice A2 l2.length c2]) (t := 46) ?hr ?_; (case hd => rfl); (case hg => rfl); (case hr => first | (go_simp; done) | (go_simp; rfl)); intro gp hg_P wp hbox_ hb_; have n0_ := mk_ (below_step HB0.out hb_); have BP := mk_ hbox_; have GP := mk_ (show w.heap.size ≤ gp by rw [hg_P]; exact below_size HB0.out); have EP := mk_ hg_P; have hcp0 : wp.cell? ⟨gp, 0, none⟩ = some (.int .i64 x0) := (blk_cell hbox_ 0).trans rfl; have hfp0 := blk_frozen hbox_ 0; have hcp1 : wp.cell? ⟨gp, 1, none⟩ = some (.int .i64 x1) := (blk_cell hbox_ 1).trans rfl; have hfp1 := blk_frozen hbox_ 1; have hcp2 : wp.cell? ⟨gp, 2, none⟩ = some (.slice A2 l2.length c2) := (blk_cell hbox_ 2).trans rfl; have hfp2 := blk_frozen hbox_ 2; have HVp := mk_ (HV.out.later hb_); have hcl0 := (blk_cell HVp.out.last 0).trans rfl; have hcr0 := (blk_cell HVp.out.rm 0).trans rfl; have hct0 := (blk_cell HVp.out.tk 0).trans rfl; clear HB0 hg_P hbox_ hb_; have HB0 := n0_; clear n0_))
  have hfl0 := blk_frozen HVp.out.last 0
  refine start_ (n := 7) (S := fun w' => w'.cell? ⟨gt, 0, none⟩ = some (.map (some gj)) ∧ w'.cell? ⟨gp, 0, none⟩ = some (.int .i64 x0) ∧ w'.cell? ⟨gp, 1, none⟩ = some (.int .i64 x1)) (ds := [6]) #[n_, n_, n_, n_, n_, n_, n_] (by kernel_rfl) rfl rfl ⟨hct0, hcp0, hcp1⟩ (fun hHeld => ?_)
  refine pv_ 1 37 (w_ 7 2) rfl ?_
  refine pv_ 3 39 (w_ 7 10) rfl ?_
  refine tb_ 0 36 (w_ 7 11) rfl hHeld (by rintro w' ⟨s0, s1, s2⟩; go_simp; with_reducible rfl) ?_
  refine tb_ 2 38 (w_ 7 15) rfl hHeld (by rintro w' ⟨s0, s1, s2⟩; go_simp; with_reducible rfl) ?_
  refine tb_ 4 40 (w_ 7 31) rfl hHeld (by rintro w' ⟨s0, s1, s2⟩; go_simp; with_reducible rfl) ?_
  refine one_ (i := 5) (N := none) (w_ 7 63) rfl rfl (by kernel_rfl) (by decide) (fun K hK => ?_)
  obtain ⟨w11, hrun_, hm_, hg_⟩ := run_storeI (P := Try.prog) (t := 66) (kt := 3) (et := 4) HVp.out.mt.drew Try.underlying66 Try.underlying3 x1 (.bool true)
  have HM11 := mk_ hm_
  have HG11 := mk_ hg_
  refine skip_ (w1 := w11) (by rfl) rfl ?_ ?_
  ·go_simp
   try (first | (rw [hrun_]; done) | (rw [hrun_]; rfl) | rfl)
  clear hrun_ hm_ hg_
  have BT11 := mk_ (blk_grown (show wp.drew.heap[gt]? = _ from HVp.out.tk) HG11.out (HVp.out.mt.ne_blk HVp.out.tk))
  have BP11 := mk_ (blk_grown (show wp.drew.heap[gp]? = _ from BP.out) HG11.out (HVp.out.mt.ne_blk BP.out))
  have BL11 := mk_ (blk_grown (show wp.drew.heap[gl]? = _ from HVp.out.last) HG11.out (HVp.out.mt.ne_blk HVp.out.last))
  have hql0 := (blk_cell BL11.out 0).trans rfl
  have hqf0 := blk_frozen BL11.out 0
  refine hK.out _ _ ⟨(blk_cell BT11.out 0).trans rfl, (blk_cell BP11.out 0).trans rfl, (blk_cell BP11.out 1).trans rfl⟩ (fun hHeld => ?_)
  clear hK K
  refine last_ (i := 6) (N := none) (w_ 7 127) rfl rfl (by kernel_rfl) (by decide) (fun K hK => ?_)
  refine skip_ (w1 := ?_) (by rfl) rfl ?_ ?_
  rotate_left
  ·go_simp
   rfl
  refine hK.out _ _ ?_
  clear hK K
  refine done_ (by kernel_rfl) ?_
  go_upto_region 4 with (fail)
  obtain ⟨w12, hw12⟩ : ∃ w12, w12 = w11.setCell ⟨gl, 0, none⟩ (.int .i64 x0) := ⟨_, rfl⟩
  rw [← hw12]
  have HV12 := mk_ (show VS w0 w12 gl gr gt gm gj rooms x0 (upd T x1 true) by rw [hw12]; exact VS.taken (HVp.out.later (below_drew (Below.refl _ _))) HM11.out HG11.out)
  have BP12 := mk_ (show w12.heap[gp]? = some (.cells #[.int .i64 x0, .int .i64 x1, .slice A2 l2.length c2] 46 (0, 0)) by rw [hw12]; exact (Below.heap_setCell _ _ _ _ (blk_ne BP11.out BL11.out (by decide))).trans BP11.out)
  clear hcp0 hcp1 hcp2 hfp0 hfp1 hfp2 hcl0 hcr0 hct0 hfl0 hql0 hqf0 hHeld hw12
  have hcp2 : (w12.alloc (Obj.map #[] 0)).cell? ⟨gp, 2, none⟩ = some (.slice A2 l2.length c2) := (blk_cell (blk_below BP12.out (below_alloc (Below.refl _ _) _)) 2).trans rfl
  go_wp2
  obtain ⟨gs, hgs⟩ : ∃ gs, gs = w12.heap.size := ⟨_, rfl⟩
  obtain ⟨w13, hw13⟩ : ∃ w13, w13 = w12.alloc (Obj.map #[] 0) := ⟨_, rfl⟩
  rw [← hgs, ← hw13]
  have HV13 := mk_ (show VS w0 w13 gl gr gt gm gj rooms x0 (upd T x1 true) by rw [hw13]; exact HV12.out.later (below_alloc (Below.refl _ _) _))
  have HS13 := mk_ (show MapI w13 gs (mapV vBool (seenM l2 0)) by rw [hw13, hgs]; exact (MapI.made w12).none_ vBool)
  have HNE := mk_ (show gm ≠ gs ∧ gj ≠ gs ∧ w0.heap.size ≤ gs from ⟨by have := HV12.out.mr.lt; omega, by have := HV12.out.mt.lt; omega, by have := below_size HV12.out.below; omega⟩)
  have HCA := mk_ (Kd.C_below HR2.out HV13.out.below)
  clear hw13 hgs HV12 BP12 hcp2
  go_loopg [45] l2.length (fun kq v45 wr => ∃ (n : Nat), v45 = .int .i64 n ∧ Aside0 (kq + n = l2.length) ∧ Aside0 (∀ j, j < n → wantAt rooms l2 j = true) ∧ Aside0 (VS w0 wr gl gr gt gm gj rooms x0 (upd T x1 true)) ∧ Aside0 (MapI wr gs (mapV vBool (seenM l2 n))))
  case atStart => exact ⟨0, rfl, ⟨by omega⟩, ⟨fun j hj => absurd hj (by omega)⟩, HV13, HS13⟩
  case round =>
   clear HV13 HS13 HCA
   obtain ⟨n, rfl, HK, HA, HVR, HS⟩ := hrel
   by_cases hlt : n < l2.length
   rotate_left
   ·have d7 : decide ((n : Int) < (l2.length : Int)) = false := decide_eq_false (by omega)
    have d7' : decide (n < l2.length) = false := decide_eq_false hlt
    have hnl : n = l2.length := by have := HK.out; omega
    rw [hnl] at HA
    have HF := mk_ (wantsOk_true HA.out)
    clear hlt hnl
    go_wp2
    go_ret
    rw [HX.out, HF.out]
    exact ⟨rfl, HVR.out.below, fun _ => HVR.out⟩
   obtain ⟨i, hi⟩ : ∃ i : Int, i = (n : Int) := ⟨_, rfl⟩
   rw [← hi]
   have HI2 := mk_ (show 0 ≤ i ∧ i < l2.length ∧ i = (n : Int) from ⟨by omega, by omega, hi⟩)
   have d7 : decide (i < (l2.length : Int)) = true := decide_eq_true HI2.out.2.1
   have ci2 : (0 ≤ i) = True := eq_true HI2.out.1
   have ci3 : (i < l2.length) = True := eq_true HI2.out.2.1
   obtain ⟨adw, ew, hy0⟩ := Kd.at_int (Kd.C_below HR2.out HVR.out.below) i HI2.out.1 HI2.out.2.1
   subst ew
   obtain ⟨k, hk⟩ : ∃ k, k = rd l2 i := ⟨_, rfl⟩
   rw [← hk] at hy0
   have HKK := mk_ (show rd l2 (n : Int) = k by rw [hk, hi])
   have hz1 : i + 1 ≤ 9223372036854775807 := by have := HI2.out; have := HN.out; omega
   have hz2 : -9223372036854775808 ≤ i + 1 := by have := HI2.out; omega
   have HLT := mk_ hlt
   have HWA := mk_ (show wantAt rooms l2 n = (decide ((rooms k).getD 0 ≠ 0) && !(seenM l2 n k).getD false) by unfold wantAt; rw [HKK.out])
   have hcrr : wr.cell? ⟨gr, 0, none⟩ = some (.map (some gm)) := (blk_cell HVR.out.rm 0).trans rfl
   clear hi hlt hk
   by_cases c1 : (rooms k).getD 0 = 0
   ·have u1 : ((rooms k).getD 0 == 0) = true := beq_iff_eq.2 c1
    have HF := mk_ (wantsOk_false HLT.out (show wantAt rooms l2 n = false by rw [HWA.out, decide_eq_false (by simpa using c1)]; rfl))
    clear c1
    go_wp2_with (first | ((with_reducible refine gate_ (op := .lookup 65 (.tmp 49) (.tmp 50) false) rfl ?_); refine wpList_lookI _ rfl (.tmp 49) (.tmp 50) 65 false rfl 3 3 Try.underlying65 Try.underlying3 (Try.zeroValue3 _) gm (mapV vInt rooms) rfl HVR.out.mr k rfl ?_; rw [if_neg (by decide), show (Value.int IntKind.i64 0) = vInt 0 from rfl, mapV_get]; dsimp only [vInt]))
    go_ret
    rw [HX.out, HF.out]
    exact ⟨rfl, HVR.out.below, fun h => Bool.noConfusion h⟩
   have u1 : ((rooms k).getD 0 == 0) = false := beq_eq_false_iff_ne.2 c1
   cases c2 : (seenM l2 n k).getD false with
   | true =>
    have HF := mk_ (wantsOk_false HLT.out (show wantAt rooms l2 n = false by rw [HWA.out, c2]; simp))
    have HC2 := mk_ c2
    clear c1 c2
    go_wp2_with (first | ((with_reducible refine gate_ (op := .lookup 65 (.tmp 49) (.tmp 50) false) rfl ?_); refine wpList_lookI _ rfl (.tmp 49) (.tmp 50) 65 false rfl 3 3 Try.underlying65 Try.underlying3 (Try.zeroValue3 _) gm (mapV vInt rooms) rfl HVR.out.mr k rfl ?_; rw [if_neg (by decide), show (Value.int IntKind.i64 0) = vInt 0 from rfl, mapV_get]; dsimp only [vInt]) | ((with_reducible refine gate_ (op := .lookup 66 (.tmp 54) (.tmp 55) false) rfl ?_); (try (refine gate_guard (by rfl) ?_; dsimp only)); refine wpList_lookI _ rfl (.tmp 54) (.tmp 55) 66 false rfl 3 4 Try.underlying66 Try.underlying3 (Try.zeroValue4 _) gs (mapV vBool (seenM l2 n)) rfl HS.out k rfl ?_; rw [if_neg (by decide), show (Value.bool false) = vBool false from rfl, mapV_get, HC2.out]; dsimp only [vBool]))
    go_ret
    rw [HX.out, HF.out]
    exact ⟨rfl, HVR.out.below, fun h => Bool.noConfusion h⟩
   | false =>
    have HF := mk_ (show wantAt rooms l2 n = true by rw [HWA.out, c2, decide_eq_true c1]; rfl)
    have HC2 := mk_ c2
    clear c1 c2
    go_wp2_with (first | ((with_reducible refine gate_ (op := .lookup 65 (.tmp 49) (.tmp 50) false) rfl ?_); refine wpList_lookI _ rfl (.tmp 49) (.tmp 50) 65 false rfl 3 3 Try.underlying65 Try.underlying3 (Try.zeroValue3 _) gm (mapV vInt rooms) rfl HVR.out.mr k rfl ?_; rw [if_neg (by decide), show (Value.int IntKind.i64 0) = vInt 0 from rfl, mapV_get]; dsimp only [vInt]) | ((with_reducible refine gate_ (op := .lookup 66 (.tmp 54) (.tmp 55) false) rfl ?_); (try (refine gate_guard (by rfl) ?_; dsimp only)); refine wpList_lookI _ rfl (.tmp 54) (.tmp 55) 66 false rfl 3 4 Try.underlying66 Try.underlying3 (Try.zeroValue4 _) gs (mapV vBool (seenM l2 n)) rfl HS.out k rfl ?_; rw [if_neg (by decide), show (Value.bool false) = vBool false from rfl, mapV_get, HC2.out]; dsimp only [vBool]) | ((with_reducible refine gate_ (op := .mapUpdate 66 (.tmp 58) (.tmp 59) (.const (.bool true))) rfl ?_); refine wpList_storeI _ rfl (.tmp 58) (.tmp 59) (.const (.bool true)) 66 rfl 3 4 Try.underlying66 Try.underlying3 gs (mapV vBool (seenM l2 n)) rfl HS.out k rfl (.bool true) rfl ?_; intro w14 hm_ hg_; have HS14 := mk_ (show MapI w14 gs (mapV vBool (seenM l2 (n + 1))) from hm_.eq fun x => (mapV_set vBool (seenM l2 n) k true x).trans (by unfold seenM; rw [foldM_succ]; simp only [HKK.out])); have HV14 := mk_ (HVR.out.map HS.out HNE.out.1 HNE.out.2.1 HNE.out.2.2 hg_); clear hm_ hg_))
    go_roundg (gk - 1)
    case measure => have := HK.out; have := HLT.out; omega
    case rel =>
     refine ⟨n + 1, ?_, ⟨by have := HK.out; have := HLT.out; omega⟩, ⟨fun j hj => ?_⟩, HV14, HS14⟩
     ·have := HI2.out
      first | (rw [show ((n + 1 : Nat) : Int) = i + 1 from by omega]; done) | (simp; omega)
     ·by_cases e : j = n
      rotate_left
      ·exact HA.out j (by omega)
      rw [e]; exact HF.out
 have t3 : (x1 == 0) = false := beq_eq_false_iff_ne.2 b3
 have t3' : (x1 != 0) = true := bne_iff_ne.2 b3
 by_cases b4 : (rooms x1).getD 0 = 0
 ·have t4 : ((rooms x1).getD 0 == 0) = true := beq_iff_eq.2 b4
  have HX := mk_ (show partyOk rooms q T x0 x1 l2 = false by rw [HPO.out, decide_eq_false b3, decide_eq_false (by simpa using b4)]; rfl)
  clear b3 b4
  go_enter Try.func43, Try.ntmps43
  go_wp2_with (first | ((with_reducible refine gate_dst (N := 4) rfl ?_); refine box_event ?hg (N := 4) ?hd (cs := #[.int .i64 x0, .int .i64 x1, .slice A2 l2.length c2]) (t := 46) ?hr ?_; (case hd => rfl); (case hg => rfl); (case hr => first | (go_simp; done) | (go_simp; rfl)); intro gp hg_P wp hbox_ hb_; have n0_ := mk_ (below_step HB0.out hb_); have BP := mk_ hbox_; have GP := mk_ (show w.heap.size ≤ gp by rw [hg_P]; exact below_size HB0.out); have EP := mk_ hg_P; have hcp0 : wp.cell? ⟨gp, 0, none⟩ = some (.int .i64 x0) := (blk_cell hbox_ 0).trans rfl; have hfp0 := blk_frozen hbox_ 0; have hcp1 : wp.cell? ⟨gp, 1, none⟩ = some (.int .i64 x1) := (blk_cell hbox_ 1).trans rfl; have hfp1 := blk_frozen hbox_ 1; have hcp2 : wp.cell? ⟨gp, 2, none⟩ = some (.slice A2 l2.length c2) := (blk_cell hbox_ 2).trans rfl; have hfp2 := blk_frozen hbox_ 2; have HVp := mk_ (HV.out.later hb_); have hcl0 := (blk_cell HVp.out.last 0).trans rfl; have hcr0 := (blk_cell HVp.out.rm 0).trans rfl; have hct0 := (blk_cell HVp.out.tk 0).trans rfl; clear HB0 hg_P hbox_ hb_; have HB0 := n0_; clear n0_) | ((with_reducible refine gate_ (op := .lookup 65 (.tmp 23) (.tmp 25) false) rfl ?_); (try (refine gate_guard (by rfl) ?_; dsimp only)); refine wpList_lookI _ rfl (.tmp 23) (.tmp 25) 65 false rfl 3 3 Try.underlying65 Try.underlying3 (Try.zeroValue3 _) gm (mapV vInt rooms) rfl HVp.out.mr x1 rfl ?_; rw [if_neg (by decide), show (Value.int IntKind.i64 0) = vInt 0 from rfl, mapV_get]; dsimp only [vInt]))
  go_ret
  rw [HX.out]
  exact ⟨rfl, HVp.out.below, fun h => Bool.noConfusion h⟩
 have t4 : ((rooms x1).getD 0 == 0) = false := beq_eq_false_iff_ne.2 b4
 cases b5 : (T x1).getD false with
 | true =>
  have HX := mk_ (show partyOk rooms q T x0 x1 l2 = false by rw [HPO.out, decide_eq_false b3, b5]; simp)
  have HT5 := mk_ b5
  clear b3 b4 b5
  go_enter Try.func43, Try.ntmps43
  go_wp2_with (first | ((with_reducible refine gate_dst (N := 4) rfl ?_); refine box_event ?hg (N := 4) ?hd (cs := #[.int .i64 x0, .int .i64 x1, .slice A2 l2.length c2]) (t := 46) ?hr ?_; (case hd => rfl); (case hg => rfl); (case hr => first | (go_simp; done) | (go_simp; rfl)); intro gp hg_P wp hbox_ hb_; have n0_ := mk_ (below_step HB0.out hb_); have BP := mk_ hbox_; have GP := mk_ (show w.heap.size ≤ gp by rw [hg_P]; exact below_size HB0.out); have EP := mk_ hg_P; have hcp0 : wp.cell? ⟨gp, 0, none⟩ = some (.int .i64 x0) := (blk_cell hbox_ 0).trans rfl; have hfp0 := blk_frozen hbox_ 0; have hcp1 : wp.cell? ⟨gp, 1, none⟩ = some (.int .i64 x1) := (blk_cell hbox_ 1).trans rfl; have hfp1 := blk_frozen hbox_ 1; have hcp2 : wp.cell? ⟨gp, 2, none⟩ = some (.slice A2 l2.length c2) := (blk_cell hbox_ 2).trans rfl; have hfp2 := blk_frozen hbox_ 2; have HVp := mk_ (HV.out.later hb_); have hcl0 := (blk_cell HVp.out.last 0).trans rfl; have hcr0 := (blk_cell HVp.out.rm 0).trans rfl; have hct0 := (blk_cell HVp.out.tk 0).trans rfl; clear HB0 hg_P hbox_ hb_; have HB0 := n0_; clear n0_) | ((with_reducible refine gate_ (op := .lookup 65 (.tmp 23) (.tmp 25) false) rfl ?_); (try (refine gate_guard (by rfl) ?_; dsimp only)); refine wpList_lookI _ rfl (.tmp 23) (.tmp 25) 65 false rfl 3 3 Try.underlying65 Try.underlying3 (Try.zeroValue3 _) gm (mapV vInt rooms) rfl HVp.out.mr x1 rfl ?_; rw [if_neg (by decide), show (Value.int IntKind.i64 0) = vInt 0 from rfl, mapV_get]; dsimp only [vInt]) | ((with_reducible refine gate_ (op := .lookup 66 (.tmp 29) (.tmp 31) false) rfl ?_); (try (refine gate_guard (by rfl) ?_; dsimp only)); refine wpList_lookI _ rfl (.tmp 29) (.tmp 31) 66 false rfl 3 4 Try.underlying66 Try.underlying3 (Try.zeroValue4 _) gj (mapV vBool T) rfl HVp.out.mt x1 rfl ?_; rw [if_neg (by decide), show (Value.bool false) = vBool false from rfl, mapV_get, HT5.out]; dsimp only [vBool]))
  go_ret
  rw [HX.out]
  exact ⟨rfl, HVp.out.below, fun h => Bool.noConfusion h⟩
 | false =>
  have HX := mk_ (show partyOk rooms q T x0 x1 l2 = wantsOk rooms l2 by rw [HPO.out, decide_eq_true b4, b5]; simp)
  have HT5 := mk_ b5
  clear b3 b4 b5
  go_enter Try.func43, Try.ntmps43
  go_upto_region 3 with (first | ((with_reducible refine gate_dst (N := 4) rfl ?_); refine box_event ?hg (N := 4) ?hd (cs := #[.int .i64 x0, .int .i64 x1, .slice A2 l2.length c2]) (t := 46) ?hr ?_; (case hd => rfl); (case hg => rfl); (case hr => first | (go_simp; done) | (go_simp; rfl)); intro gp hg_P wp hbox_ hb_; have n0_ := mk_ (below_step HB0.out hb_); have BP := mk_ hbox_; have GP := mk_ (show w.heap.size ≤ gp by rw [hg_P]; exact below_size HB0.out); have EP := mk_ hg_P; have hcp0 : wp.cell? ⟨gp, 0, none⟩ = some (.int .i64 x0) := (blk_cell hbox_ 0).trans rfl; have hfp0 := blk_frozen hbox_ 0; have hcp1 : wp.cell? ⟨gp, 1, none⟩ = some (.int .i64 x1) := (blk_cell hbox_ 1).trans rfl; have hfp1 := blk_frozen hbox_ 1; have hcp2 : wp.cell? ⟨gp, 2, none⟩ = some (.slice A2 l2.length c2) := (blk_cell hbox_ 2).trans rfl; have hfp2 := blk_frozen hbox_ 2; have HVp := mk_ (HV.out.later hb_); have hcl0 := (blk_cell HVp.out.last 0).trans rfl; have hcr0 := (blk_cell HVp.out.rm 0).trans rfl; have hct0 := (blk_cell HVp.out.tk 0).trans rfl; clear HB0 hg_P hbox_ hb_; have HB0 := n0_; clear n0_) | ((with_reducible refine gate_ (op := .lookup 65 (.tmp 23) (.tmp 25) false) rfl ?_); (try (refine gate_guard (by rfl) ?_; dsimp only)); refine wpList_lookI _ rfl (.tmp 23) (.tmp 25) 65 false rfl 3 3 Try.underlying65 Try.underlying3 (Try.zeroValue3 _) gm (mapV vInt rooms) rfl HVp.out.mr x1 rfl ?_; rw [if_neg (by decide), show (Value.int IntKind.i64 0) = vInt 0 from rfl, mapV_get]; dsimp only [vInt]) | ((with_reducible refine gate_ (op := .lookup 66 (.tmp 29) (.tmp 31) false) rfl ?_); (try (refine gate_guard (by rfl) ?_; dsimp only)); refine wpList_lookI _ rfl (.tmp 29) (.tmp 31) 66 false rfl 3 4 Try.underlying66 Try.underlying3 (Try.zeroValue4 _) gj (mapV vBool T) rfl HVp.out.mt x1 rfl ?_; rw [if_neg (by decide), show (Value.bool false) = vBool false from rfl, mapV_get, HT5.out]; dsimp only [vBool]))
  have hfl0 := blk_frozen HVp.out.last 0
  refine start_ (n := 7) (S := fun w' => w'.cell? ⟨gt, 0, none⟩ = some (.map (some gj)) ∧ w'.cell? ⟨gp, 0, none⟩ = some (.int .i64 x0) ∧ w'.cell? ⟨gp, 1, none⟩ = some (.int .i64 x1)) (ds := [6]) #[n_, n_, n_, n_, n_, n_, n_] (by kernel_rfl) rfl rfl ⟨hct0, hcp0, hcp1⟩ (fun hHeld => ?_)
  refine pv_ 1 37 (w_ 7 2) rfl ?_
  refine pv_ 3 39 (w_ 7 10) rfl ?_
  refine tb_ 0 36 (w_ 7 11) rfl hHeld (by rintro w' ⟨s0, s1, s2⟩; go_simp; with_reducible rfl) ?_
  refine tb_ 2 38 (w_ 7 15) rfl hHeld (by rintro w' ⟨s0, s1, s2⟩; go_simp; with_reducible rfl) ?_
  refine tb_ 4 40 (w_ 7 31) rfl hHeld (by rintro w' ⟨s0, s1, s2⟩; go_simp; with_reducible rfl) ?_
  refine one_ (i := 5) (N := none) (w_ 7 63) rfl rfl (by kernel_rfl) (by decide) (fun K hK => ?_)
  obtain ⟨w11, hrun_, hm_, hg_⟩ := run_storeI (P := Try.prog) (t := 66) (kt := 3) (et := 4) HVp.out.mt.drew Try.underlying66 Try.underlying3 x1 (.bool true)
  have HM11 := mk_ hm_
  have HG11 := mk_ hg_
  refine skip_ (w1 := w11) (by rfl) rfl ?_ ?_
  ·go_simp
   try (first | (rw [hrun_]; done) | (rw [hrun_]; rfl) | rfl)
  clear hrun_ hm_ hg_
  have BT11 := mk_ (blk_grown (show wp.drew.heap[gt]? = _ from HVp.out.tk) HG11.out (HVp.out.mt.ne_blk HVp.out.tk))
  have BP11 := mk_ (blk_grown (show wp.drew.heap[gp]? = _ from BP.out) HG11.out (HVp.out.mt.ne_blk BP.out))
  have BL11 := mk_ (blk_grown (show wp.drew.heap[gl]? = _ from HVp.out.last) HG11.out (HVp.out.mt.ne_blk HVp.out.last))
  have hql0 := (blk_cell BL11.out 0).trans rfl
  have hqf0 := blk_frozen BL11.out 0
  refine hK.out _ _ ⟨(blk_cell BT11.out 0).trans rfl, (blk_cell BP11.out 0).trans rfl, (blk_cell BP11.out 1).trans rfl⟩ (fun hHeld => ?_)
  clear hK K
  refine last_ (i := 6) (N := none) (w_ 7 127) rfl rfl (by kernel_rfl) (by decide) (fun K hK => ?_)
  refine skip_ (w1 := ?_) (by rfl) rfl ?_ ?_
  rotate_left
  ·go_simp
   rfl
  refine hK.out _ _ ?_
  clear hK K
  refine done_ (by kernel_rfl) ?_
  go_upto_region 4 with (fail)
  obtain ⟨w12, hw12⟩ : ∃ w12, w12 = w11.setCell ⟨gl, 0, none⟩ (.int .i64 x0) := ⟨_, rfl⟩
  rw [← hw12]
  have HV12 := mk_ (show VS w0 w12 gl gr gt gm gj rooms x0 (upd T x1 true) by rw [hw12]; exact VS.taken (HVp.out.later (below_drew (Below.refl _ _))) HM11.out HG11.out)
  have BP12 := mk_ (show w12.heap[gp]? = some (.cells #[.int .i64 x0, .int .i64 x1, .slice A2 l2.length c2] 46 (0, 0)) by rw [hw12]; exact (Below.heap_setCell _ _ _ _ (blk_ne BP11.out BL11.out (by decide))).trans BP11.out)
  clear hcp0 hcp1 hcp2 hfp0 hfp1 hfp2 hcl0 hcr0 hct0 hfl0 hql0 hqf0 hHeld hw12
  have hcp2 : (w12.alloc (Obj.map #[] 0)).cell? ⟨gp, 2, none⟩ = some (.slice A2 l2.length c2) := (blk_cell (blk_below BP12.out (below_alloc (Below.refl _ _) _)) 2).trans rfl
  go_wp2
  obtain ⟨gs, hgs⟩ : ∃ gs, gs = w12.heap.size := ⟨_, rfl⟩
  obtain ⟨w13, hw13⟩ : ∃ w13, w13 = w12.alloc (Obj.map #[] 0) := ⟨_, rfl⟩
  rw [← hgs, ← hw13]
  have HV13 := mk_ (show VS w0 w13 gl gr gt gm gj rooms x0 (upd T x1 true) by rw [hw13]; exact HV12.out.later (below_alloc (Below.refl _ _) _))
  have HS13 := mk_ (show MapI w13 gs (mapV vBool (seenM l2 0)) by rw [hw13, hgs]; exact (MapI.made w12).none_ vBool)
  have HNE := mk_ (show gm ≠ gs ∧ gj ≠ gs ∧ w0.heap.size ≤ gs from ⟨by have := HV12.out.mr.lt; omega, by have := HV12.out.mt.lt; omega, by have := below_size HV12.out.below; omega⟩)
  have HCA := mk_ (Kd.C_below HR2.out HV13.out.below)
  clear hw13 hgs HV12 BP12 hcp2
  go_loopg [45] l2.length (fun kq v45 wr => ∃ (n : Nat), v45 = .int .i64 n ∧ Aside0 (kq + n = l2.length) ∧ Aside0 (∀ j, j < n → wantAt rooms l2 j = true) ∧ Aside0 (VS w0 wr gl gr gt gm gj rooms x0 (upd T x1 true)) ∧ Aside0 (MapI wr gs (mapV vBool (seenM l2 n))))
  case atStart => exact ⟨0, rfl, ⟨by omega⟩, ⟨fun j hj => absurd hj (by omega)⟩, HV13, HS13⟩
  case round =>
   clear HV13 HS13 HCA
   obtain ⟨n, rfl, HK, HA, HVR, HS⟩ := hrel
   by_cases hlt : n < l2.length
   rotate_left
   ·have d7 : decide ((n : Int) < (l2.length : Int)) = false := decide_eq_false (by omega)
    have d7' : decide (n < l2.length) = false := decide_eq_false hlt
    have hnl : n = l2.length := by have := HK.out; omega
    rw [hnl] at HA
    have HF := mk_ (wantsOk_true HA.out)
    clear hlt hnl
    go_wp2
    go_ret
    rw [HX.out, HF.out]
    exact ⟨rfl, HVR.out.below, fun _ => HVR.out⟩
   obtain ⟨i, hi⟩ : ∃ i : Int, i = (n : Int) := ⟨_, rfl⟩
   rw [← hi]
   have HI2 := mk_ (show 0 ≤ i ∧ i < l2.length ∧ i = (n : Int) from ⟨by omega, by omega, hi⟩)
   have d7 : decide (i < (l2.length : Int)) = true := decide_eq_true HI2.out.2.1
   have ci2 : (0 ≤ i) = True := eq_true HI2.out.1
   have ci3 : (i < l2.length) = True := eq_true HI2.out.2.1
   obtain ⟨adw, ew, hy0⟩ := Kd.at_int (Kd.C_below HR2.out HVR.out.below) i HI2.out.1 HI2.out.2.1
   subst ew
   obtain ⟨k, hk⟩ : ∃ k, k = rd l2 i := ⟨_, rfl⟩
   rw [← hk] at hy0
   have HKK := mk_ (show rd l2 (n : Int) = k by rw [hk, hi])
   have hz1 : i + 1 ≤ 9223372036854775807 := by have := HI2.out; have := HN.out; omega
   have hz2 : -9223372036854775808 ≤ i + 1 := by have := HI2.out; omega
   have HLT := mk_ hlt
   have HWA := mk_ (show wantAt rooms l2 n = (decide ((rooms k).getD 0 ≠ 0) && !(seenM l2 n k).getD false) by unfold wantAt; rw [HKK.out])
   have hcrr : wr.cell? ⟨gr, 0, none⟩ = some (.map (some gm)) := (blk_cell HVR.out.rm 0).trans rfl
   clear hi hlt hk
   by_cases c1 : (rooms k).getD 0 = 0
   ·have u1 : ((rooms k).getD 0 == 0) = true := beq_iff_eq.2 c1
    have HF := mk_ (wantsOk_false HLT.out (show wantAt rooms l2 n = false by rw [HWA.out, decide_eq_false (by simpa using c1)]; rfl))
    clear c1
    go_wp2_with (first | ((with_reducible refine gate_ (op := .lookup 65 (.tmp 49) (.tmp 50) false) rfl ?_); refine wpList_lookI _ rfl (.tmp 49) (.tmp 50) 65 false rfl 3 3 Try.underlying65 Try.underlying3 (Try.zeroValue3 _) gm (mapV vInt rooms) rfl HVR.out.mr k rfl ?_; rw [if_neg (by decide), show (Value.int IntKind.i64 0) = vInt 0 from rfl, mapV_get]; dsimp only [vInt]))
    go_ret
    rw [HX.out, HF.out]
    exact ⟨rfl, HVR.out.below, fun h => Bool.noConfusion h⟩
   have u1 : ((rooms k).getD 0 == 0) = false := beq_eq_false_iff_ne.2 c1
   cases c2 : (seenM l2 n k).getD false with
   | true =>
    have HF := mk_ (wantsOk_false HLT.out (show wantAt rooms l2 n = false by rw [HWA.out, c2]; simp))
    have HC2 := mk_ c2
    clear c1 c2
    go_wp2_with (first | ((with_reducible refine gate_ (op := .lookup 65 (.tmp 49) (.tmp 50) false) rfl ?_); refine wpList_lookI _ rfl (.tmp 49) (.tmp 50) 65 false rfl 3 3 Try.underlying65 Try.underlying3 (Try.zeroValue3 _) gm (mapV vInt rooms) rfl HVR.out.mr k rfl ?_; rw [if_neg (by decide), show (Value.int IntKind.i64 0) = vInt 0 from rfl, mapV_get]; dsimp only [vInt]) | ((with_reducible refine gate_ (op := .lookup 66 (.tmp 54) (.tmp 55) false) rfl ?_); (try (refine gate_guard (by rfl) ?_; dsimp only)); refine wpList_lookI _ rfl (.tmp 54) (.tmp 55) 66 false rfl 3 4 Try.underlying66 Try.underlying3 (Try.zeroValue4 _) gs (mapV vBool (seenM l2 n)) rfl HS.out k rfl ?_; rw [if_neg (by decide), show (Value.bool false) = vBool false from rfl, mapV_get, HC2.out]; dsimp only [vBool]))
    go_ret
    rw [HX.out, HF.out]
    exact ⟨rfl, HVR.out.below, fun h => Bool.noConfusion h⟩
   | false =>
    have HF := mk_ (show wantAt rooms l2 n = true by rw [HWA.out, c2, decide_eq_true c1]; rfl)
    have HC2 := mk_ c2
    clear c1 c2
    go_wp2_with (first | ((with_reducible refine gate_ (op := .lookup 65 (.tmp 49) (.tmp 50) false) rfl ?_); refine wpList_lookI _ rfl (.tmp 49) (.tmp 50) 65 false rfl 3 3 Try.underlying65 Try.underlying3 (Try.zeroValue3 _) gm (mapV vInt rooms) rfl HVR.out.mr k rfl ?_; rw [if_neg (by decide), show (Value.int IntKind.i64 0) = vInt 0 from rfl, mapV_get]; dsimp only [vInt]) | ((with_reducible refine gate_ (op := .lookup 66 (.tmp 54) (.tmp 55) false) rfl ?_); (try (refine gate_guard (by rfl) ?_; dsimp only)); refine wpList_lookI _ rfl (.tmp 54) (.tmp 55) 66 false rfl 3 4 Try.underlying66 Try.underlying3 (Try.zeroValue4 _) gs (mapV vBool (seenM l2 n)) rfl HS.out k rfl ?_; rw [if_neg (by decide), show (Value.bool false) = vBool false from rfl, mapV_get, HC2.out]; dsimp only [vBool]) | ((with_reducible refine gate_ (op := .mapUpdate 66 (.tmp 58) (.tmp 59) (.const (.bool true))) rfl ?_); refine wpList_storeI _ rfl (.tmp 58) (.tmp 59) (.const (.bool true)) 66 rfl 3 4 Try.underlying66 Try.underlying3 gs (mapV vBool (seenM l2 n)) rfl HS.out k rfl (.bool true) rfl ?_; intro w14 hm_ hg_; have HS14 := mk_ (show MapI w14 gs (mapV vBool (seenM l2 (n + 1))) from hm_.eq fun x => (mapV_set vBool (seenM l2 n) k true x).trans (by unfold seenM; rw [foldM_succ]; simp only [HKK.out])); have HV14 := mk_ (HVR.out.map HS.out HNE.out.1 HNE.out.2.1 HNE.out.2.2 hg_); clear hm_ hg_))
    go_roundg (gk - 1)
    case measure => have := HK.out; have := HLT.out; omega
    case rel =>
     refine ⟨n + 1, ?_, ⟨by have := HK.out; have := HLT.out; omega⟩, ⟨fun j hj => ?_⟩, HV14, HS14⟩
     ·have := HI2.out
      first | (rw [show ((n + 1 : Nat) : Int) = i + 1 from by omega]; done) | (simp; omega)
     ·by_cases e : j = n
      rotate_left
      ·exact HA.out j (by omega)
      rw [e]; exact HF.out
def lastP (l : List S46) (n : Nat) : Int := if n = 0 then 0 else (rd_T46 l ((n - 1 : Nat) : Int)).f0
theorem lastP_succ (l : List S46) (n : Nat) : lastP l (n + 1) = (rd_T46 l (n : Int)).f0 := by
 unfold lastP
 rw [if_neg (by omega)]
 rfl
def takenM (l : List S46) (n : Nat) : Int → Option Bool := foldM (fun j => (rd_T46 l (j : Int)).f1) (fun _ => true) n
def partyAt (fl : List S84) (l : List S46) (n : Nat) : Bool := partyOk (roomsM fl fl.length) (lastP l n) (takenM l n) (rd_T46 l (n : Int)).f0 (rd_T46 l (n : Int)).f1 (rd_T46 l (n : Int)).f2
def marketOk (fl : List S84) (l : List S46) : Bool := flatsOk fl && (List.range l.length).all (partyAt fl l)
theorem marketOk_flats {fl : List S84} (l : List S46) (h : flatsOk fl = false) : marketOk fl l = false := by unfold marketOk; rw [h]; rfl
theorem marketOk_false {fl : List S84} {l : List S46} {n : Nat} (hn : n < l.length) (h : partyAt fl l n = false) : marketOk fl l = false := by
 have : (List.range l.length).all (partyAt fl l) = false := by
  rw [List.all_eq_false]
  exact ⟨n, List.mem_range.2 hn, by simp [h]⟩
 unfold marketOk
 rw [this, Bool.and_false]
theorem marketOk_true {fl : List S84} {l : List S46} (hf : flatsOk fl = true) (h : ∀ j, j < l.length → partyAt fl l j = true) : marketOk fl l = true := by
 have : (List.range l.length).all (partyAt fl l) = true := by
  rw [List.all_eq_true]
  exact fun j hj => h j (List.mem_range.1 hj)
 unfold marketOk
 rw [this, hf]
 rfl
def fewM (fl : List S84) (l : List S46) : Bool := decide (fl.length ≤ 1000000000 ∧ l.length ≤ 1000000000) && l.all (fun p => decide (p.f2.length ≤ 1000000000000))
theorem fewM_at {fl : List S84} {l : List S46} (h : fewM fl l = true) : fl.length ≤ 1000000000 ∧ l.length ≤ 1000000000 ∧ ∀ i : Int, 0 ≤ i → i < l.length → (rd_T46 l i).f2.length ≤ 1000000000000 := by
 unfold fewM at h
 rw [Bool.and_eq_true, decide_eq_true_iff, List.all_eq_true] at h
 refine ⟨h.1.1, h.1.2, fun i h0 h1 => ?_⟩
 have h2 : i.toNat < l.length := by omega
 have := h.2 (l[i.toNat]'h2) (List.getElem_mem _)
 simpa [rd_T46, List.getD_eq_getElem?_getD, h2] using this
def market_Valid.f (l0_0 : List (S84)) (l0_1 : List (S46)) : Option Bool := if fewM l0_0 l0_1 = true then some (marketOk l0_0 l0_1) else none
set_option maxHeartbeats 8000000 in
set_option maxRecDepth 100000 in
theorem market_Valid.calls (A0 : Option Addr) (c0 : Nat) (l0 : List (S84)) (A1 : Option Addr) (c1 : Nat) (l1 : List (S46)) (r : Bool) (w : World) (hr0 : Kd.C k84 w A0 l0.length l0) (hc0 : l0.length ≤ c0) (hr1 : Kd.C k46 w A1 l1.length l1) (hc1 : l1.length ≤ c1) (h : market_Valid.f l0 l1 = some r) :
  Calls Try.prog 22 #[.agg #[.slice A0 l0.length c0, .slice A1 l1.length c1]] w fun e w' => e = .returned (.bool r) ∧ Below w.heap.size w w' := by
 have hu25 := Try.underlying25
 have hu46 := Try.underlying46
 have hu65 := Try.underlying65
 have hu66 := Try.underlying66
 unfold market_Valid.f at h
 by_cases hf : fewM l0 l1 = true
 case neg => rw [if_neg hf] at h; cases h
 rw [if_pos hf] at h
 have hr := Option.some.inj h
 subst hr
 clear h
 have HFW := mk_ (fewM_at hf)
 have HR0 := mk_ hr0
 have HC0 := mk_ hc0
 have HR1 := mk_ hr1
 have HC1 := mk_ hc1
 have HB := mk_ (Below.refl w.heap.size w)
 have hmm := @run_makeMap Try.prog
 clear hr0 hc0 hr1 hc1 hf
 cases hx : flatsOk l0 with
 | false =>
  have HX := mk_ hx
  have HY := mk_ (marketOk_flats l1 hx)
  clear hx
  go_enter Try.func22, Try.ntmps22
  go_wp2_with (first | ((with_reducible refine gate_dst (N := 1) rfl ?_); refine box_event ?hg (N := 1) ?hd (cs := #[.slice A0 l0.length c0, .slice A1 l1.length c1]) (t := 25) ?hr ?_; (case hd => rfl); (case hg => rfl); (case hr => first | (go_simp; done) | (go_simp; rfl)); intro gM hg_M w1 hbox_ hb_; have n0_ := mk_ (below_step HB.out hb_); have BM := mk_ hbox_; have GM := mk_ (show w.heap.size ≤ gM by rw [hg_M]; exact below_size HB.out); have EM := mk_ hg_M; have hcM0 : w1.cell? ⟨gM, 0, none⟩ = some (.slice A0 l0.length c0) := (blk_cell hbox_ 0).trans rfl; have hfM0 := blk_frozen hbox_ 0; have hcM1 : w1.cell? ⟨gM, 1, none⟩ = some (.slice A1 l1.length c1) := (blk_cell hbox_ 1).trans rfl; have hfM1 := blk_frozen hbox_ 1; have BMk := mk_ hbox_; clear HB hg_M hbox_ hb_; have HB := n0_; clear n0_) | (go_at_call 42; (with_reducible refine (flats_calls A0 c0 l0 _ (Kd.C_below HR0.out HB.out) HC0.out HFW.out.1).mono ?_); rw [HX.out]; rintro e w2 ⟨mv, rfl, hf_, hb_⟩; have n0_ := mk_ (below_step HB.out hb_); clear HB hb_ hf_; have HB := n0_; clear n0_) | ((with_reducible refine gate_dst (N := 3) rfl ?_); refine box_event ?hg (N := 3) ?hd (cs := #[.map none]) (t := 65) ?hr ?_; (case hd => rfl); (case hg => rfl); (case hr => first | (go_simp; done) | (go_simp; rfl)); intro gr hg_R w3 hbox_ hb_; have n0_ := mk_ (below_step HB.out hb_); have BR := mk_ hbox_; have GR := mk_ (show w.heap.size ≤ gr by rw [hg_R]; exact below_size HB.out); have ER := mk_ hg_R; have hcR0 : w3.cell? ⟨gr, 0, none⟩ = some (.map none) := (blk_cell hbox_ 0).trans rfl; have hfR0 := blk_frozen hbox_ 0; clear HB hg_R hbox_ hb_; have HB := n0_; clear n0_))
  go_ret
  rw [HY.out]
  exact ⟨rfl, below_set HB.out GR.out⟩
 | true =>
  have HX := mk_ hx
  clear hx
  go_enter Try.func22, Try.ntmps22
  go_upto_region 2 with (first | ((with_reducible refine gate_dst (N := 1) rfl ?_); refine box_event ?hg (N := 1) ?hd (cs := #[.slice A0 l0.length c0, .slice A1 l1.length c1]) (t := 25) ?hr ?_; (case hd => rfl); (case hg => rfl); (case hr => first | (go_simp; done) | (go_simp; rfl)); intro gM hg_M w1 hbox_ hb_; have n0_ := mk_ (below_step HB.out hb_); have BM := mk_ hbox_; have GM := mk_ (show w.heap.size ≤ gM by rw [hg_M]; exact below_size HB.out); have EM := mk_ hg_M; have hcM0 : w1.cell? ⟨gM, 0, none⟩ = some (.slice A0 l0.length c0) := (blk_cell hbox_ 0).trans rfl; have hfM0 := blk_frozen hbox_ 0; have hcM1 : w1.cell? ⟨gM, 1, none⟩ = some (.slice A1 l1.length c1) := (blk_cell hbox_ 1).trans rfl; have hfM1 := blk_frozen hbox_ 1; have BMk := mk_ hbox_; clear HB hg_M hbox_ hb_; have HB := n0_; clear n0_) | (go_at_call 42; (with_reducible refine (flats_calls A0 c0 l0 _ (Kd.C_below HR0.out HB.out) HC0.out HFW.out.1).mono ?_); rw [HX.out]; rintro e w2 ⟨mv, rfl, hf_, hb_⟩; obtain ⟨gm, rfl, hgm_, hm_⟩ := hf_ rfl; have HM := mk_ hm_; have BMk := mk_ (blk_below BMk.out hb_); replace hcM0 := cd_ hb_ hcM0; replace hcM1 := cd_ hb_ hcM1; have n0_ := mk_ (below_step HB.out hb_); clear HB hb_ hf_ hgm_ hm_; have HB := n0_; clear n0_) | ((with_reducible refine gate_dst (N := 3) rfl ?_); refine box_event ?hg (N := 3) ?hd (cs := #[.map none]) (t := 65) ?hr ?_; (case hd => rfl); (case hg => rfl); (case hr => first | (go_simp; done) | (go_simp; rfl)); intro gr hg_R w3 hbox_ hb_; have n0_ := mk_ (below_step HB.out hb_); have BR := mk_ hbox_; have GR := mk_ (show w.heap.size ≤ gr by rw [hg_R]; exact below_size HB.out); have ER := mk_ hg_R; have hcR0 : w3.cell? ⟨gr, 0, none⟩ = some (.map none) := (blk_cell hbox_ 0).trans rfl; have hfR0 := blk_frozen hbox_ 0; have HM := mk_ (HM.out.below hb_); have NMR := mk_ (show gM ≠ gr by have := blk_lt BMk.out; omega); have BMk := mk_ (blk_below BMk.out hb_); replace hcM0 := cd_ hb_ hcM0; replace hcM1 := cd_ hb_ hcM1; clear HB hg_R hbox_ hb_; have HB := n0_; clear n0_))
  obtain ⟨w4, hw4⟩ : ∃ w4, w4 = w3.setCell ⟨gr, 0, none⟩ (.map (some gm)) := ⟨_, rfl⟩
  rw [← hw4]
  have HB4 := mk_ (show Below w.heap.size w w4 by rw [hw4]; exact below_set HB.out GR.out)
  have BR4 := mk_ (show w4.heap[gr]? = some (.cells #[.map (some gm)] 65 (0, 0)) by rw [hw4]; exact blk_put BR.out 0 _ rfl)
  have HM4 := mk_ (show MapI w4 gm (mapV vInt (roomsM l0 l0.length)) by rw [hw4]; exact HM.out.move (Below.heap_setCell _ _ _ _ (fun e => HM.out.ne_blk BR.out (by rw [e]))))
  have BM4 := mk_ (show w4.heap[gM]? = some (.cells #[.slice A0 l0.length c0, .slice A1 l1.length c1] 25 (0, 0)) by rw [hw4]; exact (Below.heap_setCell _ _ _ _ NMR.out).trans BMk.out)
  clear hw4 HB HM BR BMk hcR0 hfR0 hcM0 hcM1
  go_upto_region 4 with (fail)
  have hb5 : Below w4.heap.size w4 (w4.alloc (Obj.map #[] 0)) := below_alloc (Below.refl _ _) _
  have HB := mk_ (below_step HB4.out hb5)
  have BR := mk_ (blk_below BR4.out hb5)
  have HM := mk_ (HM4.out.below hb5)
  have BMk := mk_ (blk_below BM4.out hb5)
  have HJ := mk_ (show MapI (w4.alloc (Obj.map #[] 0)) w4.heap.size (mapV vBool (takenM l1 0)) from (MapI.made w4).none_ vBool)
  have HNE0 := mk_ (show gm ≠ w4.heap.size ∧ w.heap.size ≤ w4.heap.size from ⟨by have := HM4.out.lt; omega, below_size HB4.out⟩)
  clear HB4 BR4 HM4 BM4 hb5
  go_upto_region 5 with (first | ((with_reducible refine gate_dst (N := 5) rfl ?_); refine box_event ?hg (N := 5) ?hd (cs := #[.map none]) (t := 66) ?hr ?_; (case hd => rfl); (case hg => rfl); (case hr => first | (go_simp; done) | (go_simp; rfl)); intro gt hg_T w6 hbox_ hb_; have n0_ := mk_ (below_step HB.out hb_); have BT := mk_ hbox_; have GT := mk_ (show w.heap.size ≤ gt by rw [hg_T]; exact below_size HB.out); have ET := mk_ hg_T; have hcT0 : w6.cell? ⟨gt, 0, none⟩ = some (.map none) := (blk_cell hbox_ 0).trans rfl; have hfT0 := blk_frozen hbox_ 0; have HM := mk_ (HM.out.below hb_); have HJ := mk_ (HJ.out.below hb_); have BR := mk_ (blk_below BR.out hb_); have BMk := mk_ (blk_below BMk.out hb_); clear HB hg_T hbox_ hb_; have HB := n0_; clear n0_) | ((with_reducible refine gate_dst (N := 6) rfl ?_); refine box_event ?hg (N := 6) ?hd (cs := #[.int .i64 0]) (t := 3) ?hr ?_; (case hd => rfl); (case hg => rfl); (case hr => first | (go_simp; done) | (go_simp; rfl)); intro gl hg_L w7 hbox_ hb_; have n0_ := mk_ (below_step HB.out hb_); have BL := mk_ hbox_; have GL := mk_ (show w.heap.size ≤ gl by rw [hg_L]; exact below_size HB.out); have EL := mk_ hg_L; have hcL0 : w7.cell? ⟨gl, 0, none⟩ = some (.int .i64 0) := (blk_cell hbox_ 0).trans rfl; have hfL0 := blk_frozen hbox_ 0; have HM := mk_ (HM.out.below hb_); have HJ := mk_ (HJ.out.below hb_); have BR := mk_ (blk_below BR.out hb_); have BMk := mk_ (blk_below BMk.out hb_); have BT := mk_ (blk_below BT.out hb_); replace hcT0 := cd_ hb_ hcT0; replace hfT0 := blk_frozen BT.out 0; have hne1_ : (gt = gl) = False := eq_false (by have := blk_lt BT.out; have := blk_ne BT.out hbox_ (by decide); exact this); have hne2_ : (gl = gt) = False := eq_false (fun e => by have := blk_ne BT.out hbox_ (by decide); exact this e.symm); clear HB hg_L hbox_ hb_; have HB := n0_; clear n0_))
  obtain ⟨gj, hgj⟩ : ∃ gj, gj = w4.heap.size := ⟨_, rfl⟩
  rw [← hgj]
  obtain ⟨w8, hw8⟩ : ∃ w8, w8 = (w7.setCell ⟨gt, 0, none⟩ (.map (some gj))).setCell ⟨gl, 0, none⟩ (.int .i64 0) := ⟨_, rfl⟩
  rw [← hw8]
  have HV8 := mk_ (show VS w w8 gl gr gt gm gj (roomsM l0 l0.length) (lastP l1 0) (takenM l1 0) by
   have HJ' := HJ.out
   have hne := HNE0.out
   rw [← hgj] at HJ' hne
   have far : ∀ {g t : Nat} {cs : Array Value}, w7.heap[g]? = some (.cells cs t (0, 0)) → g ≠ gt → g ≠ gl → w8.heap[g]? = some (.cells cs t (0, 0)) := fun h h1 h2 => by
    rw [hw8]
    exact (Below.heap_setCell _ _ _ _ h2).trans ((Below.heap_setCell _ _ _ _ h1).trans h)
   have m8 : ∀ {b : Nat} {m : Int → Option Value}, MapI w7 b m → MapI w8 b m := fun {b m} h => by
    rw [hw8]
    refine (h.move (Below.heap_setCell w7 ⟨gt, 0, none⟩ (.map (some gj)) b (fun e => h.ne_blk BT.out (by rw [e])))).move (Below.heap_setCell _ ⟨gl, 0, none⟩ _ b (fun e => h.ne_blk BL.out (by rw [e])))
   refine ⟨?_, far BR.out (fun e => by have := blk_ne BR.out BT.out (by decide); exact this e) (fun e => by have := blk_ne BR.out BL.out (by decide); exact this e), ?_, m8 HM.out, m8 HJ', hne.1, ⟨GL.out, hne.2⟩, ?_⟩
   ·rw [hw8]
    exact blk_put ((Below.heap_setCell _ _ _ _ (fun e => by have := blk_ne BL.out BT.out (by decide); exact this e)).trans BL.out) 0 _ rfl
   ·rw [hw8]
    exact (Below.heap_setCell _ _ _ _ (fun e => by have := blk_ne BL.out BT.out (by decide); exact this e.symm)).trans (blk_put BT.out 0 _ rfl)
   ·rw [hw8]
    exact below_set (below_set HB.out GT.out) GL.out)
  have BM8 := mk_ (show w8.heap[gM]? = some (.cells #[.slice A0 l0.length c0, .slice A1 l1.length c1] 25 (0, 0)) by
   rw [hw8]
   exact (Below.heap_setCell _ _ _ _ (fun e => by have := blk_ne BMk.out BL.out (by decide); exact this e)).trans ((Below.heap_setCell _ _ _ _ (fun e => by have := blk_ne BMk.out BT.out (by decide); exact this e)).trans BMk.out))
  have hcM1 := bc1_ BM8.out
  clear hw8 hgj HB HM BR BMk HJ BT BL HNE0 GT GL
  go_wp2
  go_loopg [23] l1.length (fun kq v23 wr => ∃ (n : Nat), v23 = .int .i64 n ∧ Aside0 (kq + n = l1.length) ∧ Aside0 (∀ j, j < n → partyAt l0 l1 j = true) ∧ Aside0 (VS w wr gl gr gt gm gj (roomsM l0 l0.length) (lastP l1 n) (takenM l1 n)))
  case atStart => exact ⟨0, rfl, ⟨by omega⟩, ⟨fun j hj => absurd hj (by omega)⟩, HV8⟩
  case round =>
   clear HV8 hcM1 BM8
   obtain ⟨n, rfl, HK, HA, HVR⟩ := hrel
   by_cases hlt : n < l1.length
   rotate_left
   ·have d7 : decide ((n : Int) < (l1.length : Int)) = false := decide_eq_false (by omega)
    have d7' : decide (n < l1.length) = false := decide_eq_false hlt
    have hnl : n = l1.length := by have := HK.out; omega
    rw [hnl] at HA
    have HQ := mk_ (marketOk_true HX.out HA.out)
    clear hlt hnl
    go_wp2
    go_ret
    rw [HQ.out]
    exact ⟨rfl, HVR.out.below⟩
   obtain ⟨i, hi⟩ : ∃ i : Int, i = (n : Int) := ⟨_, rfl⟩
   rw [← hi]
   have HI2 := mk_ (show 0 ≤ i ∧ i < l1.length ∧ i = (n : Int) from ⟨by omega, by omega, hi⟩)
   have d7 : decide (i < (l1.length : Int)) = true := decide_eq_true HI2.out.2.1
   have ci2 : (0 ≤ i) = True := eq_true HI2.out.1
   have ci3 : (i < l1.length) = True := eq_true HI2.out.2.1
   obtain ⟨adp, Ap, cp, ep, hx0, hx1, hx2, hpc, hpC⟩ := at_T46 HR1.out i HI2.out.1 HI2.out.2.1
   subst ep
   obtain ⟨p, hp⟩ : ∃ p, p = rd_T46 l1 i := ⟨_, rfl⟩
   have HPL := mk_ (show p.f2.length ≤ 1000000000000 by rw [hp]; exact HFW.out.2.2 i HI2.out.1 HI2.out.2.1)
   rw [← hp] at hx0 hx1 hx2 hpc hpC
   have HPC := mk_ (And.intro hpc hpC)
   replace hx0 := (HVR.out.below.cell (World.block_lt_of_cell? _ _ hx0)).trans hx0
   replace hx1 := (HVR.out.below.cell (World.block_lt_of_cell? _ _ hx1)).trans hx1
   replace hx2 := (HVR.out.below.cell (World.block_lt_of_cell? _ _ hx2)).trans hx2
   have HP := mk_ (show rd_T46 l1 (n : Int) = p by rw [hp, hi])
   have hz1 : i + 1 ≤ 9223372036854775807 := by have := HI2.out; have := HFW.out.2.1; omega
   have hz2 : -9223372036854775808 ≤ i + 1 := by have := HI2.out; omega
   have HLT := mk_ hlt
   have HPA := mk_ (show partyAt l0 l1 n = partyOk (roomsM l0 l0.length) (lastP l1 n) (takenM l1 n) p.f0 p.f1 p.f2 by unfold partyAt; rw [HP.out])
   clear hi hlt hp hpc hpC
   have HB0 := mk_ (Below.refl wr.heap.size wr)
   go_upto_region 9 with (first | ((with_reducible refine gate_dst (N := 9) rfl ?_); refine box_event ?hg (N := 9) ?hd (cs := #[.int .i64 0, .int .i64 0, .slice none 0 0]) (t := 46) ?hr ?_; (case hd => rfl); (case hg => rfl); (case hr => first | (go_simp; done) | (go_simp; rfl)); intro gp hg_P w9 hbox_ hb_; have n0_ := mk_ (below_step HB0.out hb_); have BP := mk_ hbox_; have GP := mk_ (show wr.heap.size ≤ gp by rw [hg_P]; exact below_size HB0.out); have EP := mk_ hg_P; have hcp0 : w9.cell? ⟨gp, 0, none⟩ = some (.int .i64 0) := (blk_cell hbox_ 0).trans rfl; have hfp0 := blk_frozen hbox_ 0; have hcp1 : w9.cell? ⟨gp, 1, none⟩ = some (.int .i64 0) := (blk_cell hbox_ 1).trans rfl; have hfp1 := blk_frozen hbox_ 1; have hcp2 : w9.cell? ⟨gp, 2, none⟩ = some (.slice none 0 0) := (blk_cell hbox_ 2).trans rfl; have hfp2 := blk_frozen hbox_ 2; replace hx0 := cd_ hb_ hx0; replace hx1 := cd_ hb_ hx1; replace hx2 := cd_ hb_ hx2; clear HB0 hg_P hbox_ hb_; have HB0 := n0_; clear n0_))
   obtain ⟨w10, hw10⟩ : ∃ w10, w10 = ((w9.setCell ⟨gp, 0, none⟩ (.int .i64 p.f0)).setCell ⟨gp, 1, none⟩ (.int .i64 p.f1)).setCell ⟨gp, 2, none⟩ (.slice Ap p.f2.length cp) := ⟨_, rfl⟩
   rw [← hw10]
   have BP10 := mk_ (show w10.heap[gp]? = some (.cells #[.int .i64 p.f0, .int .i64 p.f1, .slice Ap p.f2.length cp] 46 (0, 0)) by rw [hw10]; exact blk_put3 BP.out _ _ _)
   have HV10 := mk_ (HVR.out.later (show Below wr.heap.size wr w10 by rw [hw10]; exact below_put3 HB0.out GP.out _ _ _))
   clear hw10 BP HB0 hcp0 hcp1 hcp2 hfp0 hfp1 hfp2 hx0 hx1 hx2
   have hcp0 := bc0_ BP10.out
   have hcp1 := bc1_ BP10.out
   have hcp2 := bc2_ BP10.out
   cases hb : partyAt l0 l1 n with
   | false =>
    have HQ := mk_ (marketOk_false HLT.out hb)
    rw [HPA.out] at hb
    have HPB := mk_ hb
    clear hb
    go_wp2_with (first | ((with_reducible refine (valid1_calls w _ p.f0 p.f1 Ap cp p.f2 gl gr gt gm gj (roomsM l0 l0.length) (lastP l1 n) (takenM l1 n) HPC.out.2 HPC.out.1 HPL.out HV10.out).mono ?_); rw [HPB.out]; rintro e w11 ⟨rfl, hb_, hv_⟩; have HB11 := mk_ hb_; have HV11 := mk_ hv_; clear hb_ hv_))
    go_ret
    rw [HQ.out]
    exact ⟨rfl, HB11.out⟩
   | true =>
    have HQ := mk_ hb
    rw [HPA.out] at hb
    have HPB := mk_ hb
    clear hb
    go_wp2_with (first | ((with_reducible refine (valid1_calls w _ p.f0 p.f1 Ap cp p.f2 gl gr gt gm gj (roomsM l0 l0.length) (lastP l1 n) (takenM l1 n) HPC.out.2 HPC.out.1 HPL.out HV10.out).mono ?_); rw [HPB.out]; rintro e w11 ⟨rfl, hb_, hv_⟩; have HB11 := mk_ hb_; have HV11 := mk_ hv_; clear hb_ hv_))
    go_roundg (gk - 1)
    case measure => have := HK.out; have := HLT.out; omega
    case rel =>
     refine ⟨n + 1, ?_, ⟨by have := HK.out; have := HLT.out; omega⟩, ⟨fun j hj => ?_⟩, ⟨?_⟩⟩
     ·have := HI2.out
      first | (rw [show ((n + 1 : Nat) : Int) = i + 1 from by omega]; done) | (simp; omega)
     ·by_cases e : j = n
      rotate_left
      ·exact HA.out j (by omega)
      rw [e]; exact HQ.out
     ·have h1 := HV11.out (by trivial)
      rw [lastP_succ, HP.out]
      unfold takenM
      rw [foldM_succ]
      simp only [HP.out]
      exact h1
end Go.Proofs.Ytocbiggglnpeoaa.M
end
