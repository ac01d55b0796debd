/- LeakSmallest, as stated: it returns true for every input, and changes none of its arguments. -/
import Derived.Test.YtolmjhpapidmhaaRows
import Derived.Test.YtolmjhpapidmhaaCLQa
namespace Go.Proofs.Ytolmjhpapidmhaa.leakSmallest
open Go.ChangeShapes Go.WideShapes Go.ChangeAt Go.RowKit Go.Proofs.YtolmjhpapidmhaaH Go.Proofs.Ytolmjhpapidmhaa.P Go.Proofs.YtolmjhpapidmhaaW.PrintWords
open Go.ChangeMaps (open_string shut_string)
set_option linter.unusedVariables false
theorem opens44 : Opens Try.prog k44 44 := Opens.iso _ (fun a => ⟨a.1, a.2.1, a.2.2⟩) (fun _ => rfl) (Opens.struct Try.underlying44 (Segs.cons (Opens.int Try.underlying3) (by rfl) (by kernel_rfl) (Segs.cons (Opens.int Try.underlying3) (by rfl) (by kernel_rfl) (Segs.one (Opens.int Try.underlying3) (by rfl) (by kernel_rfl)))))
theorem opens46 : Opens Try.prog k46 46 := Opens.iso _ (fun a => ⟨a.1, a.2⟩) (fun _ => rfl) (Opens.struct Try.underlying46 (Segs.cons (Opens.int Try.underlying3) (by rfl) (by kernel_rfl) (Segs.one (Opens.int Try.underlying3) (by rfl) (by kernel_rfl))))
theorem own : ownKnob Try.prog.godebug = none := by kernel_rfl
theorem laidOut : laidOutB Try.prog = true := by kernel_rfl
theorem rng_u8 {n : Int} (h : (Lit.int .u8 n).wf = true) : 0 ≤ n ∧ n ≤ 255 := by simp [Lit.wf, IntKind.min, IntKind.max, IntKind.signed, IntKind.bits] at h ⊢ <;> omega
set_option maxRecDepth 100000 in
theorem lifted (os : Os) (started : os.Started) (H : Type) (enc : TypeId × Value → H) :
    ReturnsInHanded {} Try.checked os 5 .any (Rows.leakSmallestSpec.pre6 enc Try.prog Try.f5 Rows.leakSmallestRow.domain false) (Rows.leakSmallestSpec.post enc Try.prog Try.f5 false true false false) := by
  refine returnsInHanded_of_change_sized (C := Try.checked) own started (by kernel_rfl) Try.func5
    (ChangeSpec.witness6 (enc := enc) (C := Try.checked) false ⟨#[], #[.slice none 0 0, .slice none 0 0, .int .i64 0, .agg #[.int .u8 0, .int .u8 0, .int .u8 0]], []⟩ 8 (by kernel_rfl) (by kernel_rfl) (by kernel_rfl) (by kernel_rfl)) ?_
  intro W base args ds gs before hval0 hW hcnd hsz0 _
  have hsz : (DataW.weightsEach Try.prog (Try.f5.params.toList ++ Rows.leakSmallestSpec.plain.varTypes Try.prog) (ds ++ gs)).all (· ≤ reachBytes) = true := hsz0
  have hval : ∀ (j : Nat) t v, Try.f5.params[j]? = some t → args[j]? = some v → Value.okWide Try.prog W .any base t v := hval0
  have hW' := hW
  obtain ⟨p, q, hA0, hV, rfl, hfz, hnd⟩ := hW
  have hA : DataW.TrodAll enc Try.prog W 0 (fun _ => true) true Try.f5.params.toList args.toList ds p := hA0
  rw [Try.params5] at hA hval hsz
  obtain ⟨v0, vs0, d0, ds0, p0, q0, hargs, rfl, rfl, h0, r0⟩ := trodAll_cons hA
  obtain ⟨v1, vs1, d1, ds1, p1, q1, rfl, rfl, rfl, h1, r1⟩ := trodAll_cons r0
  obtain ⟨v2, vs2, d2, ds2, p2, q2, rfl, rfl, rfl, h2, r2⟩ := trodAll_cons r1
  obtain ⟨v3, vs3, d3, ds3, p3, q3, rfl, rfl, rfl, h3, r3⟩ := trodAll_cons r2
  obtain ⟨rfl, rfl, rfl⟩ := trodAll_nil r3
  obtain rfl : args = #[v0, v1, v2, v3] := by cases args; simp_all
  obtain ⟨rfl, rfl⟩ := trodVars_none hV
  obtain ⟨a0, len0, cap0, rfl⟩ := okWide_slice Try.underlying22 (hval 0 22 v0 rfl rfl)
  have k0 := h0
  have lt0 : ∀ x ∈ p0, x.block < W.heap.size := by obtain ⟨m, hm⟩ := k0; exact DataW.trod_lt m _ _ _ hm
  have y0 : len0 * 24 ≤ 140737488351232 := sized_arg hsz (j := 0) (t := 22) rfl rfl Try.underlying22 (by kernel_rfl) h0
  obtain ⟨z0, e0, c0, w0⟩ := open_arg (d := k44) Try.underlying22 (by kernel_rfl) opens44 h0
  subst e0
  obtain ⟨a1, len1, cap1, rfl⟩ := okWide_slice Try.underlying23 (hval 1 23 v1 rfl rfl)
  have k1 := h1
  have lt1 : ∀ x ∈ p1, x.block < W.heap.size := by obtain ⟨m, hm⟩ := k1; exact DataW.trod_lt m _ _ _ hm
  have y1 : len1 * 16 ≤ 140737488351232 := sized_arg hsz (j := 1) (t := 23) rfl rfl Try.underlying23 (by kernel_rfl) h1
  obtain ⟨z1, e1, c1, w1⟩ := open_arg (d := k46) Try.underlying23 (by kernel_rfl) opens46 h1
  subst e1
  obtain ⟨a2, rfl, rfl, rfl, w2⟩ := open_int Try.underlying3 (hval 2 3 v2 rfl rfl) h2
  have k3 := h3
  have lt3 : ∀ x ∈ p3, x.block < W.heap.size := by obtain ⟨m, hm⟩ := k3; exact DataW.trod_lt m _ _ _ hm
  obtain ⟨b30, b31, b32, rfl, g30, g31, g32⟩ := open_arr3 Try.underlying35 Try.underlying5 (by kernel_rfl) (by kernel_rfl) (hval 3 35 v3 rfl rfl) h3
  clear hA0 hval0 hsz0 hsz
  obtain ⟨k, hk⟩ := smallest_ z0 z1 (by omega) (by omega) a2 b30 b31 b32
  refine (cohousinglaw30_LeakSmallest.calls k a0 cap0 z0 a1 cap1 z1 a2 b30 b31 b32 true W w0 c0 w1 c1 (hk k (Nat.le_refl _))).mono fun e W' ⟨he, bel⟩ => ?_
  subst he
  exact ⟨_, rfl, _, _, _, [], _, [], hW', trodAll_mk1 (shut_bool Try.underlying4 _), (trodAll_cons_mk (Below.trod laidOut (by kernel_rfl) (of_decide_eq_true (by kernel_rfl)) k0 bel lt0) (trodAll_cons_mk (Below.trod laidOut (by kernel_rfl) (of_decide_eq_true (by kernel_rfl)) k1 bel lt1) (trodAll_cons_mk (shut_int Try.underlying3 w2) (trodAll_cons_mk (Below.trod laidOut (by kernel_rfl) (of_decide_eq_true (by kernel_rfl)) k3 bel lt3) trodAll_mk0)))), rfl, bel.frame _, fun h => by cases h⟩
theorem over : Rows.leakSmallestRow.holds Try.pinned (OpenSpec.ofChange Rows.leakSmallestSpec) :=
  OpenClaim.holds_of_wide 5 Try.f5 rfl rfl rfl rfl rfl rfl rfl ⟨rfl, rfl, rfl, rfl, rfl⟩ rfl rfl rfl rfl rfl (by kernel_rfl) Try.func5 (by kernel_rfl)
    (of_decide_eq_true (by kernel_rfl)) (by unfold Func.isWrapper; first | (rw [if_pos (by decide +kernel)]; kernel_rfl) | (rw [if_neg (by decide +kernel)]; exact ⟨rfl, rfl⟩))
    (fun os started H enc _ => lifted os started H enc)
theorem proved : Rows.LeakSmallestSaid := over
end Go.Proofs.Ytolmjhpapidmhaa.leakSmallest
namespace Go.Proofs.Ytolmjhpapidmhaa

theorem leakSmallest_holds : Rows.LeakSmallestSaid := leakSmallest.proved
end Go.Proofs.Ytolmjhpapidmhaa
#print axioms Go.Proofs.Ytolmjhpapidmhaa.leakSmallest_holds
