/- ChainMatchesReference, as stated: it returns true for every input, and changes none of its arguments. -/
import Derived.Test.YtocbiggglnpeoaaRows
import Derived.Test.YtocbiggglnpeoaaCMMa
namespace Go.Proofs.Ytocbiggglnpeoaa.chainMatchesReference
open Go.ChangeShapes Go.WideShapes Go.ChangeAt Go.RowKit Go.Proofs.YtocbiggglnpeoaaH Go.Proofs.Ytocbiggglnpeoaa.M Go.Proofs.YtocbiggglnpeoaaW.PrintWords
open Go.ChangeMaps (open_string shut_string)
set_option linter.unusedVariables false
theorem opens84 : Opens Try.prog k84 84 := Opens.iso _ (fun a => ⟨a.1, a.2⟩) (fun _ => rfl) (Opens.struct Try.underlying84 (Segs.cons (Opens.int Try.underlying3) (by rfl) (by kernel_rfl) (Segs.one (Opens.int Try.underlying3) (by rfl) (by kernel_rfl))))
theorem opens46 : Opens Try.prog k46 46 := Opens.iso _ (fun a => ⟨a.1, a.2.1, a.2.2⟩) (fun _ => rfl) (Opens.struct Try.underlying46 (Segs.cons (Opens.int Try.underlying3) (by rfl) (by kernel_rfl) (Segs.cons (Opens.int Try.underlying3) (by rfl) (by kernel_rfl) (Segs.one (Opens.slice Try.underlying29 (by kernel_rfl) (Opens.int Try.underlying3)) (by rfl) (by kernel_rfl)))))
theorem opens51 : Opens Try.prog k51 51 := Opens.iso _ (fun a => ⟨a.1, a.2.1, a.2.2⟩) (fun _ => rfl) (Opens.struct Try.underlying51 (Segs.cons (Opens.int Try.underlying3) (by rfl) (by kernel_rfl) (Segs.cons (Opens.int Try.underlying3) (by rfl) (by kernel_rfl) (Segs.one (Opens.int Try.underlying3) (by rfl) (by kernel_rfl)))))
theorem opens49 : Opens Try.prog k49 49 := Opens.iso _ (fun a => ⟨a.1, a.2⟩) (fun _ => rfl) (Opens.struct Try.underlying49 (Segs.cons (Opens.bool Try.underlying4) (by rfl) (by kernel_rfl) (Segs.one (Opens.slice Try.underlying28 (by kernel_rfl) opens51) (by rfl) (by kernel_rfl))))
theorem opens55 : Opens Try.prog k55 55 := Opens.iso _ (fun a => ⟨a.1, a.2.1, a.2.2⟩) (fun _ => rfl) (Opens.struct Try.underlying55 (Segs.cons (Opens.int Try.underlying3) (by rfl) (by kernel_rfl) (Segs.cons (Opens.int Try.underlying3) (by rfl) (by kernel_rfl) (Segs.one (Opens.int Try.underlying3) (by rfl) (by kernel_rfl)))))
theorem own : ownKnob Try.prog.godebug = none := by kernel_rfl
theorem laidOut : laidOutB Try.prog = true := by kernel_rfl
set_option maxRecDepth 100000 in
theorem lifted (os : Os) (started : os.Started) (H : Type) (enc : TypeId × Value → H) :
    ReturnsInHanded {} Try.checked os 3 .any (Rows.chainMatchesReferenceSpec.pre6 enc Try.prog Try.f3 Rows.chainMatchesReferenceRow.domain false) (Rows.chainMatchesReferenceSpec.post enc Try.prog Try.f3 false true false false) := by
  refine returnsInHanded_of_change_sized (C := Try.checked) own started (by kernel_rfl) Try.func3
    (ChangeSpec.witness6 (enc := enc) (C := Try.checked) false ⟨#[], #[.agg #[.slice none 0 0, .slice none 0 0], .slice none 0 0, .int .i64 0, .slice none 0 0, .slice none 0 0, .slice none 0 0], []⟩ 8 (by kernel_rfl) (by kernel_rfl) (by kernel_rfl) (by kernel_rfl)) ?_
  intro W base args ds gs before hval0 hW hcnd hsz0 _
  have hsz : (DataW.weightsEach Try.prog (Try.f3.params.toList ++ Rows.chainMatchesReferenceSpec.plain.varTypes Try.prog) (ds ++ gs)).all (· ≤ reachBytes) = true := hsz0
  have hval : ∀ (j : Nat) t v, Try.f3.params[j]? = some t → args[j]? = some v → Value.okWide Try.prog W .any base t v := hval0
  have hW' := hW
  obtain ⟨p, q, hA0, hV, rfl, hfz, hnd⟩ := hW
  have hA : DataW.TrodAll enc Try.prog W 0 (fun _ => true) true Try.f3.params.toList args.toList ds p := hA0
  rw [Try.params3] at hA hval hsz
  obtain ⟨v0, vs0, d0, ds0, p0, q0, hargs, rfl, rfl, h0, r0⟩ := trodAll_cons hA
  obtain ⟨v1, vs1, d1, ds1, p1, q1, rfl, rfl, rfl, h1, r1⟩ := trodAll_cons r0
  obtain ⟨v2, vs2, d2, ds2, p2, q2, rfl, rfl, rfl, h2, r2⟩ := trodAll_cons r1
  obtain ⟨v3, vs3, d3, ds3, p3, q3, rfl, rfl, rfl, h3, r3⟩ := trodAll_cons r2
  obtain ⟨v4, vs4, d4, ds4, p4, q4, rfl, rfl, rfl, h4, r4⟩ := trodAll_cons r3
  obtain ⟨v5, vs5, d5, ds5, p5, q5, rfl, rfl, rfl, h5, r5⟩ := trodAll_cons r4
  obtain ⟨rfl, rfl, rfl⟩ := trodAll_nil r5
  obtain rfl : args = #[v0, v1, v2, v3, v4, v5] := by cases args; simp_all
  obtain ⟨rfl, rfl⟩ := trodVars_none hV
  have k0 := h0
  have lt0 : ∀ x ∈ p0, x.block < W.heap.size := by obtain ⟨m, hm⟩ := k0; exact DataW.trod_lt m _ _ _ hm
  obtain ⟨a0, cap0, b0, cbp0, z0, y0, rfl, w0, c0, wb0, cb0⟩ := open_two_rows (d := k84) (d' := k46) Try.underlying25 (Opens.struct Try.underlying25 (Segs.cons (Opens.slice Try.underlying22 (by kernel_rfl) opens84) (by rfl) (by kernel_rfl) (Segs.one (Opens.slice Try.underlying23 (by kernel_rfl) opens46) (by rfl) (by kernel_rfl)))) (hval 0 25 v0 rfl rfl) h0
  obtain ⟨a1, len1, cap1, rfl⟩ := okWide_slice Try.underlying26 (hval 1 26 v1 rfl rfl)
  have k1 := h1
  have lt1 : ∀ x ∈ p1, x.block < W.heap.size := by obtain ⟨m, hm⟩ := k1; exact DataW.trod_lt m _ _ _ hm
  have y1 : len1 * 32 ≤ 140737488351232 := sized_arg hsz (j := 1) (t := 26) rfl rfl Try.underlying26 (by kernel_rfl) h1
  obtain ⟨z1, e1, c1, w1⟩ := open_arg (d := k49) Try.underlying26 (by kernel_rfl) opens49 h1
  subst e1
  obtain ⟨a2, rfl, rfl, rfl, w2⟩ := open_int Try.underlying3 (hval 2 3 v2 rfl rfl) h2
  obtain ⟨a3, len3, cap3, rfl⟩ := okWide_slice Try.underlying27 (hval 3 27 v3 rfl rfl)
  have k3 := h3
  have lt3 : ∀ x ∈ p3, x.block < W.heap.size := by obtain ⟨m, hm⟩ := k3; exact DataW.trod_lt m _ _ _ hm
  have y3 : len3 * 24 ≤ 140737488351232 := sized_arg hsz (j := 3) (t := 27) rfl rfl Try.underlying27 (by kernel_rfl) h3
  obtain ⟨z3, e3, c3, w3⟩ := open_arg (d := k55) Try.underlying27 (by kernel_rfl) opens55 h3
  subst e3
  obtain ⟨a4, len4, cap4, rfl⟩ := okWide_slice Try.underlying28 (hval 4 28 v4 rfl rfl)
  have k4 := h4
  have lt4 : ∀ x ∈ p4, x.block < W.heap.size := by obtain ⟨m, hm⟩ := k4; exact DataW.trod_lt m _ _ _ hm
  have y4 : len4 * 24 ≤ 140737488351232 := sized_arg hsz (j := 4) (t := 28) rfl rfl Try.underlying28 (by kernel_rfl) h4
  obtain ⟨z4, e4, c4, w4⟩ := open_arg (d := k51) Try.underlying28 (by kernel_rfl) opens51 h4
  subst e4
  obtain ⟨a5, len5, cap5, rfl⟩ := okWide_slice Try.underlying29 (hval 5 29 v5 rfl rfl)
  have k5 := h5
  have lt5 : ∀ x ∈ p5, x.block < W.heap.size := by obtain ⟨m, hm⟩ := k5; exact DataW.trod_lt m _ _ _ hm
  have y5 : len5 * 8 ≤ 140737488351232 := sized_arg hsz (j := 5) (t := 29) rfl rfl Try.underlying29 (by kernel_rfl) h5
  obtain ⟨z5, e5, c5, w5⟩ := open_arg (d := (Kd.int .i64)) Try.underlying29 (by kernel_rfl) (Opens.int Try.underlying3) h5
  subst e5
  clear hA0 hval0 hsz0 hsz
  obtain ⟨k, hk⟩ := matches26_ z0 y0 z1 a2 z3 z4 z5
  refine (cohousinglaw26_ChainMatchesReference.calls k a0 cap0 z0 b0 cbp0 y0 a1 cap1 z1 a2 a3 cap3 z3 a4 cap4 z4 a5 cap5 z5 true W w0 c0 wb0 cb0 w1 c1 w3 c3 w4 c4 w5 c5 (hk k (Nat.le_refl _))).mono fun e W' ⟨he, bel⟩ => ?_
  subst he
  exact ⟨_, rfl, _, _, _, [], _, [], hW', trodAll_mk1 (shut_bool Try.underlying4 _), (trodAll_cons_mk (Below.trod laidOut (by kernel_rfl) (of_decide_eq_true (by kernel_rfl)) k0 bel lt0) (trodAll_cons_mk (Below.trod laidOut (by kernel_rfl) (of_decide_eq_true (by kernel_rfl)) k1 bel lt1) (trodAll_cons_mk (shut_int Try.underlying3 w2) (trodAll_cons_mk (Below.trod laidOut (by kernel_rfl) (of_decide_eq_true (by kernel_rfl)) k3 bel lt3) (trodAll_cons_mk (Below.trod laidOut (by kernel_rfl) (of_decide_eq_true (by kernel_rfl)) k4 bel lt4) (trodAll_cons_mk (Below.trod laidOut (by kernel_rfl) (of_decide_eq_true (by kernel_rfl)) k5 bel lt5) trodAll_mk0)))))), rfl, bel.frame _, fun h => by cases h⟩
theorem over : Rows.chainMatchesReferenceRow.holds Try.pinned (OpenSpec.ofChange Rows.chainMatchesReferenceSpec) :=
  OpenClaim.holds_of_wide 3 Try.f3 rfl rfl rfl rfl rfl rfl rfl ⟨rfl, rfl, rfl, rfl, rfl⟩ rfl rfl rfl rfl rfl (by kernel_rfl) Try.func3 (by kernel_rfl)
    (of_decide_eq_true (by kernel_rfl)) (by unfold Func.isWrapper; first | (rw [if_pos (by decide +kernel)]; kernel_rfl) | (rw [if_neg (by decide +kernel)]; exact ⟨rfl, rfl⟩))
    (fun os started H enc _ => lifted os started H enc)
theorem proved : Rows.ChainMatchesReferenceSaid := over
end Go.Proofs.Ytocbiggglnpeoaa.chainMatchesReference
namespace Go.Proofs.Ytocbiggglnpeoaa

theorem chainMatchesReference_holds : Rows.ChainMatchesReferenceSaid := chainMatchesReference.proved
end Go.Proofs.Ytocbiggglnpeoaa
#print axioms Go.Proofs.Ytocbiggglnpeoaa.chainMatchesReference_holds
