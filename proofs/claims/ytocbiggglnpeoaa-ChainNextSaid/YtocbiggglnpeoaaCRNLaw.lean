/- ChainNext, as stated: it returns true for every input, and changes none of its arguments. -/
import Derived.Test.YtocbiggglnpeoaaRows
import Derived.Test.YtocbiggglnpeoaaCRNb
namespace Go.Proofs.Ytocbiggglnpeoaa.chainNext
open Go.ChangeShapes Go.WideShapes Go.ChangeAt Go.RowKit Go.Proofs.YtocbiggglnpeoaaH Go.Proofs.Ytocbiggglnpeoaa.P Go.Proofs.YtocbiggglnpeoaaW.PrintWords
open Go.ChangeMaps (open_string shut_string)
set_option linter.unusedVariables false
theorem opens84 : Opens Try.prog k84 84 := Opens.iso _ (fun a => ⟨a.1, a.2⟩) (fun _ => rfl) (Opens.struct Try.underlying84 (Segs.cons (Opens.int Try.underlying3) (by rfl) (by kernel_rfl) (Segs.one (Opens.int Try.underlying3) (by rfl) (by kernel_rfl))))
theorem opens46 : Opens Try.prog k46 46 := Opens.iso _ (fun a => ⟨a.1, a.2.1, a.2.2⟩) (fun _ => rfl) (Opens.struct Try.underlying46 (Segs.cons (Opens.int Try.underlying3) (by rfl) (by kernel_rfl) (Segs.cons (Opens.int Try.underlying3) (by rfl) (by kernel_rfl) (Segs.one (Opens.slice Try.underlying29 (by kernel_rfl) (Opens.int Try.underlying3)) (by rfl) (by kernel_rfl)))))
theorem opens51 : Opens Try.prog k51 51 := Opens.iso _ (fun a => ⟨a.1, a.2.1, a.2.2⟩) (fun _ => rfl) (Opens.struct Try.underlying51 (Segs.cons (Opens.int Try.underlying3) (by rfl) (by kernel_rfl) (Segs.cons (Opens.int Try.underlying3) (by rfl) (by kernel_rfl) (Segs.one (Opens.int Try.underlying3) (by rfl) (by kernel_rfl)))))
theorem own : ownKnob Try.prog.godebug = none := by kernel_rfl
theorem laidOut : laidOutB Try.prog = true := by kernel_rfl
set_option maxRecDepth 100000 in
theorem lifted (os : Os) (started : os.Started) (H : Type) (enc : TypeId × Value → H) :
    ReturnsInHanded {} Try.checked os 8 .any (Rows.chainNextSpec.pre6 enc Try.prog Try.f8 Rows.chainNextRow.domain false) (Rows.chainNextSpec.post enc Try.prog Try.f8 false true false false) := by
  refine returnsInHanded_of_change_sized (C := Try.checked) own started (by kernel_rfl) Try.func8
    (ChangeSpec.witness6 (enc := enc) (C := Try.checked) false ⟨#[], #[.agg #[.slice none 0 0, .slice none 0 0], .slice none 0 0, .slice none 0 0], []⟩ 8 (by kernel_rfl) (by kernel_rfl) (by kernel_rfl) (by kernel_rfl)) ?_
  intro W base args ds gs before hval0 hW hcnd hsz0 _
  have hsz : (DataW.weightsEach Try.prog (Try.f8.params.toList ++ Rows.chainNextSpec.plain.varTypes Try.prog) (ds ++ gs)).all (· ≤ reachBytes) = true := hsz0
  have hval : ∀ (j : Nat) t v, Try.f8.params[j]? = some t → args[j]? = some v → Value.okWide Try.prog W .any base t v := hval0
  have hW' := hW
  obtain ⟨p, q, hA0, hV, rfl, hfz, hnd⟩ := hW
  have hA : DataW.TrodAll enc Try.prog W 0 (fun _ => true) true Try.f8.params.toList args.toList ds p := hA0
  rw [Try.params8] at hA hval hsz
  obtain ⟨v0, vs0, d0, ds0, p0, q0, hargs, rfl, rfl, h0, r0⟩ := trodAll_cons hA
  obtain ⟨v1, vs1, d1, ds1, p1, q1, rfl, rfl, rfl, h1, r1⟩ := trodAll_cons r0
  obtain ⟨v2, vs2, d2, ds2, p2, q2, rfl, rfl, rfl, h2, r2⟩ := trodAll_cons r1
  obtain ⟨rfl, rfl, rfl⟩ := trodAll_nil r2
  obtain rfl : args = #[v0, v1, v2] := by cases args; simp_all
  obtain ⟨rfl, rfl⟩ := trodVars_none hV
  have k0 := h0
  have lt0 : ∀ x ∈ p0, x.block < W.heap.size := by obtain ⟨m, hm⟩ := k0; exact DataW.trod_lt m _ _ _ hm
  obtain ⟨a0, cap0, b0, cbp0, z0, y0, rfl, w0, c0, wb0, cb0⟩ := open_two_rows (d := k84) (d' := k46) Try.underlying25 (Opens.struct Try.underlying25 (Segs.cons (Opens.slice Try.underlying22 (by kernel_rfl) opens84) (by rfl) (by kernel_rfl) (Segs.one (Opens.slice Try.underlying23 (by kernel_rfl) opens46) (by rfl) (by kernel_rfl)))) (hval 0 25 v0 rfl rfl) h0
  obtain ⟨a1, len1, cap1, rfl⟩ := okWide_slice Try.underlying28 (hval 1 28 v1 rfl rfl)
  have k1 := h1
  have lt1 : ∀ x ∈ p1, x.block < W.heap.size := by obtain ⟨m, hm⟩ := k1; exact DataW.trod_lt m _ _ _ hm
  have y1 : len1 * 24 ≤ 140737488351232 := sized_arg hsz (j := 1) (t := 28) rfl rfl Try.underlying28 (by kernel_rfl) h1
  obtain ⟨z1, e1, c1, w1⟩ := open_arg (d := k51) Try.underlying28 (by kernel_rfl) opens51 h1
  subst e1
  obtain ⟨a2, len2, cap2, rfl⟩ := okWide_slice Try.underlying29 (hval 2 29 v2 rfl rfl)
  have k2 := h2
  have lt2 : ∀ x ∈ p2, x.block < W.heap.size := by obtain ⟨m, hm⟩ := k2; exact DataW.trod_lt m _ _ _ hm
  have y2 : len2 * 8 ≤ 140737488351232 := sized_arg hsz (j := 2) (t := 29) rfl rfl Try.underlying29 (by kernel_rfl) h2
  obtain ⟨z2, e2, c2, w2⟩ := open_arg (d := (Kd.int .i64)) Try.underlying29 (by kernel_rfl) (Opens.int Try.underlying3) h2
  subst e2
  clear hA0 hval0 hsz0 hsz
  obtain ⟨k, hk⟩ := next_ z0 y0 z1 z2
  refine (cohousinglaw26_ChainNext.calls k a0 cap0 z0 b0 cbp0 y0 a1 cap1 z1 a2 cap2 z2 true W w0 c0 wb0 cb0 w1 c1 w2 c2 (hk k (Nat.le_refl _))).mono fun e W' ⟨he, bel⟩ => ?_
  subst he
  exact ⟨_, rfl, _, _, _, [], _, [], hW', trodAll_mk1 (shut_bool Try.underlying4 _), (trodAll_cons_mk (Below.trod laidOut (by kernel_rfl) (of_decide_eq_true (by kernel_rfl)) k0 bel lt0) (trodAll_cons_mk (Below.trod laidOut (by kernel_rfl) (of_decide_eq_true (by kernel_rfl)) k1 bel lt1) (trodAll_cons_mk (Below.trod laidOut (by kernel_rfl) (of_decide_eq_true (by kernel_rfl)) k2 bel lt2) trodAll_mk0))), rfl, bel.frame _, fun h => by cases h⟩
theorem over : Rows.chainNextRow.holds Try.pinned (OpenSpec.ofChange Rows.chainNextSpec) :=
  OpenClaim.holds_of_wide 8 Try.f8 rfl rfl rfl rfl rfl rfl rfl ⟨rfl, rfl, rfl, rfl, rfl⟩ rfl rfl rfl rfl rfl (by kernel_rfl) Try.func8 (by kernel_rfl)
    (of_decide_eq_true (by kernel_rfl)) (by unfold Func.isWrapper; first | (rw [if_pos (by decide +kernel)]; kernel_rfl) | (rw [if_neg (by decide +kernel)]; exact ⟨rfl, rfl⟩))
    (fun os started H enc _ => lifted os started H enc)
theorem proved : Rows.ChainNextSaid := over
end Go.Proofs.Ytocbiggglnpeoaa.chainNext
namespace Go.Proofs.Ytocbiggglnpeoaa

theorem chainNext_holds : Rows.ChainNextSaid := chainNext.proved
end Go.Proofs.Ytocbiggglnpeoaa
#print axioms Go.Proofs.Ytocbiggglnpeoaa.chainNext_holds
