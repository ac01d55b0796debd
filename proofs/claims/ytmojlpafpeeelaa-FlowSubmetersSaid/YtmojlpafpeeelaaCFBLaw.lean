/- FlowSubmeters, as stated: it returns true for every input, and changes none of its arguments. -/
import Derived.Test.YtmojlpafpeeelaaRows
import Derived.Test.YtmojlpafpeeelaaCFBa
namespace Go.Proofs.Ytmojlpafpeeelaa.flowSubmeters
open Go.ChangeShapes Go.WideShapes Go.ChangeAt Go.RowKit Go.Proofs.YtmojlpafpeeelaaH Go.Proofs.Ytmojlpafpeeelaa.P Go.Proofs.YtmojlpafpeeelaaW.PrintWords
open Go.ChangeMaps (open_string shut_string)
set_option linter.unusedVariables false
theorem opens44 : Opens Try.prog k44 44 := Opens.iso _ (fun a => ⟨a.1, a.2.1, a.2.2⟩) (fun _ => rfl) (Opens.struct Try.underlying44 (Segs.cons (Opens.int Try.underlying3) (by rfl) (by kernel_rfl) (Segs.cons (Opens.int Try.underlying3) (by rfl) (by kernel_rfl) (Segs.one (Opens.int Try.underlying3) (by rfl) (by kernel_rfl)))))
theorem own : ownKnob Try.prog.godebug = none := by kernel_rfl
theorem laidOut : laidOutB Try.prog = true := by kernel_rfl
set_option maxRecDepth 100000 in
theorem lifted (os : Os) (started : os.Started) (H : Type) (enc : TypeId × Value → H) :
    ReturnsInHanded {} Try.checked os 9 .any (Rows.flowSubmetersSpec.pre6 enc Try.prog Try.f9 Rows.flowSubmetersRow.domain false) (Rows.flowSubmetersSpec.post enc Try.prog Try.f9 false true false false) := by
  refine returnsInHanded_of_change_sized (C := Try.checked) own started (by kernel_rfl) Try.func9
    (ChangeSpec.witness6 (enc := enc) (C := Try.checked) false ⟨#[], #[.slice none 0 0, .slice none 0 0], []⟩ 8 (by kernel_rfl) (by kernel_rfl) (by kernel_rfl) (by kernel_rfl)) ?_
  intro W base args ds gs before hval0 hW hcnd hsz0 _
  have hsz : (DataW.weightsEach Try.prog (Try.f9.params.toList ++ Rows.flowSubmetersSpec.plain.varTypes Try.prog) (ds ++ gs)).all (· ≤ reachBytes) = true := hsz0
  have hval : ∀ (j : Nat) t v, Try.f9.params[j]? = some t → args[j]? = some v → Value.okWide Try.prog W .any base t v := hval0
  have hW' := hW
  obtain ⟨p, q, hA0, hV, rfl, hfz, hnd⟩ := hW
  have hA : DataW.TrodAll enc Try.prog W 0 (fun _ => true) true Try.f9.params.toList args.toList ds p := hA0
  rw [Try.params9] at hA hval hsz
  obtain ⟨v0, vs0, d0, ds0, p0, q0, hargs, rfl, rfl, h0, r0⟩ := trodAll_cons hA
  obtain ⟨v1, vs1, d1, ds1, p1, q1, rfl, rfl, rfl, h1, r1⟩ := trodAll_cons r0
  obtain ⟨rfl, rfl, rfl⟩ := trodAll_nil r1
  obtain rfl : args = #[v0, v1] := by cases args; simp_all
  obtain ⟨rfl, rfl⟩ := trodVars_none hV
  obtain ⟨a0, len0, cap0, rfl⟩ := okWide_slice Try.underlying22 (hval 0 22 v0 rfl rfl)
  have k0 := h0
  have lt0 : ∀ x ∈ p0, x.block < W.heap.size := by obtain ⟨m, hm⟩ := k0; exact DataW.trod_lt m _ _ _ hm
  have y0 : len0 * 24 ≤ 140737488351232 := sized_arg hsz (j := 0) (t := 22) rfl rfl Try.underlying22 (by kernel_rfl) h0
  obtain ⟨z0, e0, c0, w0⟩ := open_arg (d := k44) Try.underlying22 (by kernel_rfl) opens44 h0
  subst e0
  obtain ⟨a1, len1, cap1, rfl⟩ := okWide_slice Try.underlying24 (hval 1 24 v1 rfl rfl)
  have k1 := h1
  have lt1 : ∀ x ∈ p1, x.block < W.heap.size := by obtain ⟨m, hm⟩ := k1; exact DataW.trod_lt m _ _ _ hm
  have y1 : len1 * 8 ≤ 140737488351232 := sized_arg hsz (j := 1) (t := 24) rfl rfl Try.underlying24 (by kernel_rfl) h1
  obtain ⟨z1, e1, c1, w1⟩ := open_arg (d := (Kd.int .i64)) Try.underlying24 (by kernel_rfl) (Opens.int Try.underlying3) h1
  subst e1
  clear hA0 hval0 hsz0 hsz
  obtain ⟨k, hk⟩ := subm_ z0 z1 (by omega) (by omega)
  refine (cohousinglaw28_FlowSubmeters.calls k a0 cap0 z0 a1 cap1 z1 true W w0 c0 w1 c1 (hk k (Nat.le_refl _))).mono fun e W' ⟨he, bel⟩ => ?_
  subst he
  exact ⟨_, rfl, _, _, _, [], _, [], hW', trodAll_mk1 (shut_bool Try.underlying4 _), (trodAll_cons_mk (Below.trod laidOut (by kernel_rfl) (of_decide_eq_true (by kernel_rfl)) k0 bel lt0) (trodAll_cons_mk (Below.trod laidOut (by kernel_rfl) (of_decide_eq_true (by kernel_rfl)) k1 bel lt1) trodAll_mk0)), rfl, bel.frame _, fun h => by cases h⟩
theorem over : Rows.flowSubmetersRow.holds Try.pinned (OpenSpec.ofChange Rows.flowSubmetersSpec) :=
  OpenClaim.holds_of_wide 9 Try.f9 rfl rfl rfl rfl rfl rfl rfl ⟨rfl, rfl, rfl, rfl, rfl⟩ rfl rfl rfl rfl rfl (by kernel_rfl) Try.func9 (by kernel_rfl)
    (of_decide_eq_true (by kernel_rfl)) (by unfold Func.isWrapper; first | (rw [if_pos (by decide +kernel)]; kernel_rfl) | (rw [if_neg (by decide +kernel)]; exact ⟨rfl, rfl⟩))
    (fun os started H enc _ => lifted os started H enc)
theorem proved : Rows.FlowSubmetersSaid := over
end Go.Proofs.Ytmojlpafpeeelaa.flowSubmeters
namespace Go.Proofs.Ytmojlpafpeeelaa

theorem flowSubmeters_holds : Rows.FlowSubmetersSaid := flowSubmeters.proved
end Go.Proofs.Ytmojlpafpeeelaa
#print axioms Go.Proofs.Ytmojlpafpeeelaa.flowSubmeters_holds
