/- TopTruth, as stated: it returns true for every input, and changes none of its arguments. -/
import Derived.Test.YthjjabcbngffoaaRows
import Derived.Test.YthjjabcbngffoaaCUTa
namespace Go.Proofs.Ythjjabcbngffoaa.topTruth
open Go.ChangeShapes Go.WideShapes Go.ChangeAt Go.RowKit Go.Proofs.YthjjabcbngffoaaH Go.Proofs.Ythjjabcbngffoaa.P Go.Proofs.YthjjabcbngffoaaW.PrintWords
open Go.ChangeMaps (open_string shut_string)
set_option linter.unusedVariables false
theorem opens63 : Opens Try.prog k63 63 := Opens.iso _ (fun a => ⟨a.1, a.2.1, a.2.2⟩) (fun _ => rfl) (Opens.struct Try.underlying63 (Segs.cons (Opens.int Try.underlying3) (by rfl) (by kernel_rfl) (Segs.cons (Opens.int Try.underlying3) (by rfl) (by kernel_rfl) (Segs.one (Opens.int Try.underlying3) (by rfl) (by kernel_rfl)))))
theorem opens38 : Opens Try.prog k38 38 := Opens.iso _ (fun a => ⟨a.1, a.2⟩) (fun _ => rfl) (Opens.struct Try.underlying38 (Segs.cons (Opens.int Try.underlying3) (by rfl) (by kernel_rfl) (Segs.one (Opens.int Try.underlying3) (by rfl) (by kernel_rfl))))
theorem own : ownKnob Try.prog.godebug = none := by kernel_rfl
theorem laidOut : laidOutB Try.prog = true := by kernel_rfl
set_option maxRecDepth 100000 in
theorem lifted (os : Os) (started : os.Started) (H : Type) (enc : TypeId × Value → H) :
    ReturnsInHanded {} Try.checked os 10 .any (Rows.topTruthSpec.pre6 enc Try.prog Try.f10 Rows.topTruthRow.domain false) (Rows.topTruthSpec.post enc Try.prog Try.f10 false true false false) := by
  refine returnsInHanded_of_change_sized (C := Try.checked) own started (by kernel_rfl) Try.func10
    (ChangeSpec.witness6 (enc := enc) (C := Try.checked) false ⟨#[], #[.int .i64 0, .slice none 0 0, .slice none 0 0, .slice none 0 0, .slice none 0 0], []⟩ 8 (by kernel_rfl) (by kernel_rfl) (by kernel_rfl) (by kernel_rfl)) ?_
  intro W base args ds gs before hval0 hW hcnd hsz0 _
  have hsz : (DataW.weightsEach Try.prog (Try.f10.params.toList ++ Rows.topTruthSpec.plain.varTypes Try.prog) (ds ++ gs)).all (· ≤ reachBytes) = true := hsz0
  have hval : ∀ (j : Nat) t v, Try.f10.params[j]? = some t → args[j]? = some v → Value.okWide Try.prog W .any base t v := hval0
  have hW' := hW
  obtain ⟨p, q, hA0, hV, rfl, hfz, hnd⟩ := hW
  have hA : DataW.TrodAll enc Try.prog W 0 (fun _ => true) true Try.f10.params.toList args.toList ds p := hA0
  rw [Try.params10] at hA hval hsz
  obtain ⟨v0, vs0, d0, ds0, p0, q0, hargs, rfl, rfl, h0, r0⟩ := trodAll_cons hA
  obtain ⟨v1, vs1, d1, ds1, p1, q1, rfl, rfl, rfl, h1, r1⟩ := trodAll_cons r0
  obtain ⟨v2, vs2, d2, ds2, p2, q2, rfl, rfl, rfl, h2, r2⟩ := trodAll_cons r1
  obtain ⟨v3, vs3, d3, ds3, p3, q3, rfl, rfl, rfl, h3, r3⟩ := trodAll_cons r2
  obtain ⟨v4, vs4, d4, ds4, p4, q4, rfl, rfl, rfl, h4, r4⟩ := trodAll_cons r3
  obtain ⟨rfl, rfl, rfl⟩ := trodAll_nil r4
  obtain rfl : args = #[v0, v1, v2, v3, v4] := by cases args; simp_all
  obtain ⟨rfl, rfl⟩ := trodVars_none hV
  obtain ⟨a0, rfl, rfl, rfl, w0⟩ := open_int Try.underlying3 (hval 0 3 v0 rfl rfl) h0
  obtain ⟨a1, len1, cap1, rfl⟩ := okWide_slice Try.underlying24 (hval 1 24 v1 rfl rfl)
  have k1 := h1
  have lt1 : ∀ x ∈ p1, x.block < W.heap.size := by obtain ⟨m, hm⟩ := k1; exact DataW.trod_lt m _ _ _ hm
  have y1 : len1 * 24 ≤ 140737488351232 := sized_arg hsz (j := 1) (t := 24) rfl rfl Try.underlying24 (by kernel_rfl) h1
  obtain ⟨z1, e1, c1, w1⟩ := open_arg (d := k63) Try.underlying24 (by kernel_rfl) opens63 h1
  subst e1
  obtain ⟨a2, len2, cap2, rfl⟩ := okWide_slice Try.underlying23 (hval 2 23 v2 rfl rfl)
  have k2 := h2
  have lt2 : ∀ x ∈ p2, x.block < W.heap.size := by obtain ⟨m, hm⟩ := k2; exact DataW.trod_lt m _ _ _ hm
  have y2 : len2 * 16 ≤ 140737488351232 := sized_arg hsz (j := 2) (t := 23) rfl rfl Try.underlying23 (by kernel_rfl) h2
  obtain ⟨z2, e2, c2, w2⟩ := open_arg (d := k38) Try.underlying23 (by kernel_rfl) opens38 h2
  subst e2
  obtain ⟨a3, len3, cap3, rfl⟩ := okWide_slice Try.underlying22 (hval 3 22 v3 rfl rfl)
  have k3 := h3
  have lt3 : ∀ x ∈ p3, x.block < W.heap.size := by obtain ⟨m, hm⟩ := k3; exact DataW.trod_lt m _ _ _ hm
  have y3 : len3 * 8 ≤ 140737488351232 := sized_arg hsz (j := 3) (t := 22) rfl rfl Try.underlying22 (by kernel_rfl) h3
  obtain ⟨z3, e3, c3, w3⟩ := open_arg (d := (Kd.int .i64)) Try.underlying22 (by kernel_rfl) (Opens.int Try.underlying3) h3
  subst e3
  obtain ⟨a4, len4, cap4, rfl⟩ := okWide_slice Try.underlying22 (hval 4 22 v4 rfl rfl)
  have k4 := h4
  have lt4 : ∀ x ∈ p4, x.block < W.heap.size := by obtain ⟨m, hm⟩ := k4; exact DataW.trod_lt m _ _ _ hm
  have y4 : len4 * 8 ≤ 140737488351232 := sized_arg hsz (j := 4) (t := 22) rfl rfl Try.underlying22 (by kernel_rfl) h4
  obtain ⟨z4, e4, c4, w4⟩ := open_arg (d := (Kd.int .i64)) Try.underlying22 (by kernel_rfl) (Opens.int Try.underlying3) h4
  subst e4
  clear hA0 hval0 hsz0 hsz
  obtain ⟨k, hk⟩ := truth_ a0 z1 z2 z3 z4
  refine (cohousingtop_TopTruth.calls k a0 a1 cap1 z1 a2 cap2 z2 a3 cap3 z3 a4 cap4 z4 true W w1 c1 w2 c2 w3 c3 w4 c4 (hk k (Nat.le_refl _))).mono fun e W' ⟨he, bel⟩ => ?_
  subst he
  exact ⟨_, rfl, _, _, _, [], _, [], hW', trodAll_mk1 (shut_bool Try.underlying4 _), (trodAll_cons_mk (shut_int Try.underlying3 w0) (trodAll_cons_mk (Below.trod laidOut (by kernel_rfl) (of_decide_eq_true (by kernel_rfl)) k1 bel lt1) (trodAll_cons_mk (Below.trod laidOut (by kernel_rfl) (of_decide_eq_true (by kernel_rfl)) k2 bel lt2) (trodAll_cons_mk (Below.trod laidOut (by kernel_rfl) (of_decide_eq_true (by kernel_rfl)) k3 bel lt3) (trodAll_cons_mk (Below.trod laidOut (by kernel_rfl) (of_decide_eq_true (by kernel_rfl)) k4 bel lt4) trodAll_mk0))))), rfl, bel.frame _, fun h => by cases h⟩
theorem over : Rows.topTruthRow.holds Try.pinned (OpenSpec.ofChange Rows.topTruthSpec) :=
  OpenClaim.holds_of_wide 10 Try.f10 rfl rfl rfl rfl rfl rfl rfl ⟨rfl, rfl, rfl, rfl, rfl⟩ rfl rfl rfl rfl rfl (by kernel_rfl) Try.func10 (by kernel_rfl)
    (of_decide_eq_true (by kernel_rfl)) (by unfold Func.isWrapper; first | (rw [if_pos (by decide +kernel)]; kernel_rfl) | (rw [if_neg (by decide +kernel)]; exact ⟨rfl, rfl⟩))
    (fun os started H enc _ => lifted os started H enc)
theorem proved : Rows.TopTruthSaid := over
end Go.Proofs.Ythjjabcbngffoaa.topTruth
namespace Go.Proofs.Ythjjabcbngffoaa

theorem topTruth_holds : Rows.TopTruthSaid := topTruth.proved
end Go.Proofs.Ythjjabcbngffoaa
#print axioms Go.Proofs.Ythjjabcbngffoaa.topTruth_holds
