/- The statement of WeightScale, proved: for every input the law returns true, and each argument reads as before. No condition. -/
import Derived.Test.YtmcfihpbiilbcaaRows
import Derived.Test.YtmcfihpbiilbcaaJoin
import Derived.Test.YtmcfihpbiilbcaaLawImg
import Derived.Test.YtmcfihpbiilbcaaWgW
namespace Go.Proofs.Ytmcfihpbiilbcaa.weightScale
open Go.ChangeShapes Go.WideShapes Go.ChangeAt Go.RowKit Go.Proofs.YtmcfihpbiilbcaaW.PrintWords Go.Proofs.Ytmcfihpbiilbcaa.H Go.Proofs.Ytmcfihpbiilbcaa.K
open Go.ChangeMaps (open_string shut_string)
set_option linter.unusedVariables false
set_option maxRecDepth 100000 in
theorem lifted (os : Os) (started : os.Started) (H : Type) (enc : TypeId × Value → H) :
    ReturnsInHanded {} Try.checked os 15 .any (Rows.weightScaleSpec.pre6 enc Try.prog Try.f15 Rows.weightScaleRow.domain false) (Rows.weightScaleSpec.post enc Try.prog Try.f15 false true false false) := by
  refine returnsInHanded_of_change_sized (C := Try.checked) own started (by kernel_rfl) Try.func15
    (ChangeSpec.witness6 (enc := enc) (C := Try.checked) false ⟨#[], #[.slice none 0 0, .slice none 0 0], []⟩ 8 (by kernel_rfl) (by kernel_rfl) (by kernel_rfl) (by kernel_rfl)) ?_
  intro W base args ds gs before hval0 hW hcnd hsz0 _
  have hsz : (DataW.weightsEach Try.prog (Try.f15.params.toList ++ Rows.weightScaleSpec.plain.varTypes Try.prog) (ds ++ gs)).all (· ≤ reachBytes) = true := hsz0
  have hval : ∀ (j : Nat) t v, Try.f15.params[j]? = some t → args[j]? = some v → Value.okWide Try.prog W .any base t v := hval0
  have hW' := hW
  obtain ⟨p, q, hA0, hV, rfl, hfz, hnd⟩ := hW
  have hA : DataW.TrodAll enc Try.prog W 0 (fun _ => true) true Try.f15.params.toList args.toList ds p := hA0
  rw [Try.params15] at hA hval hsz
  obtain ⟨v0, vs0, d0, ds0, p0, q0, hargs, rfl, rfl, h0, r0⟩ := trodAll_cons hA
  obtain ⟨v1, vs1, d1, ds1, p1, q1, rfl, rfl, rfl, h1, r1⟩ := trodAll_cons r0
  obtain ⟨rfl, rfl, rfl⟩ := trodAll_nil r1
  obtain rfl : args = #[v0, v1] := by cases args; simp_all
  obtain ⟨rfl, rfl⟩ := trodVars_none hV
  obtain ⟨a0, len0, cap0, rfl⟩ := okWide_slice Try.underlying22 (hval 0 22 v0 rfl rfl)
  have k0 := h0
  have lt0 : ∀ x ∈ p0, x.block < W.heap.size := by obtain ⟨m, hm⟩ := k0; exact DataW.trod_lt m _ _ _ hm
  obtain ⟨fu0, hf0⟩ := h0
  obtain ⟨A0, c0, l0, e0, hc0, hm0, hC0, hl0⟩ := open_bytes hf0
  have y0 : len0 * 1 ≤ 140737488351232 := sized_ints hsz (j := 0) (t := 22) rfl rfl Try.underlying22 Try.underlying5 (by kernel_rfl) (by kernel_rfl) k0
  obtain ⟨rfl, rfl, rfl⟩ : a0 = A0 ∧ len0 = l0.length ∧ cap0 = c0 := by injection e0 with e1 e2 e3; exact ⟨e1, e2, e3⟩
  obtain ⟨a1, len1, cap1, rfl⟩ := okWide_slice Try.underlying22 (hval 1 22 v1 rfl rfl)
  have k1 := h1
  have lt1 : ∀ x ∈ p1, x.block < W.heap.size := by obtain ⟨m, hm⟩ := k1; exact DataW.trod_lt m _ _ _ hm
  obtain ⟨fu1, hf1⟩ := h1
  obtain ⟨A1, c1, l1, e1, hc1, hm1, hC1, hl1⟩ := open_bytes hf1
  have y1 : len1 * 1 ≤ 140737488351232 := sized_ints hsz (j := 1) (t := 22) rfl rfl Try.underlying22 Try.underlying5 (by kernel_rfl) (by kernel_rfl) k1
  obtain ⟨rfl, rfl, rfl⟩ : a1 = A1 ∧ len1 = l1.length ∧ cap1 = c1 := by injection e1 with e1 e2 e3; exact ⟨e1, e2, e3⟩
  clear hA0 hval0 hsz0 hsz
  refine (wscale_c a0 a1 cap0 cap1 l0 l1 W hC0 hc0 hl0 hC1 hc1 hl1).mono fun e W' ⟨he, bel⟩ => ?_
  subst he
  exact ⟨_, rfl, _, _, _, [], _, [], hW', trodAll_mk1 (shut_bool Try.underlying4 _), (trodAll_cons_mk (Below.trod laidOut (by kernel_rfl) (of_decide_eq_true (by kernel_rfl)) k0 bel lt0) (trodAll_cons_mk (Below.trod laidOut (by kernel_rfl) (of_decide_eq_true (by kernel_rfl)) k1 bel lt1) trodAll_mk0)), rfl, bel.frame _, fun h => by cases h⟩
theorem k0 : Rows.weightScaleRow.wf (OpenSpec.ofChange Rows.weightScaleSpec) = true := by kernel_rfl
theorem k1 : (Try.f15.params.all (Try.prog.readableRec ·) && namedTie Try.prog Rows.weightScaleRow.named Rows.weightScaleSpec.vars) = true := by kernel_rfl
theorem k3 : (Rows.weightScaleRow.inPlace == Try.prog.inPlace 15) = true := by kernel_rfl
theorem k4 : (Rows.weightScaleRow.unfollowed == Try.prog.unfollowed 15) = true := by kernel_rfl
theorem k5 : (Rows.weightScaleRow.recurses == Try.prog.recurses 15) = true := by kernel_rfl
theorem k6 : (Rows.weightScaleRow.named == Try.prog.varsNamed 15) = true := by kernel_rfl
theorem closed : joinedFacts Try.prog 15 Try.f15 Rows.weightScaleSpec Rows.weightScaleRow = true :=
  J.joined 15 Try.f15 Rows.weightScaleSpec Rows.weightScaleRow rfl rfl rfl k0 k1 (by as_aux_lemma => kernel_rfl) k3 k4 k5 k6 (by as_aux_lemma => kernel_rfl) (by as_aux_lemma => kernel_rfl) (by as_aux_lemma => kernel_rfl) (by as_aux_lemma => kernel_rfl)
theorem named_ : Try.prog.funcNamed Rows.weightScaleRow.func = some 15 := by kernel_rfl
theorem over : Rows.weightScaleRow.holds Try.pinned (OpenSpec.ofChange Rows.weightScaleSpec) :=
  OpenClaim.holds_of_wide 15 Try.f15 rfl rfl rfl rfl rfl rfl rfl ⟨rfl, rfl, rfl, rfl, rfl⟩ rfl rfl rfl rfl rfl named_ Try.func15 closed
    (of_decide_eq_true (by kernel_rfl)) (by unfold Func.isWrapper; first | (rw [if_pos (by decide +kernel)]; kernel_rfl) | (rw [if_neg (by decide +kernel)]; exact ⟨rfl, rfl⟩))
    (fun os started H enc _ => lifted os started H enc)
end Go.Proofs.Ytmcfihpbiilbcaa.weightScale
namespace Go.Proofs.Ytmcfihpbiilbcaa
theorem weightScale_holds : Rows.WeightScaleSaid := weightScale.over
end Go.Proofs.Ytmcfihpbiilbcaa
