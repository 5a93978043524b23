/- The statement of WeightWrites, proved: for every input the law returns true, and each argument reads as before. No condition. -/
import Derived.Test.YtmcfihpbiilbcaaRows
import Derived.Test.YtmcfihpbiilbcaaJoin
import Derived.Test.YtmcfihpbiilbcaaLawEdg
import Derived.Test.YtmcfihpbiilbcaaWgM
namespace Go.Proofs.Ytmcfihpbiilbcaa.weightWrites
open Go.ChangeShapes Go.WideShapes Go.ChangeAt Go.RowKit Go.Proofs.YtmcfihpbiilbcaaW.PrintWords Go.Proofs.Ytmcfihpbiilbcaa.H Go.Proofs.Ytmcfihpbiilbcaa.K
open Go.ChangeMaps (open_string shut_string)
set_option linter.unusedVariables false
set_option maxRecDepth 100000 in
theorem lifted (os : Os) (started : os.Started) (H : Type) (enc : TypeId × Value → H) :
    ReturnsInHanded {} Try.checked os 12 .any (Rows.weightWritesSpec.pre6 enc Try.prog Try.f12 Rows.weightWritesRow.domain false) (Rows.weightWritesSpec.post enc Try.prog Try.f12 false true false false) := by
  refine returnsInHanded_of_change_sized (C := Try.checked) own started (by kernel_rfl) Try.func12
    (ChangeSpec.witness6 (enc := enc) (C := Try.checked) false ⟨#[], #[.slice none 0 0], []⟩ 8 (by kernel_rfl) (by kernel_rfl) (by kernel_rfl) (by kernel_rfl)) ?_
  intro W base args ds gs before hval0 hW hcnd hsz0 _
  have hsz : (DataW.weightsEach Try.prog (Try.f12.params.toList ++ Rows.weightWritesSpec.plain.varTypes Try.prog) (ds ++ gs)).all (· ≤ reachBytes) = true := hsz0
  have hval : ∀ (j : Nat) t v, Try.f12.params[j]? = some t → args[j]? = some v → Value.okWide Try.prog W .any base t v := hval0
  have hW' := hW
  obtain ⟨p, q, hA0, hV, rfl, hfz, hnd⟩ := hW
  have hA : DataW.TrodAll enc Try.prog W 0 (fun _ => true) true Try.f12.params.toList args.toList ds p := hA0
  rw [Try.params12] at hA hval hsz
  obtain ⟨v0, vs0, d0, ds0, p0, q0, hargs, rfl, rfl, h0, r0⟩ := trodAll_cons hA
  obtain ⟨rfl, rfl, rfl⟩ := trodAll_nil r0
  obtain rfl : args = #[v0] := by cases args; simp_all
  obtain ⟨rfl, rfl⟩ := trodVars_none hV
  have k0 := h0
  have lt0 : ∀ x ∈ p0, x.block < W.heap.size := by obtain ⟨m, hm⟩ := k0; exact DataW.trod_lt m _ _ _ hm
  obtain ⟨A0, c0, l0, rfl, hc0, hC0, hl0⟩ := open_edges (hval 0 69 v0 rfl rfl) h0 (weigh hsz (j := 0) rfl rfl)
  clear hA0 hval0 hsz0 hsz
  refine (wwrites_c A0 c0 l0 W hC0 hc0 hl0).mono fun e W' ⟨he, bel⟩ => ?_
  subst he
  exact ⟨_, rfl, _, _, _, [], _, [], hW', trodAll_mk1 (shut_bool Try.underlying4 _), (trodAll_cons_mk (Below.trod laidOut (by kernel_rfl) (of_decide_eq_true (by kernel_rfl)) k0 bel lt0) trodAll_mk0), rfl, bel.frame _, fun h => by cases h⟩
theorem k0 : Rows.weightWritesRow.wf (OpenSpec.ofChange Rows.weightWritesSpec) = true := by kernel_rfl
theorem k1 : (Try.f12.params.all (Try.prog.readableRec ·) && namedTie Try.prog Rows.weightWritesRow.named Rows.weightWritesSpec.vars) = true := by kernel_rfl
theorem k3 : (Rows.weightWritesRow.inPlace == Try.prog.inPlace 12) = true := by kernel_rfl
theorem k4 : (Rows.weightWritesRow.unfollowed == Try.prog.unfollowed 12) = true := by kernel_rfl
theorem k5 : (Rows.weightWritesRow.recurses == Try.prog.recurses 12) = true := by kernel_rfl
theorem k6 : (Rows.weightWritesRow.named == Try.prog.varsNamed 12) = true := by kernel_rfl
theorem closed : joinedFacts Try.prog 12 Try.f12 Rows.weightWritesSpec Rows.weightWritesRow = true :=
  J.joined 12 Try.f12 Rows.weightWritesSpec Rows.weightWritesRow rfl rfl rfl k0 k1 (by as_aux_lemma => kernel_rfl) k3 k4 k5 k6 (by as_aux_lemma => kernel_rfl) (by as_aux_lemma => kernel_rfl) (by as_aux_lemma => kernel_rfl) (by as_aux_lemma => kernel_rfl)
theorem named_ : Try.prog.funcNamed Rows.weightWritesRow.func = some 12 := by kernel_rfl
theorem over : Rows.weightWritesRow.holds Try.pinned (OpenSpec.ofChange Rows.weightWritesSpec) :=
  OpenClaim.holds_of_wide 12 Try.f12 rfl rfl rfl rfl rfl rfl rfl ⟨rfl, rfl, rfl, rfl, rfl⟩ rfl rfl rfl rfl rfl named_ Try.func12 closed
    (of_decide_eq_true (by kernel_rfl)) (by unfold Func.isWrapper; first | (rw [if_pos (by decide +kernel)]; kernel_rfl) | (rw [if_neg (by decide +kernel)]; exact ⟨rfl, rfl⟩))
    (fun os started H enc _ => lifted os started H enc)
end Go.Proofs.Ytmcfihpbiilbcaa.weightWrites
namespace Go.Proofs.Ytmcfihpbiilbcaa
theorem weightWrites_holds : Rows.WeightWritesSaid := weightWrites.over
end Go.Proofs.Ytmcfihpbiilbcaa
