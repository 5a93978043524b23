/- The statement of WeightKeeps, proved: for every input the law returns true, and each argument reads as before. No condition. -/
import Derived.Test.YtmcfihpbiilbcaaRows
import Derived.Test.YtmcfihpbiilbcaaJoin
import Derived.Test.YtmcfihpbiilbcaaLawEdg
import Derived.Test.YtmcfihpbiilbcaaWgS
namespace Go.Proofs.Ytmcfihpbiilbcaa.weightKeeps
open Go.ChangeShapes Go.WideShapes Go.ChangeAt Go.RowKit Go.Proofs.YtmcfihpbiilbcaaW.PrintWords Go.Proofs.Ytmcfihpbiilbcaa.H Go.Proofs.Ytmcfihpbiilbcaa.K
open Go.ChangeMaps (open_string shut_string)
set_option linter.unusedVariables false
set_option maxRecDepth 100000 in
theorem lifted (os : Os) (started : os.Started) (H : Type) (enc : TypeId × Value → H) :
    ReturnsInHanded {} Try.checked os 14 .any (Rows.weightKeepsSpec.pre6 enc Try.prog Try.f14 Rows.weightKeepsRow.domain false) (Rows.weightKeepsSpec.post enc Try.prog Try.f14 false true false false) := by
  refine returnsInHanded_of_change_sized (C := Try.checked) own started (by kernel_rfl) Try.func14
    (ChangeSpec.witness6 (enc := enc) (C := Try.checked) false ⟨#[], #[.slice none 0 0], []⟩ 8 (by kernel_rfl) (by kernel_rfl) (by kernel_rfl) (by kernel_rfl)) ?_
  intro W base args ds gs before hval0 hW hcnd hsz0 _
  have hsz : (DataW.weightsEach Try.prog (Try.f14.params.toList ++ Rows.weightKeepsSpec.plain.varTypes Try.prog) (ds ++ gs)).all (· ≤ reachBytes) = true := hsz0
  have hval : ∀ (j : Nat) t v, Try.f14.params[j]? = some t → args[j]? = some v → Value.okWide Try.prog W .any base t v := hval0
  have hW' := hW
  obtain ⟨p, q, hA0, hV, rfl, hfz, hnd⟩ := hW
  have hA : DataW.TrodAll enc Try.prog W 0 (fun _ => true) true Try.f14.params.toList args.toList ds p := hA0
  rw [Try.params14] at hA hval hsz
  obtain ⟨v0, vs0, d0, ds0, p0, q0, hargs, rfl, rfl, h0, r0⟩ := trodAll_cons hA
  obtain ⟨rfl, rfl, rfl⟩ := trodAll_nil r0
  obtain rfl : args = #[v0] := by cases args; simp_all
  obtain ⟨rfl, rfl⟩ := trodVars_none hV
  have k0 := h0
  have lt0 : ∀ x ∈ p0, x.block < W.heap.size := by obtain ⟨m, hm⟩ := k0; exact DataW.trod_lt m _ _ _ hm
  obtain ⟨A0, c0, l0, rfl, hc0, hC0, hl0⟩ := open_edges (hval 0 69 v0 rfl rfl) h0 (weigh hsz (j := 0) rfl rfl)
  clear hA0 hval0 hsz0 hsz
  refine (wkeeps_c A0 c0 l0 W hC0 hc0 hl0).mono fun e W' ⟨he, bel⟩ => ?_
  subst he
  exact ⟨_, rfl, _, _, _, [], _, [], hW', trodAll_mk1 (shut_bool Try.underlying4 _), (trodAll_cons_mk (Below.trod laidOut (by kernel_rfl) (of_decide_eq_true (by kernel_rfl)) k0 bel lt0) trodAll_mk0), rfl, bel.frame _, fun h => by cases h⟩
theorem k0 : Rows.weightKeepsRow.wf (OpenSpec.ofChange Rows.weightKeepsSpec) = true := by kernel_rfl
theorem k1 : (Try.f14.params.all (Try.prog.readableRec ·) && namedTie Try.prog Rows.weightKeepsRow.named Rows.weightKeepsSpec.vars) = true := by kernel_rfl
theorem k3 : (Rows.weightKeepsRow.inPlace == Try.prog.inPlace 14) = true := by kernel_rfl
theorem k4 : (Rows.weightKeepsRow.unfollowed == Try.prog.unfollowed 14) = true := by kernel_rfl
theorem k5 : (Rows.weightKeepsRow.recurses == Try.prog.recurses 14) = true := by kernel_rfl
theorem k6 : (Rows.weightKeepsRow.named == Try.prog.varsNamed 14) = true := by kernel_rfl
theorem closed : joinedFacts Try.prog 14 Try.f14 Rows.weightKeepsSpec Rows.weightKeepsRow = true :=
  J.joined 14 Try.f14 Rows.weightKeepsSpec Rows.weightKeepsRow rfl rfl rfl k0 k1 (by as_aux_lemma => kernel_rfl) k3 k4 k5 k6 (by as_aux_lemma => kernel_rfl) (by as_aux_lemma => kernel_rfl) (by as_aux_lemma => kernel_rfl) (by as_aux_lemma => kernel_rfl)
theorem named_ : Try.prog.funcNamed Rows.weightKeepsRow.func = some 14 := by kernel_rfl
theorem over : Rows.weightKeepsRow.holds Try.pinned (OpenSpec.ofChange Rows.weightKeepsSpec) :=
  OpenClaim.holds_of_wide 14 Try.f14 rfl rfl rfl rfl rfl rfl rfl ⟨rfl, rfl, rfl, rfl, rfl⟩ rfl rfl rfl rfl rfl named_ Try.func14 closed
    (of_decide_eq_true (by kernel_rfl)) (by unfold Func.isWrapper; first | (rw [if_pos (by decide +kernel)]; kernel_rfl) | (rw [if_neg (by decide +kernel)]; exact ⟨rfl, rfl⟩))
    (fun os started H enc _ => lifted os started H enc)
end Go.Proofs.Ytmcfihpbiilbcaa.weightKeeps
namespace Go.Proofs.Ytmcfihpbiilbcaa
theorem weightKeeps_holds : Rows.WeightKeepsSaid := weightKeeps.over
end Go.Proofs.Ytmcfihpbiilbcaa
