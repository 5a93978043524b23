/- The statement of WeightClean, proved: for every input the law returns true, and each argument reads as before. No condition. -/
import Derived.Test.YtmcfihpbiilbcaaRows
import Derived.Test.YtmcfihpbiilbcaaJoin
import Derived.Test.YtmcfihpbiilbcaaLawImg
import Derived.Test.YtmcfihpbiilbcaaWgJ
namespace Go.Proofs.Ytmcfihpbiilbcaa.weightClean
open Go.ChangeShapes Go.WideShapes Go.ChangeAt Go.RowKit Go.Proofs.YtmcfihpbiilbcaaW.PrintWords Go.Proofs.Ytmcfihpbiilbcaa.H Go.Proofs.Ytmcfihpbiilbcaa.K
open Go.ChangeMaps (open_string shut_string)
set_option linter.unusedVariables false
set_option maxRecDepth 100000 in
theorem lifted (os : Os) (started : os.Started) (H : Type) (enc : TypeId × Value → H) :
    ReturnsInHanded {} Try.checked os 16 .any (Rows.weightCleanSpec.pre6 enc Try.prog Try.f16 Rows.weightCleanRow.domain false) (Rows.weightCleanSpec.post enc Try.prog Try.f16 false true false false) := by
  refine returnsInHanded_of_change_sized (C := Try.checked) own started (by kernel_rfl) Try.func16
    (ChangeSpec.witness6 (enc := enc) (C := Try.checked) false ⟨#[], #[.int .u64 0, .int .u64 0], []⟩ 8 (by kernel_rfl) (by kernel_rfl) (by kernel_rfl) (by kernel_rfl)) ?_
  intro W base args ds gs before hval0 hW hcnd hsz0 _
  have hsz : (DataW.weightsEach Try.prog (Try.f16.params.toList ++ Rows.weightCleanSpec.plain.varTypes Try.prog) (ds ++ gs)).all (· ≤ reachBytes) = true := hsz0
  have hval : ∀ (j : Nat) t v, Try.f16.params[j]? = some t → args[j]? = some v → Value.okWide Try.prog W .any base t v := hval0
  have hW' := hW
  obtain ⟨p, q, hA0, hV, rfl, hfz, hnd⟩ := hW
  have hA : DataW.TrodAll enc Try.prog W 0 (fun _ => true) true Try.f16.params.toList args.toList ds p := hA0
  rw [Try.params16] at hA hval hsz
  obtain ⟨v0, vs0, d0, ds0, p0, q0, hargs, rfl, rfl, h0, r0⟩ := trodAll_cons hA
  obtain ⟨v1, vs1, d1, ds1, p1, q1, rfl, rfl, rfl, h1, r1⟩ := trodAll_cons r0
  obtain ⟨rfl, rfl, rfl⟩ := trodAll_nil r1
  obtain rfl : args = #[v0, v1] := by cases args; simp_all
  obtain ⟨rfl, rfl⟩ := trodVars_none hV
  obtain ⟨a0, rfl, rfl, rfl, w0⟩ := open_int Try.underlying53 (hval 0 53 v0 rfl rfl) h0
  have b0 := bounds_u64 w0
  obtain ⟨a1, rfl, rfl, rfl, w1⟩ := open_int Try.underlying53 (hval 1 53 v1 rfl rfl) h1
  have b1 := bounds_u64 w1
  clear hA0 hval0 hsz0 hsz
  refine (wclean_all a0 a1 W b0.1 b0.2).mono fun e W' ⟨he, bel⟩ => ?_
  subst he
  exact ⟨_, rfl, _, _, _, [], _, [], hW', trodAll_mk1 (shut_bool Try.underlying4 _), (trodAll_cons_mk (shut_int Try.underlying53 w0) (trodAll_cons_mk (shut_int Try.underlying53 w1) trodAll_mk0)), rfl, bel.frame _, fun h => by cases h⟩
theorem k0 : Rows.weightCleanRow.wf (OpenSpec.ofChange Rows.weightCleanSpec) = true := by kernel_rfl
theorem k1 : (Try.f16.params.all (Try.prog.readableRec ·) && namedTie Try.prog Rows.weightCleanRow.named Rows.weightCleanSpec.vars) = true := by kernel_rfl
theorem k3 : (Rows.weightCleanRow.inPlace == Try.prog.inPlace 16) = true := by kernel_rfl
theorem k4 : (Rows.weightCleanRow.unfollowed == Try.prog.unfollowed 16) = true := by kernel_rfl
theorem k5 : (Rows.weightCleanRow.recurses == Try.prog.recurses 16) = true := by kernel_rfl
theorem k6 : (Rows.weightCleanRow.named == Try.prog.varsNamed 16) = true := by kernel_rfl
theorem closed : joinedFacts Try.prog 16 Try.f16 Rows.weightCleanSpec Rows.weightCleanRow = true :=
  J.joined 16 Try.f16 Rows.weightCleanSpec Rows.weightCleanRow rfl rfl rfl k0 k1 (by as_aux_lemma => kernel_rfl) k3 k4 k5 k6 (by as_aux_lemma => kernel_rfl) (by as_aux_lemma => kernel_rfl) (by as_aux_lemma => kernel_rfl) (by as_aux_lemma => kernel_rfl)
theorem named_ : Try.prog.funcNamed Rows.weightCleanRow.func = some 16 := by kernel_rfl
theorem over : Rows.weightCleanRow.holds Try.pinned (OpenSpec.ofChange Rows.weightCleanSpec) :=
  OpenClaim.holds_of_wide 16 Try.f16 rfl rfl rfl rfl rfl rfl rfl ⟨rfl, rfl, rfl, rfl, rfl⟩ rfl rfl rfl rfl rfl named_ Try.func16 closed
    (of_decide_eq_true (by kernel_rfl)) (by unfold Func.isWrapper; first | (rw [if_pos (by decide +kernel)]; kernel_rfl) | (rw [if_neg (by decide +kernel)]; exact ⟨rfl, rfl⟩))
    (fun os started H enc _ => lifted os started H enc)
end Go.Proofs.Ytmcfihpbiilbcaa.weightClean
namespace Go.Proofs.Ytmcfihpbiilbcaa
theorem weightClean_holds : Rows.WeightCleanSaid := weightClean.over
end Go.Proofs.Ytmcfihpbiilbcaa
