/- The statement of ImageKeeps, proved: for every input the law returns true, and each argument reads as before. No condition. -/
import Derived.Test.YtmcfihpbiilbcaaRows
import Derived.Test.YtmcfihpbiilbcaaJoin
import Derived.Test.YtmcfihpbiilbcaaLawImg
import Derived.Test.YtmcfihpbiilbcaaImgM
namespace Go.Proofs.Ytmcfihpbiilbcaa.imageKeeps
open Go.ChangeShapes Go.WideShapes Go.ChangeAt Go.RowKit Go.Proofs.YtmcfihpbiilbcaaW.PrintWords Go.Proofs.Ytmcfihpbiilbcaa.H Go.Proofs.Ytmcfihpbiilbcaa.K
open Go.ChangeMaps (open_string shut_string)
set_option linter.unusedVariables false
set_option maxRecDepth 100000 in
theorem lifted (os : Os) (started : os.Started) (H : Type) (enc : TypeId × Value → H) :
    ReturnsInHanded {} Try.checked os 11 .any (Rows.imageKeepsSpec.pre6 enc Try.prog Try.f11 Rows.imageKeepsRow.domain false) (Rows.imageKeepsSpec.post enc Try.prog Try.f11 false true false false) := by
  refine returnsInHanded_of_change_sized (C := Try.checked) own started (by kernel_rfl) Try.func11
    (ChangeSpec.witness6 (enc := enc) (C := Try.checked) false ⟨#[], #[.agg #[.slice none 0 0, .int .i64 0, .slice none 0 0, .int .i64 0, .int .i64 0]], []⟩ 8 (by kernel_rfl) (by kernel_rfl) (by kernel_rfl) (by kernel_rfl)) ?_
  intro W base args ds gs before hval0 hW hcnd hsz0 _
  have hsz : (DataW.weightsEach Try.prog (Try.f11.params.toList ++ Rows.imageKeepsSpec.plain.varTypes Try.prog) (ds ++ gs)).all (· ≤ reachBytes) = true := hsz0
  have hval : ∀ (j : Nat) t v, Try.f11.params[j]? = some t → args[j]? = some v → Value.okWide Try.prog W .any base t v := hval0
  have hW' := hW
  obtain ⟨p, q, hA0, hV, rfl, hfz, hnd⟩ := hW
  have hA : DataW.TrodAll enc Try.prog W 0 (fun _ => true) true Try.f11.params.toList args.toList ds p := hA0
  rw [Try.params11] at hA hval hsz
  obtain ⟨v0, vs0, d0, ds0, p0, q0, hargs, rfl, rfl, h0, r0⟩ := trodAll_cons hA
  obtain ⟨rfl, rfl, rfl⟩ := trodAll_nil r0
  obtain rfl : args = #[v0] := by cases args; simp_all
  obtain ⟨rfl, rfl⟩ := trodVars_none hV
  have k0 := h0
  have lt0 : ∀ x ∈ p0, x.block < W.heap.size := by obtain ⟨m, hm⟩ := k0; exact DataW.trod_lt m _ _ _ hm
  obtain ⟨Ac0, cc0, lc0, ie0, Ad0, cd0, ld0, iw0, im0, rfl, jc0, JC0, JB0, jd0, JD0, JY0⟩ := open_img (hval 0 60 v0 rfl rfl) h0
  clear hA0 hval0 hsz0 hsz
  refine (keeps15_c Ac0 cc0 lc0 ie0 Ad0 cd0 ld0 iw0 im0 W JC0 jc0 JD0 jd0 JB0 JY0).mono fun e W' ⟨he, bel⟩ => ?_
  subst he
  exact ⟨_, rfl, _, _, _, [], _, [], hW', trodAll_mk1 (shut_bool Try.underlying4 _), (trodAll_cons_mk (Below.trod laidOut (by kernel_rfl) (of_decide_eq_true (by kernel_rfl)) k0 bel lt0) trodAll_mk0), rfl, bel.frame _, fun h => by cases h⟩
theorem k0 : Rows.imageKeepsRow.wf (OpenSpec.ofChange Rows.imageKeepsSpec) = true := by kernel_rfl
theorem k1 : (Try.f11.params.all (Try.prog.readableRec ·) && namedTie Try.prog Rows.imageKeepsRow.named Rows.imageKeepsSpec.vars) = true := by kernel_rfl
theorem k3 : (Rows.imageKeepsRow.inPlace == Try.prog.inPlace 11) = true := by kernel_rfl
theorem k4 : (Rows.imageKeepsRow.unfollowed == Try.prog.unfollowed 11) = true := by kernel_rfl
theorem k5 : (Rows.imageKeepsRow.recurses == Try.prog.recurses 11) = true := by kernel_rfl
theorem k6 : (Rows.imageKeepsRow.named == Try.prog.varsNamed 11) = true := by kernel_rfl
theorem closed : joinedFacts Try.prog 11 Try.f11 Rows.imageKeepsSpec Rows.imageKeepsRow = true :=
  J.joined 11 Try.f11 Rows.imageKeepsSpec Rows.imageKeepsRow rfl rfl rfl k0 k1 (by as_aux_lemma => kernel_rfl) k3 k4 k5 k6 (by as_aux_lemma => kernel_rfl) (by as_aux_lemma => kernel_rfl) (by as_aux_lemma => kernel_rfl) (by as_aux_lemma => kernel_rfl)
theorem named_ : Try.prog.funcNamed Rows.imageKeepsRow.func = some 11 := by kernel_rfl
theorem over : Rows.imageKeepsRow.holds Try.pinned (OpenSpec.ofChange Rows.imageKeepsSpec) :=
  OpenClaim.holds_of_wide 11 Try.f11 rfl rfl rfl rfl rfl rfl rfl ⟨rfl, rfl, rfl, rfl, rfl⟩ rfl rfl rfl rfl rfl named_ Try.func11 closed
    (of_decide_eq_true (by kernel_rfl)) (by unfold Func.isWrapper; first | (rw [if_pos (by decide +kernel)]; kernel_rfl) | (rw [if_neg (by decide +kernel)]; exact ⟨rfl, rfl⟩))
    (fun os started H enc _ => lifted os started H enc)
end Go.Proofs.Ytmcfihpbiilbcaa.imageKeeps
namespace Go.Proofs.Ytmcfihpbiilbcaa
theorem imageKeeps_holds : Rows.ImageKeepsSaid := imageKeeps.over
end Go.Proofs.Ytmcfihpbiilbcaa
