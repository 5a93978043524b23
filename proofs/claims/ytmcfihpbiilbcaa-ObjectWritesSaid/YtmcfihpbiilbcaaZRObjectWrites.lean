import Derived.Test.YtmcfihpbiilbcaaRows
import Derived.Test.YtmcfihpbiilbcaaZObjectWrites6
/- The statement of ObjectWrites, proved: for every input the law returns true, and each argument reads as before. No condition. -/
namespace Go.Proofs.Ytmcfihpbiilbcaa.objectWrites
open Go.ChangeShapes Go.WideShapes Go.ChangeAt Go.RowKit Go.Proofs.YtmcfihpbiilbcaaW.PrintWords Go.Proofs.Ytmcfihpbiilbcaa.H Go.Proofs.Ytmcfihpbiilbcaa.K
open Go.ChangeMaps (open_string shut_string)
set_option linter.unusedVariables false
set_option maxRecDepth 100000 in
theorem lifted (os : Os) (started : os.Started) (H : Type) (enc : TypeId × Value → H) :
    ReturnsInHanded {} Try.checked os 18 .any (Rows.objectWritesSpec.pre6 enc Try.prog Try.f18 Rows.objectWritesRow.domain false) (Rows.objectWritesSpec.post enc Try.prog Try.f18 false true false false) := by
  refine returnsInHanded_of_change_sized (C := Try.checked) own started (by kernel_rfl) Try.func18
    (ChangeSpec.witness6 (enc := enc) (C := Try.checked) false ⟨#[], #[.agg #[.slice none 0 0, .slice none 0 0, .slice none 0 0]], []⟩ 8 (by kernel_rfl) (by kernel_rfl) (by kernel_rfl) (by kernel_rfl)) ?_
  intro W base args ds gs before hval0 hW hcnd hsz0 _
  have hsz : (DataW.weightsEach Try.prog (Try.f18.params.toList ++ Rows.objectWritesSpec.plain.varTypes Try.prog) (ds ++ gs)).all (· ≤ reachBytes) = true := hsz0
  have hval : ∀ (j : Nat) t v, Try.f18.params[j]? = some t → args[j]? = some v → Value.okWide Try.prog W .any base t v := hval0
  have hW' := hW
  obtain ⟨p, q, hA0, hV, rfl, hfz, hnd⟩ := hW
  have hA : DataW.TrodAll enc Try.prog W 0 (fun _ => true) true Try.f18.params.toList args.toList ds p := hA0
  rw [Try.params18] at hA hval hsz
  obtain ⟨v0, vs0, d0, ds0, p0, q0, hargs, rfl, rfl, h0, r0⟩ := trodAll_cons hA
  obtain ⟨rfl, rfl, rfl⟩ := trodAll_nil r0
  obtain rfl : args = #[v0] := by cases args; simp_all
  obtain ⟨rfl, rfl⟩ := trodVars_none hV
  have k0 := h0
  have lt0 : ∀ x ∈ p0, x.block < W.heap.size := by obtain ⟨m, hm⟩ := k0; exact DataW.trod_lt m _ _ _ hm
  obtain ⟨P0, Q0, R0, p_0, q_0, r_0, F0, D0, N0, rfl, co0, ss0⟩ := open_obj (hval 0 91 v0 rfl rfl) h0 (weigh hsz (j := 0) rfl rfl)
  clear hA0 hval0 hsz0 hsz
  refine (owrites_c P0 Q0 R0 p_0 q_0 r_0 F0 D0 N0 W co0 ss0).mono fun e W' ⟨he, bel⟩ => ?_
  subst he
  exact ⟨_, rfl, _, _, _, [], _, [], hW', trodAll_mk1 (shut_bool Try.underlying4 _), (trodAll_cons_mk (Below.trod laidOut (by kernel_rfl) (of_decide_eq_true (by kernel_rfl)) k0 bel lt0) trodAll_mk0), rfl, bel.frame _, fun h => by cases h⟩
theorem k0 : Rows.objectWritesRow.wf (OpenSpec.ofChange Rows.objectWritesSpec) = true := by kernel_rfl
theorem k1 : (Try.f18.params.all (Try.prog.readableRec ·) && namedTie Try.prog Rows.objectWritesRow.named Rows.objectWritesSpec.vars) = true := by kernel_rfl
theorem k3 : (Rows.objectWritesRow.inPlace == Try.prog.inPlace 18) = true := by kernel_rfl
theorem k4 : (Rows.objectWritesRow.unfollowed == Try.prog.unfollowed 18) = true := by kernel_rfl
theorem k5 : (Rows.objectWritesRow.recurses == Try.prog.recurses 18) = true := by kernel_rfl
theorem k6 : (Rows.objectWritesRow.named == Try.prog.varsNamed 18) = true := by kernel_rfl
theorem closed : joinedFacts Try.prog 18 Try.f18 Rows.objectWritesSpec Rows.objectWritesRow = true :=
  J.joined 18 Try.f18 Rows.objectWritesSpec Rows.objectWritesRow rfl rfl rfl k0 k1 (by as_aux_lemma => kernel_rfl) k3 k4 k5 k6 (by as_aux_lemma => kernel_rfl) (by as_aux_lemma => kernel_rfl) (by as_aux_lemma => kernel_rfl) (by as_aux_lemma => kernel_rfl)
theorem named_ : Try.prog.funcNamed Rows.objectWritesRow.func = some 18 := by kernel_rfl
theorem over : Rows.objectWritesRow.holds Try.pinned (OpenSpec.ofChange Rows.objectWritesSpec) :=
  OpenClaim.holds_of_wide 18 Try.f18 rfl rfl rfl rfl rfl rfl rfl ⟨rfl, rfl, rfl, rfl, rfl⟩ rfl rfl rfl rfl rfl named_ Try.func18 closed
    (of_decide_eq_true (by kernel_rfl)) (by unfold Func.isWrapper; first | (rw [if_pos (by decide +kernel)]; kernel_rfl) | (rw [if_neg (by decide +kernel)]; exact ⟨rfl, rfl⟩))
    (fun os started H enc _ => lifted os started H enc)
end Go.Proofs.Ytmcfihpbiilbcaa.objectWrites
namespace Go.Proofs.Ytmcfihpbiilbcaa
theorem objectWrites_holds : Rows.ObjectWritesSaid := objectWrites.over
end Go.Proofs.Ytmcfihpbiilbcaa
