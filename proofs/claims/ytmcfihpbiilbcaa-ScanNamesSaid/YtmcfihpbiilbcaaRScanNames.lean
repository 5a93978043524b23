/- The statement of ScanNames, proved: for every input the law returns true, and each argument reads as before. No condition. -/
import Derived.Test.YtmcfihpbiilbcaaRows
import Derived.Test.YtmcfihpbiilbcaaJoin
import Derived.Test.YtmcfihpbiilbcaaLawKit
import Derived.Test.YtmcfihpbiilbcaaScanR
namespace Go.Proofs.Ytmcfihpbiilbcaa.scanNames
open Go.ChangeShapes Go.WideShapes Go.ChangeAt Go.RowKit Go.Proofs.YtmcfihpbiilbcaaW.PrintWords Go.Proofs.Ytmcfihpbiilbcaa.H Go.Proofs.Ytmcfihpbiilbcaa.K
open Go.ChangeMaps (open_string shut_string)
set_option linter.unusedVariables false
set_option maxRecDepth 100000 in
theorem lifted (os : Os) (started : os.Started) (H : Type) (enc : TypeId × Value → H) :
    ReturnsInHanded {} Try.checked os 5 .any (Rows.scanNamesSpec.pre6 enc Try.prog Try.f5 Rows.scanNamesRow.domain false) (Rows.scanNamesSpec.post enc Try.prog Try.f5 false true false false) := by
  refine returnsInHanded_of_change_sized (C := Try.checked) own started (by kernel_rfl) Try.func5
    (ChangeSpec.witness6 (enc := enc) (C := Try.checked) false ⟨#[], #[.string ⟨#[]⟩, .int .u32 0, .int .u8 0], []⟩ 8 (by kernel_rfl) (by kernel_rfl) (by kernel_rfl) (by kernel_rfl)) ?_
  intro W base args ds gs before hval0 hW hcnd hsz0 _
  have hsz : (DataW.weightsEach Try.prog (Try.f5.params.toList ++ Rows.scanNamesSpec.plain.varTypes Try.prog) (ds ++ gs)).all (· ≤ reachBytes) = true := hsz0
  have hval : ∀ (j : Nat) t v, Try.f5.params[j]? = some t → args[j]? = some v → Value.okWide Try.prog W .any base t v := hval0
  have hW' := hW
  obtain ⟨p, q, hA0, hV, rfl, hfz, hnd⟩ := hW
  have hA : DataW.TrodAll enc Try.prog W 0 (fun _ => true) true Try.f5.params.toList args.toList ds p := hA0
  rw [Try.params5] at hA hval hsz
  obtain ⟨v0, vs0, d0, ds0, p0, q0, hargs, rfl, rfl, h0, r0⟩ := trodAll_cons hA
  obtain ⟨v1, vs1, d1, ds1, p1, q1, rfl, rfl, rfl, h1, r1⟩ := trodAll_cons r0
  obtain ⟨v2, vs2, d2, ds2, p2, q2, rfl, rfl, rfl, h2, r2⟩ := trodAll_cons r1
  obtain ⟨rfl, rfl, rfl⟩ := trodAll_nil r2
  obtain rfl : args = #[v0, v1, v2] := by cases args; simp_all
  obtain ⟨rfl, rfl⟩ := trodVars_none hV
  obtain ⟨a0, rfl, rfl, rfl, s0⟩ := open_string Try.underlying9 (hval 0 9 v0 rfl rfl) h0
  obtain ⟨a1, rfl, rfl, rfl, w1⟩ := open_int Try.underlying36 (hval 1 36 v1 rfl rfl) h1
  have b1 := bounds_u32 w1
  obtain ⟨a2, rfl, rfl, rfl, w2⟩ := open_int Try.underlying5 (hval 2 5 v2 rfl rfl) h2
  have b2 := bounds_u8 w2
  clear hA0 hval0 hsz0 hsz
  refine (names_c a0 a1 a2 W b1.1 b1.2 b2.1 b2.2).mono fun e W' ⟨he, bel⟩ => ?_
  subst he
  exact ⟨_, rfl, _, _, _, [], _, [], hW', trodAll_mk1 (shut_bool Try.underlying4 _), (trodAll_cons_mk (shut_string Try.underlying9 s0) (trodAll_cons_mk (shut_int Try.underlying36 w1) (trodAll_cons_mk (shut_int Try.underlying5 w2) trodAll_mk0))), rfl, bel.frame _, fun h => by cases h⟩
theorem k0 : Rows.scanNamesRow.wf (OpenSpec.ofChange Rows.scanNamesSpec) = true := by kernel_rfl
theorem k1 : (Try.f5.params.all (Try.prog.readableRec ·) && namedTie Try.prog Rows.scanNamesRow.named Rows.scanNamesSpec.vars) = true := by kernel_rfl
theorem k3 : (Rows.scanNamesRow.inPlace == Try.prog.inPlace 5) = true := by kernel_rfl
theorem k4 : (Rows.scanNamesRow.unfollowed == Try.prog.unfollowed 5) = true := by kernel_rfl
theorem k5 : (Rows.scanNamesRow.recurses == Try.prog.recurses 5) = true := by kernel_rfl
theorem k6 : (Rows.scanNamesRow.named == Try.prog.varsNamed 5) = true := by kernel_rfl
theorem closed : joinedFacts Try.prog 5 Try.f5 Rows.scanNamesSpec Rows.scanNamesRow = true :=
  J.joined 5 Try.f5 Rows.scanNamesSpec Rows.scanNamesRow rfl rfl rfl k0 k1 (by as_aux_lemma => kernel_rfl) k3 k4 k5 k6 (by as_aux_lemma => kernel_rfl) (by as_aux_lemma => kernel_rfl) (by as_aux_lemma => kernel_rfl) (by as_aux_lemma => kernel_rfl)
theorem named_ : Try.prog.funcNamed Rows.scanNamesRow.func = some 5 := by kernel_rfl
theorem over : Rows.scanNamesRow.holds Try.pinned (OpenSpec.ofChange Rows.scanNamesSpec) :=
  OpenClaim.holds_of_wide 5 Try.f5 rfl rfl rfl rfl rfl rfl rfl ⟨rfl, rfl, rfl, rfl, rfl⟩ rfl rfl rfl rfl rfl named_ Try.func5 closed
    (of_decide_eq_true (by kernel_rfl)) (by unfold Func.isWrapper; first | (rw [if_pos (by decide +kernel)]; kernel_rfl) | (rw [if_neg (by decide +kernel)]; exact ⟨rfl, rfl⟩))
    (fun os started H enc _ => lifted os started H enc)
end Go.Proofs.Ytmcfihpbiilbcaa.scanNames
namespace Go.Proofs.Ytmcfihpbiilbcaa
theorem scanNames_holds : Rows.ScanNamesSaid := scanNames.over
end Go.Proofs.Ytmcfihpbiilbcaa
