/- The statement of ScanActs, proved: for every input the law returns true, and each argument reads as before. No condition. -/
import Derived.Test.YtmcfihpbiilbcaaRows
import Derived.Test.YtmcfihpbiilbcaaJoin
import Derived.Test.YtmcfihpbiilbcaaLawAct
namespace Go.Proofs.Ytmcfihpbiilbcaa.scanActs
open Go.ChangeShapes Go.WideShapes Go.ChangeAt Go.RowKit Go.Proofs.YtmcfihpbiilbcaaW.PrintWords Go.Proofs.Ytmcfihpbiilbcaa.H Go.Proofs.Ytmcfihpbiilbcaa.K
open Go.ChangeMaps (open_string shut_string)
set_option linter.unusedVariables false
set_option maxRecDepth 100000 in
theorem lifted (os : Os) (started : os.Started) (H : Type) (enc : TypeId × Value → H) :
    ReturnsInHanded {} Try.checked os 6 .any (Rows.scanActsSpec.pre6 enc Try.prog Try.f6 Rows.scanActsRow.domain false) (Rows.scanActsSpec.post enc Try.prog Try.f6 false true false false) := by
  refine returnsInHanded_of_change_sized (C := Try.checked) own started (by kernel_rfl) Try.func6
    (ChangeSpec.witness6 (enc := enc) (C := Try.checked) false ⟨#[], #[.slice none 0 0, .slice none 0 0], []⟩ 8 (by kernel_rfl) (by kernel_rfl) (by kernel_rfl) (by kernel_rfl)) ?_
  intro W base args ds gs before hval0 hW hcnd hsz0 _
  have hsz : (DataW.weightsEach Try.prog (Try.f6.params.toList ++ Rows.scanActsSpec.plain.varTypes Try.prog) (ds ++ gs)).all (· ≤ reachBytes) = true := hsz0
  have hval : ∀ (j : Nat) t v, Try.f6.params[j]? = some t → args[j]? = some v → Value.okWide Try.prog W .any base t v := hval0
  have hW' := hW
  obtain ⟨p, q, hA0, hV, rfl, hfz, hnd⟩ := hW
  have hA : DataW.TrodAll enc Try.prog W 0 (fun _ => true) true Try.f6.params.toList args.toList ds p := hA0
  rw [Try.params6] at hA hval hsz
  obtain ⟨v0, vs0, d0, ds0, p0, q0, hargs, rfl, rfl, h0, r0⟩ := trodAll_cons hA
  obtain ⟨v1, vs1, d1, ds1, p1, q1, rfl, rfl, rfl, h1, r1⟩ := trodAll_cons r0
  obtain ⟨rfl, rfl, rfl⟩ := trodAll_nil r1
  obtain rfl : args = #[v0, v1] := by cases args; simp_all
  obtain ⟨rfl, rfl⟩ := trodVars_none hV
  obtain ⟨a0, len0, cap0, rfl⟩ := okWide_slice Try.underlying22 (hval 0 22 v0 rfl rfl)
  have k0 := h0
  have lt0 : ∀ x ∈ p0, x.block < W.heap.size := by obtain ⟨m, hm⟩ := k0; exact DataW.trod_lt m _ _ _ hm
  obtain ⟨fu0, hf0⟩ := h0
  obtain ⟨A0, c0, l0, e0, hc0, hm0, hC0, hl0⟩ := open_bytes hf0
  have y0 : len0 * 1 ≤ 140737488351232 := sized_ints hsz (j := 0) (t := 22) rfl rfl Try.underlying22 Try.underlying5 (by kernel_rfl) (by kernel_rfl) k0
  obtain ⟨rfl, rfl, rfl⟩ : a0 = A0 ∧ len0 = l0.length ∧ cap0 = c0 := by injection e0 with e1 e2 e3; exact ⟨e1, e2, e3⟩
  have k1 := h1
  have lt1 : ∀ x ∈ p1, x.block < W.heap.size := by obtain ⟨m, hm⟩ := k1; exact DataW.trod_lt m _ _ _ hm
  obtain ⟨A1, c1, l1, rfl, hc1, hC1⟩ := open_acts (hval 1 42 v1 rfl rfl) h1
  clear hA0 hval0 hsz0 hsz
  refine (acts_c a0 A1 cap0 c1 l0 l1 W hC0 hc0 hl0 hC1 hc1).mono fun e W' ⟨he, bel⟩ => ?_
  subst he
  exact ⟨_, rfl, _, _, _, [], _, [], hW', trodAll_mk1 (shut_bool Try.underlying4 _), (trodAll_cons_mk (Below.trod laidOut (by kernel_rfl) (of_decide_eq_true (by kernel_rfl)) k0 bel lt0) (trodAll_cons_mk (Below.trod laidOut (by kernel_rfl) (of_decide_eq_true (by kernel_rfl)) k1 bel lt1) trodAll_mk0)), rfl, bel.frame _, fun h => by cases h⟩
theorem k0 : Rows.scanActsRow.wf (OpenSpec.ofChange Rows.scanActsSpec) = true := by kernel_rfl
theorem k1 : (Try.f6.params.all (Try.prog.readableRec ·) && namedTie Try.prog Rows.scanActsRow.named Rows.scanActsSpec.vars) = true := by kernel_rfl
theorem k3 : (Rows.scanActsRow.inPlace == Try.prog.inPlace 6) = true := by kernel_rfl
theorem k4 : (Rows.scanActsRow.unfollowed == Try.prog.unfollowed 6) = true := by kernel_rfl
theorem k5 : (Rows.scanActsRow.recurses == Try.prog.recurses 6) = true := by kernel_rfl
theorem k6 : (Rows.scanActsRow.named == Try.prog.varsNamed 6) = true := by kernel_rfl
theorem closed : joinedFacts Try.prog 6 Try.f6 Rows.scanActsSpec Rows.scanActsRow = true :=
  J.joined 6 Try.f6 Rows.scanActsSpec Rows.scanActsRow rfl rfl rfl k0 k1 (by as_aux_lemma => kernel_rfl) k3 k4 k5 k6 (by as_aux_lemma => kernel_rfl) (by as_aux_lemma => kernel_rfl) (by as_aux_lemma => kernel_rfl) (by as_aux_lemma => kernel_rfl)
theorem named_ : Try.prog.funcNamed Rows.scanActsRow.func = some 6 := by kernel_rfl
theorem over : Rows.scanActsRow.holds Try.pinned (OpenSpec.ofChange Rows.scanActsSpec) :=
  OpenClaim.holds_of_wide 6 Try.f6 rfl rfl rfl rfl rfl rfl rfl ⟨rfl, rfl, rfl, rfl, rfl⟩ rfl rfl rfl rfl rfl named_ Try.func6 closed
    (of_decide_eq_true (by kernel_rfl)) (by unfold Func.isWrapper; first | (rw [if_pos (by decide +kernel)]; kernel_rfl) | (rw [if_neg (by decide +kernel)]; exact ⟨rfl, rfl⟩))
    (fun os started H enc _ => lifted os started H enc)
end Go.Proofs.Ytmcfihpbiilbcaa.scanActs
namespace Go.Proofs.Ytmcfihpbiilbcaa
theorem scanActs_holds : Rows.ScanActsSaid := scanActs.over
end Go.Proofs.Ytmcfihpbiilbcaa
