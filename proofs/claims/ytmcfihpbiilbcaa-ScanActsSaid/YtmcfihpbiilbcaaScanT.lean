/- Try: a reader runs over a scanner; its failure is caught. -/
import Derived.Test.YtmcfihpbiilbcaaScanE
import Derived.Defers
import Derived.Recover
namespace Go.Proofs.Ytmcfihpbiilbcaa.H
open Go.RowKit Go.Proofs.YtmcfihpbiilbcaaW.PrintWords Go.Proofs.YtmcfihpbiilbcaaW.PrintLast Go.Proofs.YtmcfihpbiilbcaaW.PrintMore Go.Proofs.Ytmcfihpbiilbcaa.F
set_option linter.unusedVariables false
set_option linter.unusedSimpArgs false
/-- The deferred closure, of a frame that returns: nothing is recovered. -/
theorem catch_idle (p : Addr) (w : World) :
    CallsD Try.prog 79 #[.pointer (some p)] .returning w fun e u' w' => e = .returned (.tuple #[]) ∧ u' = .returning ∧ w' = w := by
  refine callsD_of_wpS Try.func79 rfl fun c₀ cs hu => ?_
  apply wpS_seq
  apply wpS_region
  simp [wpOpsS, go_sem, recoverD, hu, Try.ntmps79, Exit.thenS]
  refine wpS_of_wp ?_
  go_wp2
  refine ⟨rfl, .returning, ?_, .tuple #[], by simp [results, Try.results79, go_sem], rfl, rfl, rfl⟩
  rw [← hu]
theorem is_fail (v : Value) (w : World) : (Instr.typeAssert (.iface 104 v) 20 104 true).run Try.prog w = .ok (.tuple #[v, .bool true]) w := by
  obtain ⟨i, hi⟩ : ∃ i, Try.prog.info? 104 = some i := by
    have : (Try.prog.info? 104).isSome = true := by kernel_rfl
    exact Option.isSome_iff_exists.1 this
  simp [Instr.typeAssert, go_sem, run_underlying Try.underlying104]
set_option maxRecDepth 100000 in
set_option maxHeartbeats 1600000 in
/-- The deferred closure, of a frame that dies of a failure e: it is caught, e is laid into the result. -/
theorem catch_fail (p : Addr) (x e : Int) (w : World) (hc : w.cell? p = some (.int .i64 x)) (hz : w.frozen? p = false) (hp : p.block < w.heap.size) :
    CallsD Try.prog 79 #[.pointer (some p)] (.panicking (fail_ e)) w fun r u' w' =>
      r = .returned (.tuple #[]) ∧ u' = .panicking [{ v := .iface 104 (.agg #[.int .i64 e]), recovered := true }] ∧ w' = (w.alloc (.cells #[.int .i64 e] 104)).setCell p (.int .i64 e) := by
  have hta := is_fail (.agg #[.int .i64 e])
  have hfz : (w.alloc (.cells #[.int .i64 e] 104)).frozen? p = false := ((below_alloc (Below.refl w.heap.size w) _).frozen hp).trans hz
  have hne : ¬ p.block = w.heap.size := by omega
  have hne' : ¬ w.heap.size = p.block := by omega
  refine callsD_of_wpS Try.func79 rfl fun c₀ cs hu => ?_
  apply wpS_seq
  apply wpS_region
  simp [wpOpsS, go_sem, recoverD, hu, Try.ntmps79, Exit.thenS, fail_]
  refine wpS_of_wp ?_
  go_wp2
  exact ⟨rfl, .panicking [{ v := .iface 104 (.agg #[.int .i64 e]), recovered := true }], rfl, .tuple #[], by simp [results, Try.results79, go_sem], rfl, rfl, rfl⟩
end Go.Proofs.Ytmcfihpbiilbcaa.H
