/- AluTakes, in plain Lean. -/
import Derived.Test.YtkolcgnembaghaaAluP
import Derived.Test.YtkolcgnembaghaaQx5
import Derived.OpenShut
namespace Go.Proofs.Ytkolcgnembaghaa.H
open Go.RowKit Go.Proofs.YtkolcgnembaghaaW.PrintWords Go.Proofs.YtkolcgnembaghaaW.PrintLast Go.Proofs.YtkolcgnembaghaaW.PrintMore Go.Proofs.Ytkolcgnembaghaa.Q
set_option linter.unusedVariables false
set_option linter.unusedSimpArgs false
theorem aluTakes_pure : splicelaw04_AluTakes.Pure := by
  intro op a b _ ha hb
  have ra := bounds_u32 ha
  have rb := bounds_u32 hb
  refine ⟨41, ?_⟩
  unfold splicelaw04_AluTakes.f spliceref04_Taken.f
  rw [show (41 : Nat) = 40 + 1 from rfl, awake_k 40, Option.bind_some, if_pos rfl, qsign a (by omega) (by omega), qsign b (by omega) (by omega)]
  have inj : a = b ↔ signS a 32 = signS b 32 := by
    rw [sign32 a (by omega) (by omega), sign32 b (by omega) (by omega)]; split <;> split <;> omega
  unfold alu_Taken.f
  rw [qless a b (by omega) (by omega) (by omega) (by omega)]
  simp only [Option.bind_some]
  generalize hx : signS a 32 = x at *
  generalize hy : signS b 32 = y at *
  by_cases c1 : op = 15
  · subst c1
    by_cases d : x = y
    · simp [inj.2 d, d]
    · have : ¬ a = b := fun h => d (inj.1 h)
      simp [this, d]
  by_cases c2 : op = 16
  · subst c2
    by_cases d : x = y
    · simp [inj.2 d, d]
    · have : ¬ a = b := fun h => d (inj.1 h)
      simp [this, d]
  by_cases c3 : op = 17
  · subst c3
    by_cases d : x < y <;> simp [d]
  by_cases c4 : op = 18
  · subst c4
    by_cases d : x < y
    · have : ¬ y ≤ x := by omega
      simp [d, this]
    · have : y ≤ x := by omega
      simp [d, this]
  simp [c1, c2, c3, c4]
end Go.Proofs.Ytkolcgnembaghaa.H
