/- Two arrays of four bytes, held against each other. -/
import Derived.Test.YtkolcgnembaghaaProg
import Derived.ChangeKeysEq
import Derived.Stop.BytesEq
import Derived.KernelRfl
namespace Go.Proofs.Ytkolcgnembaghaa.H
theorem cells5 : Try.prog.cellsOf 5 = 1 := by kernel_rfl
theorem has5 : ∃ i, Try.prog.info? 5 = some i := by
  have h : (Try.prog.info? 5).isSome = true := by kernel_rfl
  exact Option.isSome_iff_exists.1 h
theorem eql4 (a0 a1 a2 a3 b0 b1 b2 b3 : Int) (w : World) :
    (binOp .eql 25 (.agg #[.int .u8 a0, .int .u8 a1, .int .u8 a2, .int .u8 a3]) (.agg #[.int .u8 b0, .int .u8 b1, .int .u8 b2, .int .u8 b3])).run Try.prog w = .ok (.bool (decide (a0 = b0 ∧ a1 = b1 ∧ a2 = b2 ∧ a3 = b3))) w := by
  obtain ⟨i, hi⟩ := has5
  rw [run_eql_struct, show (10000 : Nat) = 9999 + 1 from rfl, run_equalIn_array w 9999 _ _ Try.underlying25 hi, cells5]
  have hr : List.range 4 = [0, 1, 2, 3] := rfl
  simp only [hr, Op.eqItems, part, isAgg, Sem.run_bind, run_underlying Try.underlying5, Result.andThen_ok, Sem.run_pure]
  simp [run_equalIn_int w 9998 5 .u8 .u8 _ _ Try.underlying5]
  by_cases h0 : a0 = b0 <;> by_cases h1 : a1 = b1 <;> by_cases h2 : a2 = b2 <;> by_cases h3 : a3 = b3 <;> simp [h0, h1, h2, h3]
end Go.Proofs.Ytkolcgnembaghaa.H
