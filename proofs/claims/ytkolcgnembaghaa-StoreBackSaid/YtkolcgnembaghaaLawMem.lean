/- A memory (api.Mem) that comes in, opened. -/
import Derived.Test.YtkolcgnembaghaaLawKit
import Derived.Lib.SmallJoins
namespace Go.Proofs.Ytkolcgnembaghaa.K
open Go.Joins Go.ChangeShapes Go.WideShapes Go.ChangeAt Go.RowKit Go.Proofs.YtkolcgnembaghaaW.PrintWords Go.Proofs.Ytkolcgnembaghaa.H
set_option linter.unusedVariables false
theorem cells41 : Try.prog.cellsOf 41 = 2 := by kernel_rfl
theorem open_mem {H : Type} {enc : TypeId × Value → H} {W : World} {base : Nat} {held : Bool} {r : Reach} {b0 : Nat} {v : Value} {d : DataW H} {p : List MemPlace} (hv : Value.okWide Try.prog W r b0 41 v) (h : DataW.Trod enc Try.prog W base (fun _ => true) held 41 v d p) :
    ∃ (n : Int) (A : Option Addr) (c : Nat) (l : List Int), v = .agg #[.int .i64 n, .slice A l.length c] ∧ l.length ≤ c ∧ c ≤ maxLen ∧ Kd.C (Kd.int .u8) W A l.length l ∧ Bytes l := by
  obtain ⟨c0, c1, y0, y1, m, rfl, _, _, hy0, hy1⟩ := open_agg2 Try.underlying41 (by kernel_rfl) cells41 hv h
  obtain ⟨n, e0, _, _⟩ := DataW.trod_int Try.underlying3 hy0
  simp at e0
  obtain ⟨A, c, l, e1, h1, h2, h3, h4⟩ := open_bytes hy1
  exact ⟨n, A, c, l, by rw [e0, e1], h1, h2, h3, h4⟩
end Go.Proofs.Ytkolcgnembaghaa.K
