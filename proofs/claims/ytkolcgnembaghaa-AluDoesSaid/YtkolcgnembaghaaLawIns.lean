/- An instruction (api.Ins: five whole numbers) that comes in, opened. -/
import Derived.Test.YtkolcgnembaghaaLawKit
import Derived.Lib.SmallJoins
namespace Go.Proofs.Ytkolcgnembaghaa.K
open Go.Joins Go.ChangeShapes Go.WideShapes Go.ChangeAt Go.RowKit Go.Proofs.YtkolcgnembaghaaW.PrintWords Go.Proofs.Ytkolcgnembaghaa.H
set_option linter.unusedVariables false
theorem cells51 : Try.prog.cellsOf 51 = 5 := by kernel_rfl
theorem cells3 : Try.prog.cellsOf 3 = 1 := by kernel_rfl
theorem int_of {H : Type} {enc : TypeId × Value → H} {W : World} {base : Nat} {held : Bool} {n : Nat} {c : Value} {xs : List (DataW H × List MemPlace)} {i : Nat} (hi : i < xs.length)
    (h : DataW.trod enc Try.prog W base (fun _ => true) held n 3 [c] = xs[i]?) : ∃ z : Int, c = .int .i64 z ∧ (Lit.int .i64 z).wf = true := by
  rw [List.getElem?_eq_getElem hi] at h
  obtain ⟨z, e, _, hw⟩ := DataW.trod_int Try.underlying3 h
  exact ⟨z, by simpa using e, hw⟩
theorem open_ins {H : Type} {enc : TypeId × Value → H} {W : World} {base : Nat} {held : Bool} {r : Reach} {b0 : Nat} {v : Value} {d : DataW H} {p : List MemPlace} (hv : Value.okWide Try.prog W r b0 51 v) (h : DataW.Trod enc Try.prog W base (fun _ => true) held 51 v d p) :
    ∃ n0 n1 n2 n3 n4 : Int, v = .agg #[.int .i64 n0, .int .i64 n1, .int .i64 n2, .int .i64 n3, .int .i64 n4] ∧ (Lit.int .i64 n4).wf = true := by
  obtain ⟨cs, rfl, hs⟩ := okWide_struct Try.underlying51 hv
  rw [cells51] at hs
  obtain ⟨fu, hf⟩ := h
  obtain ⟨xs, n, _, _, _, hl, g⟩ := DataW.trod_struct Try.underlying51 hf
  have hl' : xs.length = 5 := hl
  obtain ⟨l⟩ := cs
  match l, hs with
  | [c0, c1, c2, c3, c4], _ =>
    have key : ∀ (i : Nat) (c : Value), i < 5 → DataW.trod enc Try.prog W base (fun _ => true) held n 3 (([c0, c1, c2, c3, c4].drop i).take (Try.prog.cellsOf 3)) = xs[i]? → [c0, c1, c2, c3, c4][i]? = some c → ∃ z : Int, c = .int .i64 z ∧ (Lit.int .i64 z).wf = true := by
      intro i c hi h hc
      rw [cells3] at h
      refine int_of (i := i) (by omega) (?_ : DataW.trod enc Try.prog W base (fun _ => true) held n 3 [c] = xs[i]?)
      rw [← h]
      congr 1
      match i, hi, hc with
      | 0, _, hc => simp at hc; simp [hc]
      | 1, _, hc => simp at hc; simp [hc]
      | 2, _, hc => simp at hc; simp [hc]
      | 3, _, hc => simp at hc; simp [hc]
      | 4, _, hc => simp at hc; simp [hc]
    obtain ⟨n0, rfl, _⟩ := key 0 c0 (by omega) (g 0 _ rfl) rfl
    obtain ⟨n1, rfl, _⟩ := key 1 c1 (by omega) (g 1 _ rfl) rfl
    obtain ⟨n2, rfl, _⟩ := key 2 c2 (by omega) (g 2 _ rfl) rfl
    obtain ⟨n3, rfl, _⟩ := key 3 c3 (by omega) (g 3 _ rfl) rfl
    obtain ⟨n4, rfl, w4⟩ := key 4 c4 (by omega) (g 4 _ rfl) rfl
    exact ⟨n0, n1, n2, n3, n4, rfl, w4⟩
end Go.Proofs.Ytkolcgnembaghaa.K
