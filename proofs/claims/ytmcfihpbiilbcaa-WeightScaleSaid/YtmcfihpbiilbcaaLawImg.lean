/- What rows of layer 15 share: an image that comes in, opened. -/
import Derived.Test.YtmcfihpbiilbcaaImgG
import Derived.Test.YtmcfihpbiilbcaaRows
import Derived.Lib.SmallJoins
import Derived.WalkKit
import Derived.ProofKit
import Derived.OpenShut
import Derived.ChangeOld
import Derived.Below
import Derived.SizedLaws
import Derived.Test.YtmcfihpbiilbcaaWSized
namespace Go.Proofs.Ytmcfihpbiilbcaa.K
open Go.Joins Go.ChangeShapes Go.WideShapes Go.ChangeAt Go.RowKit Go.Deep Go.Proofs.YtmcfihpbiilbcaaW.PrintWords Go.Proofs.Ytmcfihpbiilbcaa.H
set_option linter.unusedVariables false
theorem own : ownKnob Try.prog.godebug = none := by kernel_rfl
theorem laidOut : laidOutB Try.prog = true := by kernel_rfl
theorem C_cells {k : IntKind} {w : World} {ad : Addr} {l : List Int} (hl : l.length ≤ 9223372036854775807) (h : ∀ j p, l[j]? = some p → w.cell? (ad.add j) = some (.int k p)) : Kd.C (Kd.int k) w (some ad) l.length l :=
  ⟨rfl, hl, fun _ => ⟨ad, rfl, fun j p hj => ⟨[.int k p], rfl, rfl, fun i u hu => by
    match i, hu with
    | 0, hu => simp at hu; subst hu; rw [show j * (Kd.int k).sz + 0 = j from Nat.mul_one j]; exact h j p hj
    | i + 1, hu => simp at hu⟩⟩⟩
section
variable {H : Type} {enc : TypeId × Value → H} {W : World} {base : Nat} {held : Bool}
theorem open_nums {t e : TypeId} {k : IntKind} (ht : Try.prog.underlying t = some (.slice e)) (he : Try.prog.underlying e = some (.int k)) (hc1 : Try.prog.cellsOf e = 1) {fuel : Nat} {v : Value} {x : DataW H × List MemPlace} (hf : DataW.trod enc Try.prog W base (fun _ => true) held fuel t [v] = some x) :
    ∃ (A : Option Addr) (c : Nat) (l : List Int), v = .slice A l.length c ∧ l.length ≤ c ∧ c ≤ maxLen ∧ Kd.C (Kd.int k) W A l.length l ∧ ∀ y ∈ l, (Lit.int k y).wf = true := by
  rcases open_ints ht he hc1 hf with ⟨hcs, _⟩ | ⟨x, len, c, zs, hcs, _, hl, hm, hz, _, hcell, hwz⟩
  · simp at hcs
    exact ⟨none, 0, [], hcs, Nat.le_refl _, Nat.zero_le _, ⟨rfl, by simp, fun h => absurd h (by simp)⟩, fun y hy => by simp at hy⟩
  · simp at hcs
    have hz' : zs.length = c := by simpa using hz
    have hlen : (zs.take len).length = len := by rw [List.length_take]; omega
    have hm' : c ≤ 9223372036854775807 := hm
    refine ⟨some x, c, zs.take len, by rw [hlen]; exact hcs, by omega, hm, C_cells (by omega) fun j p hj => ?_, fun y hy => hwz y (List.mem_of_mem_take hy)⟩
    have hj' : j < (zs.take len).length := (List.getElem?_eq_some_iff.1 hj).1
    rw [hcell j (by omega)]
    have : zs[j]? = some p := by rw [List.getElem?_take] at hj; split at hj; exact hj; cases hj
    rw [List.getD_eq_getElem?_getD, this]; rfl
theorem open_bytes {fuel : Nat} {v : Value} {x : DataW H × List MemPlace} (hf : DataW.trod enc Try.prog W base (fun _ => true) held fuel 22 [v] = some x) :
    ∃ (A : Option Addr) (c : Nat) (l : List Int), v = .slice A l.length c ∧ l.length ≤ c ∧ c ≤ maxLen ∧ Kd.C (Kd.int .u8) W A l.length l ∧ Bytes l := by
  obtain ⟨A, c, l, h1, h2, h3, h4, h5⟩ := open_nums Try.underlying22 Try.underlying5 (by kernel_rfl) hf
  exact ⟨A, c, l, h1, h2, h3, h4, fun y hy => by have := bounds_u8 (h5 y hy); omega⟩
set_option maxRecDepth 100000 in
theorem open_img {r : Reach} {b0 : Nat} {v : Value} {d : DataW H} {p : List MemPlace} (hv : Value.okWide Try.prog W r b0 60 v) (h : DataW.Trod enc Try.prog W base (fun _ => true) held 60 v d p) :
    ∃ (Ac : Option Addr) (cc : Nat) (c : List Int) (e : Int) (Ad : Option Addr) (cd : Nat) (l : List Int) (wq mo : Int), v = .agg #[.slice Ac c.length cc, .int .i64 e, .slice Ad l.length cd, .int .i64 wq, .int .i64 mo] ∧
      c.length ≤ cc ∧ Kd.C (Kd.int .u32) W Ac c.length c ∧ (∀ x ∈ c, 0 ≤ x ∧ x ≤ 4294967295) ∧ l.length ≤ cd ∧ Kd.C (Kd.int .u8) W Ad l.length l ∧ Bytes l := by
  obtain ⟨cs, rfl, hs⟩ := okWide_struct Try.underlying60 hv
  have h5 : Try.prog.cellsOf 60 = 5 := by kernel_rfl
  have k58 : Try.prog.cellsOf 58 = 1 := by kernel_rfl
  have k3 : Try.prog.cellsOf 3 = 1 := by kernel_rfl
  have k22 : Try.prog.cellsOf 22 = 1 := by kernel_rfl
  rw [h5] at hs
  obtain ⟨fu, hf⟩ := h
  obtain ⟨xs, n, _, _, _, hl, g⟩ := DataW.trod_struct Try.underlying60 hf
  have hl' : xs.length = 5 := hl
  obtain ⟨l⟩ := cs
  match l, hs with
  | [c0, c1, c2, c3, c4], _ =>
    match xs, hl' with
    | [y0, y1, y2, y3, y4], _ =>
      have g0 : DataW.trod enc Try.prog W base (fun _ => true) held n 58 [c0] = some y0 := by simpa [Value.cells, k58] using g 0 _ rfl
      have g1 : DataW.trod enc Try.prog W base (fun _ => true) held n 3 [c1] = some y1 := by simpa [Value.cells, k3] using g 1 _ rfl
      have g2 : DataW.trod enc Try.prog W base (fun _ => true) held n 22 [c2] = some y2 := by simpa [Value.cells, k22] using g 2 _ rfl
      have g3 : DataW.trod enc Try.prog W base (fun _ => true) held n 3 [c3] = some y3 := by simpa [Value.cells, k3] using g 3 _ rfl
      have g4 : DataW.trod enc Try.prog W base (fun _ => true) held n 3 [c4] = some y4 := by simpa [Value.cells, k3] using g 4 _ rfl
      obtain ⟨Ac, cc, lc, e0, hc1, _, hc2, hc3⟩ := open_nums Try.underlying58 Try.underlying36 (by kernel_rfl) g0
      obtain ⟨z1, e1, _, _⟩ := DataW.trod_int Try.underlying3 g1
      obtain ⟨Ad, cd, ld, e2, hd1, _, hd2, hd3⟩ := open_bytes g2
      obtain ⟨z3, e3, _, _⟩ := DataW.trod_int Try.underlying3 g3
      obtain ⟨z4, e4, _, _⟩ := DataW.trod_int Try.underlying3 g4
      simp only [List.cons.injEq, and_true] at e1 e3 e4
      exact ⟨Ac, cc, lc, z1, Ad, cd, ld, z3, z4, by rw [e0, e1, e2, e3, e4], hc1, hc2, fun x hx => by have := bounds_u32 (hc3 x hx); omega, hd1, hd2, hd3⟩
end
end Go.Proofs.Ytmcfihpbiilbcaa.K
