/- A list of acts that comes in, opened. -/
import Derived.Test.YtmcfihpbiilbcaaLawKit
import Derived.Test.YtmcfihpbiilbcaaActE
import Derived.Lib.SmallJoins
import Derived.Deep.Slices
import Derived.Deep.Fields
import Derived.ChangeSame
namespace Go.Proofs.Ytmcfihpbiilbcaa.K
open Go.Joins Go.ChangeShapes Go.WideShapes Go.ChangeAt Go.RowKit Go.Deep Go.Proofs.YtmcfihpbiilbcaaW.PrintWords Go.Proofs.Ytmcfihpbiilbcaa.H
set_option linter.unusedVariables false
theorem C_acts {w : World} {ad : Addr} {l : List Ac} (hl : l.length ≤ 9223372036854775807) (h : ∀ j e, l[j]? = some e → ∀ i u, (aCells e)[i]? = some u → w.cell? (ad.add (j * 2 + i)) = some u) : CA w (some ad) l :=
  ⟨rfl, hl, fun _ => ⟨ad, rfl, fun j p hj => ⟨aCells p, rfl, KA_mk w p, fun i u hu => h j p hj i u hu⟩⟩⟩
section
variable {H : Type} {enc : TypeId × Value → H} {W : World} {base : Nat} {held : Bool}
set_option maxRecDepth 100000 in
/-- An act, as two cells that are read. -/
theorem open_act {n : Nat} {cs : List Value} {x : DataW H × List MemPlace} (h : DataW.trod enc Try.prog W base (fun _ => true) held n 44 cs = some x) : ∃ e : Ac, cs = aCells e := by
  have h4 : Try.prog.cellsOf 44 = 2 := by kernel_rfl
  have k3 : Try.prog.cellsOf 3 = 1 := by kernel_rfl
  obtain ⟨xs, m, _, hx, hc, hl, g⟩ := DataW.trod_struct Try.underlying44 h
  have hl' : xs.length = 2 := hl
  rw [h4] at hc
  match cs, hc with
  | [c0, c1], _ =>
    match xs, hl' with
    | [y0, y1], _ =>
      have g0 : DataW.trod enc Try.prog W base (fun _ => true) held m 3 [c0] = some y0 := by simpa [Value.cells, k3] using g 0 _ rfl
      have g1 : DataW.trod enc Try.prog W base (fun _ => true) held m 3 [c1] = some y1 := by simpa [Value.cells, k3] using g 1 _ rfl
      obtain ⟨z1, e1, _, _⟩ := DataW.trod_int Try.underlying3 g0
      obtain ⟨z2, e2, _, _⟩ := DataW.trod_int Try.underlying3 g1
      simp only [List.cons.injEq, and_true] at e1 e2
      exact ⟨(z1, z2), by rw [e1, e2]; rfl⟩
set_option maxRecDepth 100000 in
theorem open_acts {r : Reach} {b0 : Nat} {v : Value} {d : DataW H} {p : List MemPlace} (hv0 : Value.okWide Try.prog W r b0 42 v) (h : DataW.Trod enc Try.prog W base (fun _ => true) held 42 v d p) :
    ∃ (A : Option Addr) (c : Nat) (l : List Ac), v = .slice A l.length c ∧ l.length ≤ c ∧ CA W A l := by
  obtain ⟨a0, len0, cap0, rfl⟩ := okWide_slice Try.underlying42 hv0
  obtain ⟨fu, hf⟩ := h
  have h4 : Try.prog.cellsOf 44 = 2 := by kernel_rfl
  rcases open_slice Try.underlying42 hf with ⟨hcs, _⟩ | ⟨a, len, cap, m, n, D, Pl, hcs, hb, hl, hm, hmm, hx, hi⟩
  · have : Value.slice a0 len0 cap0 = .slice none 0 0 := by simpa [Value.cells] using hcs
    exact ⟨none, 0, [], this, Nat.le_refl _, ⟨rfl, by simp, fun h => absurd h (by simp)⟩⟩
  · have hv : Value.slice a0 len0 cap0 = .slice (some a) len cap := by simpa [Value.cells] using hcs
    have hm' : m = cap := by simpa using hmm
    have hel : ∀ i, i < len → ∃ e : Ac, ∀ j u, (aCells e)[j]? = some u → W.cell? (a.add (i * 2 + j)) = some u := by
      intro i hi'
      obtain ⟨cs', hc, ht⟩ := hi i (by omega)
      obtain ⟨e, he⟩ := open_act ht
      rw [h4] at hc
      obtain ⟨_, hcl, hat⟩ := World.cells?_some hc
      refine ⟨e, fun j u hu => ?_⟩
      have hj : j < 2 := (List.getElem?_eq_some_iff.1 hu).1
      rw [he] at hat
      have := hat j hj
      rw [← Go.Deep.add_add, this, hu]
    have hch : ∃ f : Nat → Ac, ∀ i, i < len → ∀ j u, (aCells (f i))[j]? = some u → W.cell? (a.add (i * 2 + j)) = some u := by
      refine ⟨fun i => if h : i < len then Classical.choose (hel i h) else (0, 0), fun i hi' => ?_⟩
      simp only [dif_pos hi']
      exact Classical.choose_spec (hel i hi')
    obtain ⟨f, hf'⟩ := hch
    have hlen : ((List.range len).map f).length = len := by simp
    have hmx : cap ≤ 9223372036854775807 := hm
    refine ⟨some a, cap, (List.range len).map f, by rw [hlen]; exact hv, by omega, C_acts (by omega) fun j e hj => ?_⟩
    have hjl : j < len := by have := (List.getElem?_eq_some_iff.1 hj).1; omega
    have : f j = e := by simpa [hjl] using hj
    rw [← this]
    exact hf' j hjl
end
end Go.Proofs.Ytmcfihpbiilbcaa.K
