/- What the rows of this seat share: arguments opened. -/
import Derived.Test.YtmcfihpbiilbcaaRows
import Derived.Test.YtmcfihpbiilbcaaScanK
import Derived.WalkKit
import Derived.ProofKit
import Derived.OpenShut
import Derived.ChangeOld
import Derived.Below
import Derived.SizedLaws
import Derived.Test.YtmcfihpbiilbcaaWSized
namespace Go.Proofs.Ytmcfihpbiilbcaa.K
open Go.ChangeShapes Go.WideShapes Go.ChangeAt Go.RowKit Go.Proofs.YtmcfihpbiilbcaaW.PrintWords Go.Proofs.Ytmcfihpbiilbcaa.H
set_option linter.unusedVariables false
theorem own : ownKnob Try.prog.godebug = none := by kernel_rfl
theorem laidOut : laidOutB Try.prog = true := by kernel_rfl

theorem C_cells {k : IntKind} {w : World} {ad : Addr} {l : List Int} (hl : l.length ≤ 9223372036854775807) (h : ∀ j p, l[j]? = some p → w.cell? (ad.add j) = some (.int k p)) : Kd.C (Kd.int k) w (some ad) l.length l :=
  ⟨rfl, hl, fun _ => ⟨ad, rfl, fun j p hj => ⟨[.int k p], rfl, rfl, fun i u hu => by
    match i, hu with
    | 0, hu => simp at hu; subst hu; rw [show j * (Kd.int k).sz + 0 = j from Nat.mul_one j]; exact h j p hj
    | i + 1, hu => simp at hu⟩⟩⟩
theorem open_bytes {H : Type} {enc : TypeId × Value → H} {W : World} {base : Nat} {held : Bool} {fuel : Nat} {v : Value} {x : DataW H × List MemPlace} (hf : DataW.trod enc Try.prog W base (fun _ => true) held fuel 22 [v] = some x) :
    ∃ (A : Option Addr) (c : Nat) (l : List Int), v = .slice A l.length c ∧ l.length ≤ c ∧ c ≤ maxLen ∧ Kd.C (Kd.int .u8) W A l.length l ∧ Bytes l := by
  rcases open_ints Try.underlying22 Try.underlying5 (by kernel_rfl) hf with ⟨hcs, _⟩ | ⟨x, len, c, zs, hcs, _, hl, hm, hz, _, hcell, hwz⟩
  · simp at hcs
    exact ⟨none, 0, [], hcs, Nat.le_refl _, Nat.zero_le _, ⟨rfl, by simp, fun h => absurd h (by simp)⟩, fun y hy => by simp at hy⟩
  · simp at hcs
    have hz' : zs.length = c := by simpa using hz
    have hlen : (zs.take len).length = len := by rw [List.length_take]; omega
    have hm' : c ≤ 9223372036854775807 := hm
    refine ⟨some x, c, zs.take len, by rw [hlen]; exact hcs, by omega, hm, C_cells (by omega) fun j p hj => ?_, fun y hy => ?_⟩
    · have hj' : j < (zs.take len).length := (List.getElem?_eq_some_iff.1 hj).1
      rw [hcell j (by omega)]
      have : zs[j]? = some p := by rw [List.getElem?_take] at hj; split at hj; exact hj; cases hj
      rw [List.getD_eq_getElem?_getD, this]; rfl
    · have := bounds_u8 (hwz y (List.mem_of_mem_take hy))
      omega
end Go.Proofs.Ytmcfihpbiilbcaa.K
