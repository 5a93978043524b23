/- The law's names: plain. -/
import Derived.Test.YtmcfihpbiilbcaaScanP
namespace Go.Proofs.Ytmcfihpbiilbcaa.H
open Go.RowKit Go.Proofs.YtmcfihpbiilbcaaW.PrintWords Go.Proofs.YtmcfihpbiilbcaaW.PrintLast Go.Proofs.YtmcfihpbiilbcaaW.PrintMore Go.Proofs.Ytmcfihpbiilbcaa.F
set_option linter.unusedVariables false
set_option linter.unusedSimpArgs false
theorem lletter_q (x : Int) : splicelaw08_letter.f x = some (letterB x) := by
  have e : splicelaw08_letter.f x = scan_letter.f x := rfl
  rw [e, letter_q]
theorem lnamed_from (s : ByteArray) (hs : s.size ≤ 9223372036854775807) : ∀ (d : Nat) (k : Nat) (i : Int), 0 ≤ i → i ≤ s.size → (s.size : Int) - i = d → d < k →
    splicelaw08_named.l0 k s i = some (((bytesOf s).drop i.toNat).all letterB) := by
  intro d
  have hlen := bytesOf_length s
  induction d with
  | zero =>
    intro k i h0 h1 hd hk
    obtain ⟨k, rfl⟩ : ∃ m, k = m + 1 := ⟨k - 1, by omega⟩
    simp only [splicelaw08_named.l0]
    rw [if_neg (by omega), List.drop_eq_nil_of_le (by omega)]
    rfl
  | succ d ih =>
    intro k i h0 h1 hd hk
    obtain ⟨k, rfl⟩ : ∃ m, k = m + 1 := ⟨k - 1, by omega⟩
    simp only [splicelaw08_named.l0]
    have ha : i.toNat < (bytesOf s).length := by omega
    rw [if_pos (by omega), if_pos h0, lletter_q, Option.bind_some, List.drop_eq_getElem_cons ha, List.all_cons]
    have ra : bt s i = (bytesOf s)[i.toNat] := by rw [← rd_bytesOf]; unfold rd; rw [List.getD_eq_getElem?_getD, List.getElem?_eq_getElem ha]; rfl
    rw [ra]
    cases hb : letterB (bytesOf s)[i.toNat]
    · simp
    · rw [if_pos rfl, wrap64_id (by omega) (by omega), ih k (i + 1) (by omega) (by omega) (by omega) (by omega), show (i + 1).toNat = i.toNat + 1 by omega]
      simp
theorem lnamed_q (s : ByteArray) (hs : s.size ≤ 9223372036854775807) : splicelaw08_named.f (s.size + 2) s = some (namedB s) := by
  unfold splicelaw08_named.f namedB
  have h := lnamed_from s (by omega) s.size (s.size + 1) 0 (by omega) (by omega) (by omega) (by omega)
  rw [show ((0 : Int)).toNat = 0 from rfl, List.drop_zero] at h
  by_cases h1 : (s.size : Int) < 1
  · rw [if_pos h1]
    simp only [splicelaw08_named.j0]
    simp
    omega
  · rw [if_neg h1]
    simp only [splicelaw08_named.j0]
    by_cases h2 : (s.size : Int) > 32
    · simp [h2]
      omega
    · simp [h2]
      rw [h]
      simp
      intro _
      omega
theorem lnamed_c (s : ByteArray) (w : World) (hs : s.size ≤ 9223372036854775807) : Calls Try.prog 34 #[.string s] w fun e w' => e = .returned (.bool (namedB s)) ∧ Drawn0 w w' :=
  splicelaw08_named.calls _ s _ w (lnamed_q s hs)
end Go.Proofs.Ytmcfihpbiilbcaa.H
