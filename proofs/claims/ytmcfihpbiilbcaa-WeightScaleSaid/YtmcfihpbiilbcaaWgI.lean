/- How floats stand: plain. -/
import Derived.Test.YtmcfihpbiilbcaaWgB
namespace Go.Proofs.Ytmcfihpbiilbcaa.H
open Go.RowKit Go.Proofs.YtmcfihpbiilbcaaW.PrintWords Go.Proofs.YtmcfihpbiilbcaaW.PrintLast Go.Proofs.YtmcfihpbiilbcaaW.PrintMore Go.Proofs.Ytmcfihpbiilbcaa.E
set_option linter.unusedVariables false
set_option linter.unusedSimpArgs false
def VE : Nat := 2100
def VB : Nat := 2 ^ VE
theorem VB_ge (k : Nat) (h : k ≤ 2098) : 2 ^ k ≤ VB := Nat.pow_le_pow_right (by decide) (show k ≤ 2100 by omega)
theorem VB_pos : 0 < VB := Nat.pow_pos (by decide)
def V (x : Nat) : Option Int := match Ieee.double.read x with
  | .nan _ _ => none
  | .infinity s => some (if s then -(VB : Int) else VB)
  | .number s m i => some (Ieee.signed s m (i + 1074).toNat)
theorem read_bd {x : Nat} {s : Bool} {m : Nat} {i : Int} (h : Ieee.double.read x = .number s m i) : m < 2 ^ 53 ∧ -1074 ≤ i ∧ i ≤ 971 := by
  have e0 : Ieee.double.binade = 4503599627370496 := by decide +kernel
  have e1 : Ieee.double.signWeight = 9223372036854775808 := by decide +kernel
  have e2 : Ieee.double.infRung = 9218868437227405312 := by decide +kernel
  have e3 : Ieee.double.leastPlace = -1074 := by decide +kernel
  unfold Ieee.Format.read at h
  simp only [e0, e1, e2, e3] at h
  split at h
  · injection h with h1 h2 h3
    omega
  · split at h
    · injection h with h1 h2 h3
      omega
    · split at h <;> cases h
theorem signed_bd (s : Bool) (m k : Nat) (hm : m < 2 ^ 53) (hk : k ≤ 2045) : -(VB : Int) < Ieee.signed s m k ∧ Ieee.signed s m k < VB := by
  have h : m <<< k < VB := by
    rw [Nat.shiftLeft_eq]
    have h2 : m * 2 ^ k < 2 ^ 53 * 2 ^ k := Nat.mul_lt_mul_of_pos_right hm (Nat.two_pow_pos k)
    rw [← Nat.pow_add] at h2
    exact Nat.lt_of_lt_of_le h2 (VB_ge (53 + k) (by clear h2 hm; omega))
  generalize hq : m <<< k = q at h
  cases s
  · have e : Ieee.signed false m k = (q : Int) := by rw [← hq]; rfl
    rw [e]; omega
  · have e : Ieee.signed true m k = -(q : Int) := by rw [← hq]; rfl
    rw [e]; omega
theorem signed_add (s : Bool) (m a d : Nat) : Ieee.signed s m (a + d) = Ieee.signed s m a * ((2 ^ d : Nat) : Int) := by
  have h : m <<< (a + d) = m <<< a * 2 ^ d := by rw [Nat.shiftLeft_eq, Nat.shiftLeft_eq, Nat.pow_add, Nat.mul_assoc]
  have hc : ((m <<< (a + d) : Nat) : Int) = ((m <<< a : Nat) : Int) * ((2 ^ d : Nat) : Int) := by rw [h, Int.natCast_mul]
  cases s
  · exact hc
  · show -((m <<< (a + d) : Nat) : Int) = -((m <<< a : Nat) : Int) * ((2 ^ d : Nat) : Int)
    rw [hc, Int.neg_mul]
theorem cmp_mul (a b : Int) (d : Nat) (hd : 0 < d) : compare (a * (d : Int)) (b * (d : Int)) = compare a b := by
  have hd' : (0 : Int) < (d : Int) := by omega
  rcases Int.lt_trichotomy a b with h | h | h
  · rw [Int.compare_eq_lt.2 h, Int.compare_eq_lt.2 (Int.mul_lt_mul_of_pos_right h hd')]
  · subst h; rw [Int.compare_eq_eq.2 rfl, Int.compare_eq_eq.2 rfl]
  · rw [Int.compare_eq_gt.2 h, Int.compare_eq_gt.2 (Int.mul_lt_mul_of_pos_right h hd')]
theorem cmp_shift (s t : Bool) (m n : Nat) (i j : Int) (hi : -1074 ≤ i) (hj : -1074 ≤ j) : compare (Ieee.signed s m (i - min i j).toNat) (Ieee.signed t n (j - min i j).toNat) = compare (Ieee.signed s m (i + 1074).toNat) (Ieee.signed t n (j + 1074).toNat) := by
  have e1 : (i + 1074).toNat = (i - min i j).toNat + (min i j + 1074).toNat := by omega
  have e2 : (j + 1074).toNat = (j - min i j).toNat + (min i j + 1074).toNat := by omega
  rw [e1, e2, signed_add, signed_add, cmp_mul _ _ _ (Nat.two_pow_pos _)]
theorem fo_V (x y : Nat) : fo x y = (V x).bind fun a => (V y).map fun b => compare a b := by
  unfold fo V
  show (Ieee.double.read x).order (Ieee.double.read y) = _
  have hp := VB_pos
  cases hx : Ieee.double.read x with
  | nan s f => rfl
  | infinity s =>
    cases hy : Ieee.double.read y with
    | nan t f => rfl
    | infinity t =>
      simp only [Ieee.Datum.order, Option.bind_some, Option.map_some, Option.some.injEq]
      cases s <;> cases t <;> simp only [if_true, if_false, Bool.false_eq_true, Bool.toNat_true, Bool.toNat_false]
      · rw [Int.compare_eq_eq.2 rfl]; rfl
      · rw [Int.compare_eq_gt.2 (by omega)]; rfl
      · rw [Int.compare_eq_lt.2 (by omega)]; rfl
      · rw [Int.compare_eq_eq.2 rfl]; rfl
    | number t n j =>
      obtain ⟨h1, h2, h3⟩ := read_bd hy
      obtain ⟨h4, h5⟩ := signed_bd t n (j + 1074).toNat h1 (by omega)
      simp only [Ieee.Datum.order, Option.bind_some, Option.map_some, Option.some.injEq]
      cases s
      · simp only [Bool.false_eq_true, if_false]; rw [Int.compare_eq_gt.2 (by omega)]
      · simp only [if_true]; rw [Int.compare_eq_lt.2 (by omega)]
  | number s m i =>
    obtain ⟨g1, g2, g3⟩ := read_bd hx
    obtain ⟨g4, g5⟩ := signed_bd s m (i + 1074).toNat g1 (by omega)
    cases hy : Ieee.double.read y with
    | nan t f => rfl
    | infinity t =>
      simp only [Ieee.Datum.order, Option.bind_some, Option.map_some, Option.some.injEq]
      cases t
      · simp only [Bool.false_eq_true, if_false]; rw [Int.compare_eq_lt.2 (by omega)]
      · simp only [if_true]; rw [Int.compare_eq_gt.2 (by omega)]
    | number t n j =>
      obtain ⟨h1, h2, h3⟩ := read_bd hy
      simp only [Ieee.Datum.order, Option.bind_some, Option.map_some, Option.some.injEq]
      exact cmp_shift s t m n i j g2 h2
theorem fo_some {x y : Nat} {a b : Int} (hx : V x = some a) (hy : V y = some b) : fo x y = some (compare a b) := by rw [fo_V, hx, hy]; rfl
end Go.Proofs.Ytmcfihpbiilbcaa.H
