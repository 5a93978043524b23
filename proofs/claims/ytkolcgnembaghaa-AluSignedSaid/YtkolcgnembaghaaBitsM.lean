/- Plain laws of layer 1: what the functions of bits and of its reference come to. -/
import Derived.Test.YtkolcgnembaghaaFx
namespace Go.Proofs.Ytkolcgnembaghaa.H
open Go.RowKit Go.Proofs.YtkolcgnembaghaaW.PrintWords Go.Proofs.YtkolcgnembaghaaW.PrintLast Go.Proofs.YtkolcgnembaghaaW.PrintMore Go.Proofs.Ytkolcgnembaghaa.F
set_option linter.unusedVariables false
set_option linter.unusedSimpArgs false

theorem cases32 (n : Int) (h1 : 1 ≤ n) (h2 : n ≤ 32) : n = 1 ∨ n = 2 ∨ n = 3 ∨ n = 4 ∨ n = 5 ∨ n = 6 ∨ n = 7 ∨ n = 8 ∨ n = 9 ∨ n = 10 ∨ n = 11 ∨ n = 12 ∨ n = 13 ∨ n = 14 ∨ n = 15 ∨ n = 16 ∨ n = 17 ∨ n = 18 ∨ n = 19 ∨ n = 20 ∨ n = 21 ∨ n = 22 ∨ n = 23 ∨ n = 24 ∨ n = 25 ∨ n = 26 ∨ n = 27 ∨ n = 28 ∨ n = 29 ∨ n = 30 ∨ n = 31 ∨ n = 32 := by omega

def fitsS (x n : Int) : Bool := decide (1 ≤ n) && decide (n ≤ 32) && decide (-(2 ^ (n.toNat - 1)) ≤ x) && decide (x < 2 ^ (n.toNat - 1))
def cutS (x n : Int) : Int := if 1 ≤ n ∧ n ≤ 32 then x % 2 ^ n.toNat else 0
def signS (w n : Int) : Int := if 1 ≤ n ∧ n ≤ 32 then (if w % 2 ^ n.toNat < 2 ^ (n.toNat - 1) then w % 2 ^ n.toNat else w % 2 ^ n.toNat - 2 ^ n.toNat) else 0

theorem power_eq (n : Int) (h1 : 1 ≤ n) (h2 : n ≤ 32) : spliceref01_Power.f 40 n = some (2 ^ n.toNat) := by
  rcases cases32 n h1 h2 with rfl | rfl | rfl | rfl | rfl | rfl | rfl | rfl | rfl | rfl | rfl | rfl | rfl | rfl | rfl | rfl | rfl | rfl | rfl | rfl | rfl | rfl | rfl | rfl | rfl | rfl | rfl | rfl | rfl | rfl | rfl | rfl <;> decide +kernel

theorem wrap64_id {x : Int} (h0 : -9223372036854775808 ≤ x) (h1 : x ≤ 9223372036854775807) : wrap64 x = x := by unfold wrap64; omega

theorem refFits_eq (x n : Int) : spliceref01_Fits.f 40 x n = some (fitsS x n) := by
  unfold spliceref01_Fits.f fitsS
  by_cases h1 : n < 1
  · rw [if_pos h1]; simp; omega
  · rw [if_neg h1]
    by_cases h2 : n > 32
    · rw [if_pos h2]; simp; omega
    · rw [if_neg h2, power_eq n (by omega) (by omega)]
      have h1' : 1 ≤ n := by omega
      have h2' : n ≤ 32 := by omega
      simp only [Option.bind_some, h1', h2', decide_true, Bool.true_and]
      clear h1 h2
      rcases cases32 n h1' h2' with rfl | rfl | rfl | rfl | rfl | rfl | rfl | rfl | rfl | rfl | rfl | rfl | rfl | rfl | rfl | rfl | rfl | rfl | rfl | rfl | rfl | rfl | rfl | rfl | rfl | rfl | rfl | rfl | rfl | rfl | rfl | rfl <;>
        (clear h1' h2'; simp [wrap64]; split <;> simp [*] <;> omega)

theorem may_eq (n : Int) : bits_may.f n = some (decide (1 ≤ n ∧ n ≤ 32)) := by
  unfold bits_may.f
  by_cases h1 : n ≥ 1
  · rw [if_pos h1]; simp [show 1 ≤ n from h1]
  · rw [if_neg h1]; simp; omega

theorem mod_eq (x p : Int) (h1 : 1 ≤ p) (h2 : p ≤ 4294967296) : spliceref01_Mod.f x p = some (x % p) := by
  unfold spliceref01_Mod.f
  have a := Int.emod_nonneg x (show p ≠ 0 by omega)
  have b := Int.emod_lt_of_pos x (show 0 < p by omega)
  rw [if_neg (by omega), Int.tmod_eq_emod, show p.natAbs = p.toNat by omega]
  split
  · rw [if_neg (by omega)]; simp
  · rw [if_pos (by omega), Int.toNat_of_nonneg (by omega), wrap64_id (by omega) (by omega), Int.sub_add_cancel]

theorem refCut_eq (x n : Int) (h0 : -9223372036854775808 ≤ x) (h1 : x ≤ 9223372036854775807) : spliceref01_Cut.f 41 x n = some (cutS x n) := by
  unfold spliceref01_Cut.f cutS
  by_cases h1 : n < 1
  · rw [if_pos h1, if_neg (by omega)]; rfl
  · rw [if_neg h1]
    by_cases h2 : n > 32
    · rw [if_neg (by omega)]; simp [h2, spliceref01_Cut.j0]
    · have h1' : 1 ≤ n := by omega
      have h2' : n ≤ 32 := by omega
      rw [if_pos ⟨h1', h2'⟩]
      simp only [h2, decide_false, spliceref01_Cut.j0, Bool.false_eq_true, if_false, power_eq n h1' h2', Option.bind_some]
      clear h1 h2
      rcases cases32 n h1' h2' with rfl | rfl | rfl | rfl | rfl | rfl | rfl | rfl | rfl | rfl | rfl | rfl | rfl | rfl | rfl | rfl | rfl | rfl | rfl | rfl | rfl | rfl | rfl | rfl | rfl | rfl | rfl | rfl | rfl | rfl | rfl | rfl <;>
        (clear h1' h2'; simp [mod_eq] <;> omega)

theorem signS_in (x n : Int) (h1 : 1 ≤ n) (h2 : n ≤ 32) : signS x n = if x % 2 ^ n.toNat < 2 ^ (n.toNat - 1) then x % 2 ^ n.toNat else x % 2 ^ n.toNat - 2 ^ n.toNat := by
  unfold signS; exact if_pos ⟨h1, h2⟩
theorem signS_out (x n : Int) (h : ¬ (1 ≤ n ∧ n ≤ 32)) : signS x n = 0 := by
  unfold signS; exact if_neg h

theorem refSign_eq (x n : Int) (h0 : 0 ≤ x) (h1 : x ≤ 4294967295) : spliceref01_Sign.f 41 x n = some (signS x n) := by
  unfold spliceref01_Sign.f
  by_cases h1 : n < 1
  · rw [if_pos h1, signS_out x n (by omega)]; rfl
  · rw [if_neg h1]
    by_cases h2 : n > 32
    · rw [signS_out x n (by omega)]; simp [h2, spliceref01_Sign.j0]
    · have h1' : 1 ≤ n := by omega
      have h2' : n ≤ 32 := by omega
      rw [signS_in x n h1' h2']
      simp only [h2, decide_false, spliceref01_Sign.j0, Bool.false_eq_true, if_false, power_eq n h1' h2', Option.bind_some, wrap64_id (x := x) (by omega) (by omega), Int.tmod_eq_emod_of_nonneg h0]
      clear h1 h2
      rcases cases32 n h1' h2' with rfl | rfl | rfl | rfl | rfl | rfl | rfl | rfl | rfl | rfl | rfl | rfl | rfl | rfl | rfl | rfl | rfl | rfl | rfl | rfl | rfl | rfl | rfl | rfl | rfl | rfl | rfl | rfl | rfl | rfl | rfl | rfl <;>
        (clear h1' h2'; simp only [wrap64, Int.reduceToNat, Int.reducePow, Nat.reduceSub, Int.reduceTDiv, Int.reduceEq, if_false]; split <;> split <;> (congr 1 <;> omega))

theorem bitsSign_eq (x n : Int) (h0 : 0 ≤ x) (h1 : x ≤ 4294967295) (hn0 : -9223372036854775808 ≤ n) (hn1 : n ≤ 9223372036854775807) : bits_Sign.f x n = some (signS x n) := by
  unfold bits_Sign.f
  rw [may_eq]
  by_cases hn : 1 ≤ n ∧ n ≤ 32
  · obtain ⟨h1', h2'⟩ := hn
    rw [signS_in x n h1' h2']
    simp only [h1', h2', and_self, decide_true, Option.bind_some, if_true]
    have hw : wrap64 (64 - n) = 64 - n := wrap64_id (by omega) (by omega)
    rw [hw, if_pos (show (0 : Int) ≤ 64 - n by omega)]
    have hu : IntKind.u64.wrap x = x := by rw [IntKind.wrap_u64]; omega
    rw [hu]
    congr 1
    rcases cases32 n h1' h2' with rfl | rfl | rfl | rfl | rfl | rfl | rfl | rfl | rfl | rfl | rfl | rfl | rfl | rfl | rfl | rfl | rfl | rfl | rfl | rfl | rfl | rfl | rfl | rfl | rfl | rfl | rfl | rfl | rfl | rfl | rfl | rfl <;>
      (clear h1' h2' hw hu hn0 hn1; simp only [wrap64, shl, shr, IntKind.wrap_u64, IntKind.bits, Int.reduceToNat, Int.reducePow, Nat.reduceSub, Int.reduceSub, Nat.min_def, Nat.reduceLeDiff, if_true]; split <;> omega)
  · rw [signS_out x n hn]; simp [hn]

theorem bitsSigned_eq (x : Int) (h0 : 0 ≤ x) (h1 : x ≤ 4294967295) : bits_Signed.f x = some (signS x 32) := by
  unfold bits_Signed.f; rw [bitsSign_eq x 32 h0 h1 (by omega) (by omega)]; rfl

theorem cutS_in (x n : Int) (h1 : 1 ≤ n) (h2 : n ≤ 32) : cutS x n = x % 2 ^ n.toNat := by
  unfold cutS; exact if_pos ⟨h1, h2⟩
theorem cutS_out (x n : Int) (h : ¬ (1 ≤ n ∧ n ≤ 32)) : cutS x n = 0 := by
  unfold cutS; exact if_neg h

theorem bitsCut_eq (x n : Int) : bits_Cut.f x n = some (cutS x n) := by
  unfold bits_Cut.f
  rw [may_eq]
  by_cases hn : 1 ≤ n ∧ n ≤ 32
  · obtain ⟨h1', h2'⟩ := hn
    rw [cutS_in x n h1' h2']
    simp only [h1', h2', and_self, decide_true, Option.bind_some, if_true]
    rw [if_pos (show (0 : Int) ≤ n by omega)]
    obtain ⟨A, hA⟩ : ∃ A : Nat, (A : Int) = x % 18446744073709551616 := ⟨(x % 18446744073709551616).toNat, by omega⟩
    rw [IntKind.wrap_u64 x, ← hA]
    have key : ∀ m : Nat, m ≤ 32 → bits .and .u64 (A : Int) ((2 ^ m - 1 : Nat) : Int) = ((A % 2 ^ m : Nat) : Int) := fun m hm => by
      have hp : 2 ^ m ≤ 2 ^ 32 := Nat.pow_le_pow_right (by decide) hm
      rw [u64_and_nat _ _ (by omega) (by omega), Nat.and_two_pow_sub_one_eq_mod]
    have hb : IntKind.u64.wrap (shl .u64 1 n - 1) = ((2 ^ n.toNat - 1 : Nat) : Int) := by
      rcases cases32 n h1' h2' with rfl | rfl | rfl | rfl | rfl | rfl | rfl | rfl | rfl | rfl | rfl | rfl | rfl | rfl | rfl | rfl | rfl | rfl | rfl | rfl | rfl | rfl | rfl | rfl | rfl | rfl | rfl | rfl | rfl | rfl | rfl | rfl <;> decide +kernel
    rw [hb, key _ (by omega)]
    congr 1
    rcases cases32 n h1' h2' with rfl | rfl | rfl | rfl | rfl | rfl | rfl | rfl | rfl | rfl | rfl | rfl | rfl | rfl | rfl | rfl | rfl | rfl | rfl | rfl | rfl | rfl | rfl | rfl | rfl | rfl | rfl | rfl | rfl | rfl | rfl | rfl <;>
      (clear h1' h2' key hb; simp only [Int.reduceToNat, Nat.reducePow, Int.reducePow]; omega)
  · rw [cutS_out x n hn]; simp [hn]
end Go.Proofs.Ytkolcgnembaghaa.H
