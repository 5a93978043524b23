/- Plain laws of layer 4: what alu's functions and their reference come to. -/
import Derived.Test.YtkolcgnembaghaaBitsM
import Derived.Test.YtkolcgnembaghaaQx3
namespace Go.Proofs.Ytkolcgnembaghaa.H
open Go.RowKit Go.Proofs.YtkolcgnembaghaaW.PrintWords Go.Proofs.YtkolcgnembaghaaW.PrintLast Go.Proofs.YtkolcgnembaghaaW.PrintMore Go.Proofs.Ytkolcgnembaghaa.Q
set_option linter.unusedVariables false
set_option linter.unusedSimpArgs false

theorem qcut (x n : Int) : bits_Cut.f x n = some (cutS x n) := bitsCut_eq x n
theorem qsigned (x : Int) (h0 : 0 ≤ x) (h1 : x ≤ 4294967295) : bits_Signed.f x = some (signS x 32) := bitsSigned_eq x h0 h1
theorem qsign (x : Int) (h0 : 0 ≤ x) (h1 : x ≤ 4294967295) : spliceref01_Sign.f 41 x 32 = some (signS x 32) := refSign_eq x 32 h0 h1
theorem sign32 (x : Int) (h0 : 0 ≤ x) (h1 : x ≤ 4294967295) : signS x 32 = if x < 2147483648 then x else x - 4294967296 := by
  unfold signS
  rw [if_pos (by decide)]
  have e1 : (2 : Int) ^ (32 : Int).toNat = 4294967296 := by decide +kernel
  have e2 : (2 : Int) ^ ((32 : Int).toNat - 1) = 2147483648 := by decide +kernel
  rw [e1, e2, Int.emod_eq_of_lt h0 (by omega)]
theorem wrap32_sign (x : Int) (h0 : 0 ≤ x) (h1 : x ≤ 4294967295) : wrap32 x = signS x 32 := by
  rw [sign32 x h0 h1]
  unfold wrap32
  split <;> omega
theorem qfits (x : Int) : bits_Fits.f x 16 = some (decide (-32768 ≤ x) && decide (x < 32768)) := by
  have e0 : bits_may.f 16 = some true := by decide +kernel
  have e1 : shl .i64 (-1) (wrap64 (16 - 1)) = -32768 := by decide +kernel
  have e2 : shl .i64 1 (wrap64 (16 - 1)) = 32768 := by decide +kernel
  have e3 : 0 ≤ wrap64 (16 - 1) := by decide +kernel
  unfold bits_Fits.f
  rw [e0, Option.bind_some, if_pos rfl, if_pos e3, e1, e2]
  by_cases c : x ≥ -32768
  · rw [if_pos c]; simp only [ge_iff_le] at c; simp [c]
  · rw [if_neg c]; simp only [ge_iff_le] at c; simp [c]
theorem cut16 (x : Int) : cutS x 16 = x % 65536 := by
  unfold cutS
  rw [if_pos (by decide)]
  have e1 : (2 : Int) ^ (16 : Int).toNat = 65536 := by decide +kernel
  rw [e1]
theorem cut32 (x : Int) : cutS x 32 = x % 4294967296 := by
  unfold cutS
  rw [if_pos (by decide)]
  have e1 : (2 : Int) ^ (32 : Int).toNat = 4294967296 := by decide +kernel
  rw [e1]
theorem and_low (x : Int) (h0 : 0 ≤ x) (h1 : x ≤ 4294967295) : Go.bits .and .u32 x 65535 = x % 65536 := by
  obtain ⟨n, rfl⟩ := Int.eq_ofNat_of_zero_le h0
  rw [show (65535 : Int) = ((2 ^ 16 - 1 : Nat) : Int) by decide]
  rw [u32_and_nat _ _ (by omega) (by decide), Nat.and_two_pow_sub_one_eq_mod]
  simp
theorem or_low (h l : Int) (h0 : 0 ≤ h) (h1 : h ≤ 65535) (l0 : 0 ≤ l) (l1 : l ≤ 65535) : Go.bits .or .u32 (h * 65536) l = h * 65536 + l := by
  obtain ⟨n, rfl⟩ := Int.eq_ofNat_of_zero_le h0
  obtain ⟨m, rfl⟩ := Int.eq_ofNat_of_zero_le l0
  rw [show ((n : Int) * 65536) = ((2 ^ 16 * n : Nat) : Int) by simp; omega]
  rw [u32_or_nat _ _ (by omega) (by omega), ← Nat.two_pow_add_eq_or_of_lt (by omega)]
  omega

/-- what Const answers. -/
def constS (a w : Int) : List S51 :=
  if a < 1 ∨ a ≥ 16 then [] else
  if -32768 ≤ signS w 32 ∧ signS w 32 < 32768 then [⟨8, a, 0, 0, signS w 32⟩] else
  if w % 65536 = 0 then [⟨9, a, 0, 0, w / 65536⟩] else [⟨9, a, 0, 0, w / 65536⟩, ⟨10, a, a, 0, w % 65536⟩]
theorem qconst (k : Nat) (a w : Int) (h0 : 0 ≤ w) (h1 : w ≤ 4294967295) : alu_Const.f (k + 1) a w = some (constS a w) := by
  have e : alu_Const.f (k + 1) a w = alu_Const.j0 (k + 1) a w (decide (a < 1 ∨ a ≥ 16)) := by
    unfold alu_Const.f
    by_cases c : a < 1
    · rw [if_pos c]; simp [c]
    · rw [if_neg c]; simp [c]
  rw [e, alu_Const.j0]
  unfold constS
  by_cases c : a < 1 ∨ a ≥ 16
  · rw [if_pos (by simp only [c, decide_true]), if_pos c]
  rw [if_neg (by simp only [c, decide_false]; decide), if_neg c, qsigned w h0 h1, Option.bind_some, qfits, Option.bind_some]
  by_cases d : -32768 ≤ signS w 32 ∧ signS w 32 < 32768
  · rw [if_pos (by simp [d.1, d.2]), if_pos d]
  rw [if_neg (by simp; omega), if_neg d, Option.bind_some, and_low w h0 h1, wrap64_id (x := w / 65536) (by omega) (by omega), wrap64_id (x := w % 65536) (by omega) (by omega)]
  by_cases e : w % 65536 = 0
  · rw [if_pos e, if_pos e]
  · rw [if_neg e, if_neg e, if_pos (by simp)]; rfl
theorem constS_small (a w : Int) : (constS a w).length ≤ 2 := by
  unfold constS; repeat' split
  all_goals simp

theorem qless (x y : Int) (h0 : 0 ≤ x) (h1 : x ≤ 4294967295) (h2 : 0 ≤ y) (h3 : y ≤ 4294967295) : alu_less.f x y = some (decide (signS x 32 < signS y 32)) := by
  unfold alu_less.f
  rw [wrap32_sign x h0 h1, wrap32_sign y h2 h3]

theorem right8 (a n : Int) (h0 : 1 ≤ a) (h1 : a ≤ 15) (h2 : -32768 ≤ n) (h3 : n ≤ 32767) : spliceref02_Right.f 8 a 0 0 n = some true := by
  have h0' : 0 ≤ a := by omega
  simp [spliceref02_Right.f, spliceref02_three.f, spliceref02_near.f, spliceref02_reg.f, h0', h1, h2, h3]
theorem right9 (a n : Int) (h0 : 1 ≤ a) (h1 : a ≤ 15) (h2 : 0 ≤ n) (h3 : n ≤ 65535) : spliceref02_Right.f 9 a 0 0 n = some true := by
  have h0' : 0 ≤ a := by omega
  simp [spliceref02_Right.f, spliceref02_three.f, spliceref02_near.f, spliceref02_branch.f, spliceref02_reg.f, h0', h1, h2, h3]
theorem right10 (a n : Int) (h0 : 1 ≤ a) (h1 : a ≤ 15) (h2 : 0 ≤ n) (h3 : n ≤ 65535) : spliceref02_Right.f 10 a a 0 n = some true := by
  have h0' : 0 ≤ a := by omega
  simp [spliceref02_Right.f, spliceref02_three.f, spliceref02_near.f, spliceref02_branch.f, spliceref02_reg.f, h0', h1, h2, h3]
theorem awake_q : splicelaw04_awake.f 1 = some true := by
  unfold splicelaw04_awake.f
  rw [qconst 0 1 65536 (by decide) (by decide)]
  decide +kernel
theorem awake_k (k : Nat) : splicelaw04_awake.f (k + 1) = some true := by
  unfold splicelaw04_awake.f
  rw [qconst k 1 65536 (by decide) (by decide)]
  decide +kernel
end Go.Proofs.Ytkolcgnembaghaa.H
