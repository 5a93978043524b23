/- Rounding to the nearest float: plain. -/
import Derived.Test.YtmcfihpbiilbcaaWgJ
namespace Go.Proofs.Ytmcfihpbiilbcaa.H
open Go.RowKit Go.Proofs.YtmcfihpbiilbcaaW.PrintWords Go.Proofs.YtmcfihpbiilbcaaW.PrintLast Go.Proofs.YtmcfihpbiilbcaaW.PrintMore Go.Proofs.Ytmcfihpbiilbcaa.E
set_option linter.unusedVariables false
set_option linter.unusedSimpArgs false
theorem V_word (L kept : Nat) (hk : kept ≤ 9007199254740992) (hL : L = 0 ∨ 4503599627370496 ≤ kept) (hb : L ≤ 2000) : V (L * 4503599627370496 + kept) = some ((kept * 2 ^ L : Nat) : Int) := by
  have e0 : Ieee.double.binade = 4503599627370496 := by decide +kernel
  have e1 : Ieee.double.signWeight = 9223372036854775808 := by decide +kernel
  have e2 : Ieee.double.infRung = 9218868437227405312 := by decide +kernel
  have e3 : Ieee.double.leastPlace = -1074 := by decide +kernel
  obtain ⟨r, hr⟩ : ∃ r, r = L * 4503599627370496 + kept := ⟨_, rfl⟩
  rw [← hr]
  have s1 : r % 9223372036854775808 = r := by omega
  have s2 : (r / 9223372036854775808 % 2 == 1) = false := by rw [show r / 9223372036854775808 = 0 by omega]; rfl
  have hread : Ieee.double.read r = if r < 4503599627370496 then .number false r (-1074) else if r < 9218868437227405312 then .number false (4503599627370496 + r % 4503599627370496) (-1074 + (r / 4503599627370496 - 1 : Nat)) else if r = 9218868437227405312 then .infinity false else .nan false (r - 9218868437227405312) := by
    unfold Ieee.Format.read
    simp only [e0, e1, e2, e3, s1, s2]
  have sg : ∀ m k : Nat, Ieee.signed false m k = ((m * 2 ^ k : Nat) : Int) := by
    intro m k
    rw [← Nat.shiftLeft_eq]
    rfl
  unfold V
  rw [hread]
  by_cases h1 : r < 4503599627370496
  · rw [if_pos h1]
    have h2 : L = 0 := by omega
    subst h2
    simp only [sg]
    rw [hr]
    simp
  · rw [if_neg h1, if_pos (by omega)]
    simp only [sg]
    rw [show (-1074 + ((r / 4503599627370496 - 1 : Nat) : Int) + 1074).toNat = r / 4503599627370496 - 1 by omega]
    by_cases h2 : kept = 9007199254740992
    · rw [show r / 4503599627370496 - 1 = L + 1 by omega, show r % 4503599627370496 = 0 by omega, h2, Nat.pow_succ]
      generalize 2 ^ L = z
      congr 1
      omega
    · rw [show r / 4503599627370496 - 1 = L by omega, show 4503599627370496 + r % 4503599627370496 = kept by omega]
theorem log2_mul_pow (m E : Nat) (hm : 0 < m) : (m * 2 ^ E).log2 = m.log2 + E := by
  have hT : m * 2 ^ E ≠ 0 := Nat.ne_of_gt (Nat.mul_pos hm (Nat.two_pow_pos E))
  have h1 := Nat.log2_self_le (n := m) (by omega)
  have h2 := Nat.lt_log2_self (n := m)
  apply Nat.le_antisymm
  · apply Nat.le_of_lt_succ
    rw [Nat.log2_lt hT, show (m.log2 + E).succ = m.log2 + 1 + E by omega, Nat.pow_add]
    exact Nat.mul_lt_mul_of_pos_right h2 (Nat.two_pow_pos E)
  · rw [Nat.le_log2 hT, Nat.pow_add]
    exact Nat.mul_le_mul_right _ h1
theorem near (m : Nat) (p : Int) (hm : 0 < m) (hp : -1074 ≤ p) (T : Nat) (hT : T = m * 2 ^ (p + 1074).toNat) (hb : T.log2 ≤ 2000) :
    ∃ kept, Ieee.double.nearest false m p = (T.log2 - 52) * 4503599627370496 + kept ∧ kept ≤ 9007199254740992 ∧ (T.log2 - 52 = 0 ∨ 4503599627370496 ≤ kept) ∧ (T % 2 ^ (T.log2 - 52) = 0 → kept = T / 2 ^ (T.log2 - 52)) := by
  have e0 : Ieee.double.binade = 4503599627370496 := by decide +kernel
  have e2 : Ieee.double.infRung = 9218868437227405312 := by decide +kernel
  have e3 : Ieee.double.leastPlace = -1074 := by decide +kernel
  have e4 : Ieee.double.fractionBits = 52 := rfl
  obtain ⟨E, hE⟩ : ∃ E, E = (p + 1074).toNat := ⟨_, rfl⟩
  rw [← hE] at hT
  have hlg : T.log2 = m.log2 + E := by rw [hT]; exact log2_mul_pow m E hm
  obtain ⟨L, hL⟩ : ∃ L, L = T.log2 - 52 := ⟨_, rfl⟩
  have hT0 : T ≠ 0 := by rw [hT]; exact Nat.ne_of_gt (Nat.mul_pos hm (Nat.two_pow_pos E))
  have t1 := Nat.log2_self_le hT0
  have t2 := Nat.lt_log2_self (n := T)
  rw [← hL]
  have d1 : T / 2 ^ L < 9007199254740992 := by
    rw [Nat.div_lt_iff_lt_mul (Nat.two_pow_pos L), show 9007199254740992 = 2 ^ 53 by decide, ← Nat.pow_add]
    exact Nat.lt_of_lt_of_le t2 (Nat.pow_le_pow_right (by decide) (by omega))
  have d2 : L = 0 ∨ 4503599627370496 ≤ T / 2 ^ L := by
    by_cases h : L = 0
    · exact .inl h
    · refine .inr ?_
      rw [Nat.le_div_iff_mul_le (Nat.two_pow_pos L), show 4503599627370496 = 2 ^ 52 by decide, ← Nat.pow_add]
      exact Nat.le_trans (Nat.pow_le_pow_right (by decide) (by omega)) t1
  have key : ∃ more : Nat, more ≤ 1 ∧ (T % 2 ^ L = 0 → more = 0) ∧ Ieee.Toward.even.cut false (m <<< (p - max (p + m.log2 - 52) (-1074)).toNat) (max (p + m.log2 - 52) (-1074) - p).toNat = T / 2 ^ L + more := by
    by_cases hLE : L ≤ E
    · refine ⟨0, by omega, fun _ => rfl, ?_⟩
      rw [show (max (p + m.log2 - 52) (-1074) - p).toNat = 0 by omega, show (p - max (p + m.log2 - 52) (-1074)).toNat = E - L by omega]
      have hq : T / 2 ^ L = m * 2 ^ (E - L) := by
        have : T = m * 2 ^ (E - L) * 2 ^ L := by rw [hT, Nat.mul_assoc, ← Nat.pow_add, show E - L + L = E by omega]
        rw [this, Nat.mul_div_cancel _ (Nat.two_pow_pos L)]
      rw [hq, Nat.shiftLeft_eq]
      unfold Ieee.Toward.cut
      simp [Nat.mod_one]
    · rw [show (max (p + m.log2 - 52) (-1074) - p).toNat = L - E by omega, show (p - max (p + m.log2 - 52) (-1074)).toNat = 0 by omega]
      obtain ⟨D, hD⟩ : ∃ D, D = L - E := ⟨_, rfl⟩
      have hTm : T / 2 ^ L = m / 2 ^ D ∧ T % 2 ^ L = m % 2 ^ D * 2 ^ E := by
        rw [show L = D + E by omega, Nat.pow_add, hT]
        exact ⟨Nat.mul_div_mul_right _ _ (Nat.two_pow_pos E), Nat.mul_mod_mul_right _ _ _⟩
      rw [hTm.1, hTm.2, ← hD]
      unfold Ieee.Toward.cut
      rw [Nat.shiftLeft_zero, Nat.min_eq_left (by omega), Nat.shiftLeft_eq, Nat.one_mul]
      refine ⟨_, ?_, ?_, rfl⟩
      · exact Bool.toNat_le _
      · intro h0
        have hr : m % 2 ^ D = 0 := by
          rcases Nat.mul_eq_zero.1 h0 with h | h
          · exact h
          · exact absurd h (Nat.ne_of_gt (Nat.two_pow_pos E))
        have hg := Nat.two_pow_pos D
        rw [hr]
        have b1 : decide (2 ^ D < 2 * 0) = false := decide_eq_false (by omega)
        have b2 : (2 ^ D == 2 * 0) = false := beq_eq_false_iff_ne.2 (by omega)
        simp only [b1, b2]
        rfl
  obtain ⟨more, h1, h2, h3⟩ := key
  refine ⟨T / 2 ^ L + more, ?_, by omega, ?_, fun h => by rw [h2 h, Nat.add_zero]⟩
  · unfold Ieee.Format.nearest
    rw [if_neg (by omega)]
    simp only [e0, e2, e3, e4]
    rw [show (((52 : Nat) : Int)) = 52 from rfl, h3, show (max (p + m.log2 - 52) (-1074) - -1074).toNat = L by omega]
    unfold Ieee.Format.word
    simp only [Bool.false_eq_true, if_false]
    exact Nat.min_eq_left (by omega)
  · rcases d2 with h | h
    · exact .inl h
    · exact .inr (by omega)
def VU : Nat := 1074
/-- The nearest float's value: at most a power of two that the number is at most; the number, where that is a small whole one. -/
theorem near_V (m : Nat) (p : Int) (hp : -1074 ≤ p) (T : Nat) (hT : T = m * 2 ^ (p + 1074).toNat) (e : Nat) (he : 53 ≤ e) (he2 : e ≤ 2000) (hTe : T ≤ 2 ^ e) :
    ∃ v : Nat, V (Ieee.double.nearest false m p) = some (v : Int) ∧ v ≤ 2 ^ e ∧ ∀ n, n < 2 ^ 53 → T = n * 2 ^ VU → v = T := by
  by_cases hm : m = 0
  · subst hm
    refine ⟨0, by show V (Ieee.double.nearest false 0 p) = some 0; unfold Ieee.Format.nearest; rw [if_pos rfl]; exact V0, Nat.zero_le _, fun n _ _ => ?_⟩
    rw [hT, Nat.zero_mul]
  · have hm0 : 0 < m := by omega
    have hT0 : T ≠ 0 := by rw [hT]; exact Nat.ne_of_gt (Nat.mul_pos hm0 (Nat.two_pow_pos _))
    have hlog : T.log2 ≤ e := by
      apply Nat.le_of_lt_succ
      rw [Nat.log2_lt hT0]
      exact Nat.lt_of_le_of_lt hTe (Nat.pow_lt_pow_right (by decide) (by omega))
    obtain ⟨kept, h1, h2, h3, h4⟩ := near m p hm0 hp T hT (by omega)
    have hv := V_word (T.log2 - 52) kept h2 h3 (by omega)
    refine ⟨kept * 2 ^ (T.log2 - 52), by rw [h1]; exact hv, ?_, ?_⟩
    · by_cases heq : T = 2 ^ e
      · have hl : T.log2 = e := by rw [heq]; exact Nat.log2_two_pow
        have hd : 2 ^ (T.log2 - 52) ∣ T := by rw [hl, heq]; exact Nat.pow_dvd_pow 2 (by omega)
        rw [h4 (Nat.mod_eq_zero_of_dvd hd), Nat.div_mul_cancel hd, heq]
        exact Nat.le_refl _
      · have hlt : T.log2 < e := (Nat.log2_lt hT0).2 (by omega)
        refine Nat.le_trans (Nat.mul_le_mul h2 (Nat.pow_le_pow_right (by decide) (show T.log2 - 52 ≤ e - 53 by omega))) ?_
        rw [show 9007199254740992 = 2 ^ 53 by decide, ← Nat.pow_add]
        exact Nat.pow_le_pow_right (by decide) (by omega)
    · intro n hn hTn
      have hn0 : 0 < n := by
        apply Nat.pos_of_ne_zero
        intro h
        rw [h, Nat.zero_mul] at hTn
        exact hT0 hTn
      have hl : T.log2 = n.log2 + 1074 := by rw [hTn]; exact log2_mul_pow n VU hn0
      have hnl : n.log2 < 53 := (Nat.log2_lt (by omega)).2 hn
      have hd : 2 ^ (T.log2 - 52) ∣ T := by
        rw [hl, hTn]
        exact Nat.dvd_trans (Nat.pow_dvd_pow 2 (by unfold VU; omega)) (Nat.dvd_mul_left _ _)
      rw [h4 (Nat.mod_eq_zero_of_dvd hd), Nat.div_mul_cancel hd]
/-- A sum of two nonnegative floats: its value. -/
theorem add_V {x y a b : Nat} (hx : V x = some (a : Int)) (hy : V y = some (b : Int)) (ox : okF x) (oy : okF y) (e : Nat) (he : 53 ≤ e) (he2 : e ≤ 2000) (ha : a ≤ 2 ^ e) (hb : b ≤ 2 ^ e) (hab : a + b ≤ 2 ^ e) :
    ∃ v : Nat, V (addF x y) = some (v : Int) ∧ v ≤ 2 ^ e ∧ ∀ n, n < 2 ^ 53 → a + b = n * 2 ^ VU → v = a + b := by
  have hVB : 2 ^ e < VB := by unfold VB; exact Nat.pow_lt_pow_right (by decide) (by unfold VE; omega)
  have num : ∀ {z c : Nat}, V z = some (c : Int) → okF z → c ≤ 2 ^ e → ∃ m i, Ieee.double.read z = .number false m i ∧ -1074 ≤ i ∧ c = m * 2 ^ (i + 1074).toNat := by
    intro z c hz oz hc
    rcases read_ok oz with ⟨m, i, h⟩ | h
    · refine ⟨m, i, h, (read_bd h).2.1, ?_⟩
      unfold V at hz
      rw [h] at hz
      have h3 : ((m <<< (i + 1074).toNat : Nat) : Int) = (c : Int) := by injection hz
      rw [Nat.shiftLeft_eq] at h3
      exact (Int.ofNat.inj h3).symm
    · unfold V at hz
      rw [h] at hz
      have h3 : (VB : Int) = (c : Int) := by injection hz
      omega
  obtain ⟨m, i, h1, hi, ea⟩ := num hx ox ha
  obtain ⟨n, j, h2, hj, eb⟩ := num hy oy hb
  have hadd : Ieee.double.add x y = some (Ieee.double.nearest false (m <<< (i - min i j).toNat + n <<< (j - min i j).toNat) (min i j)) := by
    unfold Ieee.Format.add
    rw [h1, h2]
    have s1 : ∀ q k : Nat, Ieee.signed false q k = ((q <<< k : Nat) : Int) := fun _ _ => rfl
    simp only [Ieee.Datum.sum, s1, Option.map_some]
    generalize m <<< (i - min i j).toNat = A
    generalize n <<< (j - min i j).toNat = B
    have t1 : ((A : Int) + (B : Int)).natAbs = A + B := by omega
    have t2 : (if (A : Int) + (B : Int) = 0 then (false && false) else decide ((A : Int) + (B : Int) < 0)) = false := by
      split
      · rfl
      · exact decide_eq_false (by omega)
    rw [t1, t2]
    rfl
  have haF : addF x y = Ieee.double.nearest false (m <<< (i - min i j).toNat + n <<< (j - min i j).toNat) (min i j) := by
    have h' : FloatKind.f64.format.add x y = some _ := hadd
    unfold addF
    rw [h']
    rfl
  rw [haF]
  refine near_V _ (min i j) (by omega) (a + b) ?_ e he he2 hab
  rw [ea, eb, Nat.shiftLeft_eq, Nat.shiftLeft_eq, Nat.add_mul, Nat.mul_assoc, Nat.mul_assoc, ← Nat.pow_add, ← Nat.pow_add, show (i - min i j).toNat + (min i j + 1074).toNat = (i + 1074).toNat by omega, show (j - min i j).toNat + (min i j + 1074).toNat = (j + 1074).toNat by omega]
end Go.Proofs.Ytmcfihpbiilbcaa.H
