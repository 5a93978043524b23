/- Plain laws of layer 1, at this seat's numbers: the word of bytes, the bytes of a word, same bytes. -/
import Derived.Test.YtmcfihpbiilbcaaFx2
namespace Go.Proofs.Ytmcfihpbiilbcaa.H
open Go.RowKit Go.Proofs.YtmcfihpbiilbcaaW.PrintWords Go.Proofs.YtmcfihpbiilbcaaW.PrintLast Go.Proofs.YtmcfihpbiilbcaaW.PrintMore Go.Proofs.Ytmcfihpbiilbcaa.F
set_option linter.unusedVariables false
set_option linter.unusedSimpArgs false

theorem wrap64_id {x : Int} (h0 : -9223372036854775808 ≤ x) (h1 : x ≤ 9223372036854775807) : wrap64 x = x := by unfold wrap64; omega
theorem hid {p : Prop} (h : p) : Hid p := h
def Bytes (l : List Int) : Prop := ∀ x ∈ l, 0 ≤ x ∧ x ≤ 255
def wordOf (l : List Int) : Int := l.getD 0 0 + 256 * l.getD 1 0 + 65536 * l.getD 2 0 + 16777216 * l.getD 3 0

theorem Bytes.get {l : List Int} (h : Bytes l) (i : Nat) : 0 ≤ l.getD i 0 ∧ l.getD i 0 ≤ 255 := by
  rw [List.getD_eq_getElem?_getD]
  rcases Nat.lt_or_ge i l.length with hi | hi
  · rw [List.getElem?_eq_getElem hi]; exact h _ (List.getElem_mem hi)
  · rw [List.getElem?_eq_none hi]; simp
theorem wordOf_range {l : List Int} (h : Bytes l) : 0 ≤ wordOf l ∧ wordOf l ≤ 4294967295 := by
  have h0 := h.get 0; have h1 := h.get 1; have h2 := h.get 2; have h3 := h.get 3
  unfold wordOf; omega

theorem or_join (p : Nat) (P : Int) (hP : P = 2 ^ p) (hp : p ≤ 24) (acc b : Int) (h0 : 0 ≤ acc) (h1 : acc < P) (h2 : 0 ≤ b) (h3 : b ≤ 255) : bits .or .u32 acc (b * P) = acc + b * P := by
  subst hP
  obtain ⟨A, rfl⟩ := Int.eq_ofNat_of_zero_le h0
  obtain ⟨B, rfl⟩ := Int.eq_ofNat_of_zero_le h2
  have hA : A < 2 ^ p := by have : ((A : Nat) : Int) < ((2 ^ p : Nat) : Int) := by simpa using h1
                            omega
  have hq : 2 ^ p ≤ 2 ^ 24 := Nat.pow_le_pow_right (by decide) hp
  have hB : B * 2 ^ p ≤ 255 * 2 ^ 24 := Nat.mul_le_mul (by omega) hq
  have e : ((B : Int) * 2 ^ p) = ((B * 2 ^ p : Nat) : Int) := by simp
  rw [e, u32_or_nat _ _ (by omega) (by omega), Nat.or_comm, nat_join p _ _ (by simp) hA]
  omega

theorem get_step (k : Nat) (l : List Int) (hl : Bytes l) (acc m i : Int) (p : Nat) (P : Int) (hP : P = 2 ^ p) (hp : (p : Int) = 8 * i) (hi0 : 0 ≤ i) (hi : i < m) (hm : m ≤ 4) (hil : i < (l.length : Int)) (h0 : 0 ≤ acc) (h1 : acc < P) :
    bits_Get.l0 (k + 1) l acc m i = bits_Get.l0 k l (acc + rd l i * P) m (i + 1) := by
  simp only [bits_Get.l0]
  have hb := hl.get i.toNat
  have hb' : 0 ≤ rd l i ∧ rd l i ≤ 255 := hb
  rw [if_pos hi, if_pos hi0, if_pos hil, wrap64_id (x := 8 * i) (by omega) (by omega), wrap64_id (x := i + 1) (by omega) (by omega), if_pos (by omega)]
  rw [show rd l i % 4294967296 = rd l i by omega]
  have e : shl .u32 (rd l i) (8 * i) = rd l i * P := by
    unfold shl
    rw [show (8 * i).toNat = p by omega, Nat.min_eq_left (by simp [IntKind.bits]; omega), ← hP, IntKind.wrap_u32']
    have hq : P ≤ 16777216 := by
      rw [hP]
      have : 2 ^ p ≤ 2 ^ 24 := Nat.pow_le_pow_right (by decide) (by omega)
      have h2 : ((2 ^ p : Nat) : Int) ≤ ((2 ^ 24 : Nat) : Int) := by omega
      simpa using h2
    have h3 : rd l i * P ≤ 255 * 16777216 := Int.mul_le_mul hb'.2 hq (by omega) (by omega)
    have h4 : 0 ≤ rd l i * P := Int.mul_nonneg hb'.1 (by omega)
    omega
  rw [e, or_join p P hP (by omega) acc (rd l i) h0 h1 hb'.1 hb'.2]

theorem get_end (k : Nat) (l : List Int) (acc m i : Int) (h : ¬ i < m) : bits_Get.l0 (k + 1) l acc m i = some acc := by
  simp only [bits_Get.l0]; rw [if_neg h]

theorem bitsGet_eq (l : List Int) (hl : Bytes l) : bits_Get.f 5 l = some (wordOf l) := by
  unfold bits_Get.f
  have h0 := hl.get 0; have h1 := hl.get 1; have h2 := hl.get 2; have h3 := hl.get 3
  have r0 : rd l 0 = l.getD 0 0 := rfl
  have r1 : rd l 1 = l.getD 1 0 := rfl
  have r2 : rd l 2 = l.getD 2 0 := rfl
  have r3 : rd l 3 = l.getD 3 0 := rfl
  have hd : ∀ j, l.length ≤ j → l.getD j 0 = 0 := fun j hj => by rw [List.getD_eq_getElem?_getD, List.getElem?_eq_none hj]; rfl
  unfold wordOf
  by_cases c0 : l.length = 0
  · rw [hd 0 (by omega), hd 1 (by omega), hd 2 (by omega), hd 3 (by omega)]
    rw [show mn 4 (l.length : Int) = 0 by unfold mn; rw [if_pos (by omega)]; omega, get_end _ _ _ _ _ (by omega)]
    rfl
  by_cases c1 : l.length = 1
  · rw [hd 1 (by omega), hd 2 (by omega), hd 3 (by omega)]
    rw [show mn 4 (l.length : Int) = 1 by unfold mn; rw [if_pos (by omega)]; omega, get_step 4 l hl 0 1 0 0 1 rfl (by omega) (by omega) (by omega) (by omega) (by omega) (by omega) (by omega), get_end _ _ _ _ _ (by omega), r0]
    congr 1; omega
  by_cases c2 : l.length = 2
  · rw [hd 2 (by omega), hd 3 (by omega)]
    rw [show mn 4 (l.length : Int) = 2 by unfold mn; rw [if_pos (by omega)]; omega, get_step 4 l hl 0 2 0 0 1 rfl (by omega) (by omega) (by omega) (by omega) (by omega) (by omega) (by omega),
      get_step 3 l hl _ 2 _ 8 256 rfl (by omega) (by omega) (by omega) (by omega) (by omega) (by omega) (by omega), get_end _ _ _ _ _ (by omega), r0, show (0 : Int) + 1 = 1 from rfl, r1]
    congr 1; omega
  by_cases c3 : l.length = 3
  · rw [hd 3 (by omega)]
    rw [show mn 4 (l.length : Int) = 3 by unfold mn; rw [if_pos (by omega)]; omega, get_step 4 l hl 0 3 0 0 1 rfl (by omega) (by omega) (by omega) (by omega) (by omega) (by omega) (by omega),
      get_step 3 l hl _ 3 _ 8 256 rfl (by omega) (by omega) (by omega) (by omega) (by omega) (by omega) (by omega), show (0 : Int) + 1 = 1 from rfl, get_step 2 l hl _ 3 _ 16 65536 rfl (by omega) (by omega) (by omega) (by omega) (by omega) (by omega) (by omega), get_end _ _ _ _ _ (by omega), r0, show (1 : Int) + 1 = 2 from rfl, r1, r2]
    congr 1; omega
  · rw [show mn 4 (l.length : Int) = 4 by unfold mn; split <;> omega, get_step 4 l hl 0 4 0 0 1 rfl (by omega) (by omega) (by omega) (by omega) (by omega) (by omega) (by omega),
      get_step 3 l hl _ 4 _ 8 256 rfl (by omega) (by omega) (by omega) (by omega) (by omega) (by omega) (by omega), show (0 : Int) + 1 = 1 from rfl, get_step 2 l hl _ 4 _ 16 65536 rfl (by omega) (by omega) (by omega) (by omega) (by omega) (by omega) (by omega), show (1 : Int) + 1 = 2 from rfl,
      get_step 1 l hl _ 4 _ 24 16777216 rfl (by omega) (by omega) (by omega) (by omega) (by omega) (by omega) (by omega), get_end _ _ _ _ _ (by omega), r0, show (2 : Int) + 1 = 3 from rfl, r1, r2, r3]
    congr 1; omega

theorem rget_in (k : Nat) (l : List Int) (hl : Bytes l) (acc i : Int) (h0 : 0 ≤ acc) (h1 : acc ≤ 4294967295) (hi0 : 0 ≤ i) (hi : i < (l.length : Int)) (h4 : i ≤ 3) :
    spliceref01_Get.l0 (k + 1) l acc i = spliceref01_Get.l0 k l (256 * acc + l.getD i.toNat 0) (i - 1) := by
  have hb := hl.get i.toNat
  simp only [spliceref01_Get.l0]
  rw [if_pos hi0, if_pos hi, if_pos hi0, show rd l i = l.getD i.toNat 0 from rfl, wrap64_id (x := l.getD i.toNat 0) (by omega) (by omega), wrap64_id (x := 256 * acc) (by omega) (by omega), wrap64_id (by omega) (by omega), wrap64_id (by omega) (by omega)]
theorem rget_out (k : Nat) (l : List Int) (acc i : Int) (h0 : 0 ≤ acc) (h1 : acc ≤ 4294967295) (hi0 : 0 ≤ i) (hi : ¬ i < (l.length : Int)) (h4 : i ≤ 3) :
    spliceref01_Get.l0 (k + 1) l acc i = spliceref01_Get.l0 k l (256 * acc + l.getD i.toNat 0) (i - 1) := by
  simp only [spliceref01_Get.l0]
  rw [if_pos hi0, if_neg hi, wrap64_id (x := 256 * acc) (by omega) (by omega), wrap64_id (by omega) (by omega), List.getD_eq_getElem?_getD, List.getElem?_eq_none (by omega)]
  simp
theorem rget (k : Nat) (l : List Int) (hl : Bytes l) (acc i : Int) (h0 : 0 ≤ acc) (h1 : acc ≤ 4294967295) (hi0 : 0 ≤ i) (h4 : i ≤ 3) :
    spliceref01_Get.l0 (k + 1) l acc i = spliceref01_Get.l0 k l (256 * acc + l.getD i.toNat 0) (i - 1) := by
  by_cases hi : i < (l.length : Int)
  · exact rget_in k l hl acc i h0 h1 hi0 hi h4
  · exact rget_out k l acc i h0 h1 hi0 hi h4

theorem refGet_eq (l : List Int) (hl : Bytes l) : spliceref01_Get.f 5 l = some (wordOf l) := by
  unfold spliceref01_Get.f
  have h0 := hl.get 0; have h1 := hl.get 1; have h2 := hl.get 2; have h3 := hl.get 3
  have e3 : ((3 : Int)).toNat = 3 := rfl
  have e2 : ((3 : Int) - 1) = 2 := rfl
  have e1 : ((2 : Int) - 1) = 1 := rfl
  have e0 : ((1 : Int) - 1) = 0 := rfl
  have t2 : ((2 : Int)).toNat = 2 := rfl
  have t1 : ((1 : Int)).toNat = 1 := rfl
  have t0 : ((0 : Int)).toNat = 0 := rfl
  rw [rget 4 l hl 0 3 (by omega) (by omega) (by omega) (by omega), e3, e2, rget 3 l hl _ 2 (by omega) (by omega) (by omega) (by omega), t2, e1, rget 2 l hl _ 1 (by omega) (by omega) (by omega) (by omega), t1, e0, rget 1 l hl _ 0 (by omega) (by omega) (by omega) (by omega), t0]
  simp only [spliceref01_Get.l0]
  rw [if_neg (by omega)]
  unfold wordOf
  congr 1
  omega

theorem refPut_eq (x : Int) (h0 : 0 ≤ x) (h1 : x ≤ 4294967295) : spliceref01_Put.f x = some [x % 256, x / 256 % 256, x / 65536 % 256, x / 16777216] := by
  unfold spliceref01_Put.f
  have hx : wrap64 x = x := wrap64_id (by omega) (by omega)
  rw [hx]
  simp only [Int.tmod_eq_emod_of_nonneg, Int.tdiv_eq_ediv_of_nonneg h0]
  rw [wrap64_id (x := x / 256) (by omega) (by omega), wrap64_id (x := x / 65536) (by omega) (by omega), wrap64_id (x := x / 16777216) (by omega) (by omega),
    Int.tmod_eq_emod_of_nonneg h0, Int.tmod_eq_emod_of_nonneg (show 0 ≤ x / 256 by omega), Int.tmod_eq_emod_of_nonneg (show 0 ≤ x / 65536 by omega)]
  congr 1
  simp only [List.cons.injEq, and_true]
  refine ⟨by omega, by omega, by omega, by omega⟩

theorem same_from (a b : List Int) (hlen : a.length = b.length) (hL : a.length ≤ 4611686018427387904) : ∀ (d : Nat) (k : Nat) (i : Int), 0 ≤ i → i ≤ a.length → (a.length : Int) - i = d → d < k →
    spliceref01_Same.l0 k a b i = some (decide (a.drop i.toNat = b.drop i.toNat)) := by
  intro d
  induction d with
  | zero =>
    intro k i h0 h1 hd hk
    obtain ⟨k, rfl⟩ : ∃ m, k = m + 1 := ⟨k - 1, by omega⟩
    simp only [spliceref01_Same.l0]
    rw [if_neg (by omega), List.drop_eq_nil_of_le (by omega), List.drop_eq_nil_of_le (by omega)]
    simp
  | succ d ih =>
    intro k i h0 h1 hd hk
    obtain ⟨k, rfl⟩ : ∃ m, k = m + 1 := ⟨k - 1, by omega⟩
    simp only [spliceref01_Same.l0]
    have ha : i.toNat < a.length := by omega
    have hb : i.toNat < b.length := by omega
    rw [if_pos (by omega), if_pos h0, if_pos (by omega), List.drop_eq_getElem_cons ha, List.drop_eq_getElem_cons hb]
    have ra : rd a i = a[i.toNat] := by unfold rd; rw [List.getD_eq_getElem?_getD, List.getElem?_eq_getElem ha]; rfl
    have rb : rd b i = b[i.toNat] := by unfold rd; rw [List.getD_eq_getElem?_getD, List.getElem?_eq_getElem hb]; rfl
    rw [ra, rb]
    by_cases e : a[i.toNat] = b[i.toNat]
    · rw [if_pos e, wrap64_id (by omega) (by omega), ih k (i + 1) (by omega) (by omega) (by omega) (by omega), show (i + 1).toNat = i.toNat + 1 by omega, e]
      simp only [List.cons.injEq, true_and]
    · rw [if_neg e, decide_eq_false (fun h => e (List.cons.inj h).1)]

theorem refSame_eq (a b : List Int) (hL : a.length ≤ 4611686018427387904) : spliceref01_Same.f (a.length + 1) a b = some (decide (a = b)) := by
  unfold spliceref01_Same.f
  by_cases h : a.length = b.length
  · rw [if_pos (by omega), same_from a b h hL a.length (a.length + 1) 0 (by omega) (by omega) (by omega) (by omega)]
    simp
  · rw [if_neg (by omega)]
    have : a ≠ b := fun e => h (by rw [e])
    simp [this]
end Go.Proofs.Ytmcfihpbiilbcaa.H
