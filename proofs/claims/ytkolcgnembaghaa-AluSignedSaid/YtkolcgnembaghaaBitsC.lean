/- The contracts of layer 1's functions, over the plain laws. -/
import Derived.Test.YtkolcgnembaghaaBitsW
import Derived.Test.YtkolcgnembaghaaEq4

namespace Go.Proofs.Ytkolcgnembaghaa.H
open Go.RowKit Go.Proofs.YtkolcgnembaghaaW.PrintWords Go.Proofs.YtkolcgnembaghaaW.PrintLast Go.Proofs.YtkolcgnembaghaaW.PrintMore Go.Proofs.Ytkolcgnembaghaa.F
set_option linter.unusedVariables false
set_option linter.unusedSimpArgs false

theorem hid {p : Prop} (h : p) : Hid p := h

theorem put_c (x : Int) (h0 : 0 ≤ x) (h1 : x ≤ 4294967295) (w : World) :
    Calls Try.prog 19 #[.int .u32 x] w fun e w' => e = .returned (.agg #[.int .u8 (x % 256), .int .u8 (x / 256 % 256), .int .u8 (x / 65536 % 256), .int .u8 (x / 16777216)]) ∧ Below w.heap.size w w' := by
  go_enter Try.func19, Try.ntmps19
  go_wp2
  refine bodyPost_ret (v := .agg #[.int .u8 (x % 256), .int .u8 (x / 256 % 256), .int .u8 (x / 65536 % 256), .int .u8 (x / 16777216)]) (by simp [results, Try.results19, go_sem]) rfl ⟨rfl, (Below.refl _ _).alloc (Nat.le_refl _) _⟩

theorem pow_le32 (n : Int) (h0 : 1 ≤ n) (h1 : n ≤ 32) : (1 : Int) ≤ 2 ^ (n.toNat - 1) ∧ (2 : Int) ^ (n.toNat - 1) ≤ 2147483648 := by
  have h : 2 ^ (n.toNat - 1) ≤ 2 ^ 31 := Nat.pow_le_pow_right (by decide) (by omega)
  have h' : 1 ≤ 2 ^ (n.toNat - 1) := Nat.one_le_two_pow
  have e : ((2 ^ (n.toNat - 1) : Nat) : Int) = 2 ^ (n.toNat - 1) := by simp
  omega

theorem fits_c (x n : Int) (w : World) :
    Calls Try.prog 26 #[.int .i64 x, .int .i64 n] w fun e w' => e = .returned (.bool (fitsS x n)) ∧ Drawn0 w w' := by
  have hm := may_eq n
  by_cases hn : 1 ≤ n ∧ n ≤ 32
  · obtain ⟨h0, h1⟩ := hn
    have hp := pow_le32 n h0 h1
    have e1 : wrap64 (-2 ^ (n.toNat - 1)) = -2 ^ (n.toNat - 1) := wrap64_id (by omega) (by omega)
    have e2 : wrap64 (2 ^ (n.toNat - 1)) = 2 ^ (n.toNat - 1) := wrap64_id (by omega) (by omega)
    have e3 : fitsS x n = (decide (-2 ^ (n.toNat - 1) ≤ x) && decide (x < 2 ^ (n.toNat - 1))) := by unfold fitsS; simp [h0, h1]
    rw [e3]
    rw [show decide (1 ≤ n ∧ n ≤ 32) = true by simp [h0, h1]] at hm
    have E1 := hid e1
    have E2 := hid e2
    have HM := hid hm
    clear e1 e2 e3 hp hm
    go_enter Try.func26, Try.ntmps26
    go_wp2_with (go_at_call 48; (with_reducible refine (bits_may.calls n true _ HM.out).mono ?_); rintro e w' ⟨rfl, ⟨nd, rfl⟩⟩)
    · go_ret
      have h : wrap64 (-2 ^ (n.toNat - 1)) ≤ x := by assumption
      rw [E1.out] at h
      exact ⟨by rw [E2.out]; simp [h], ⟨⟨_, rfl⟩⟩⟩
    · go_ret
      have h : x < wrap64 (-2 ^ (n.toNat - 1)) := by assumption
      rw [E1.out] at h
      exact ⟨by simp [show ¬ -2 ^ (n.toNat - 1) ≤ x by omega], ⟨⟨_, rfl⟩⟩⟩
  · have e3 : fitsS x n = false := by
      unfold fitsS
      by_cases a : 1 ≤ n
      · have : ¬ n ≤ 32 := fun b => hn ⟨a, b⟩
        simp [this]
      · simp [a]
    rw [e3]
    rw [show decide (1 ≤ n ∧ n ≤ 32) = false by simp; omega] at hm
    have HM := hid hm
    clear e3 hm
    go_enter Try.func26, Try.ntmps26
    go_wp2_with (go_at_call 48; (with_reducible refine (bits_may.calls n false _ HM.out).mono ?_); rintro e w' ⟨rfl, ⟨nd, rfl⟩⟩)
    go_ret
    exact ⟨rfl, ⟨⟨_, rfl⟩⟩⟩

theorem cut_c (x n : Int) (w : World) : Calls Try.prog 27 #[.int .i64 x, .int .i64 n] w fun e w' => e = .returned (.int .u32 (cutS x n)) ∧ Drawn0 w w' := bits_Cut.calls x n _ w (bitsCut_eq x n)
theorem sign_c (x n : Int) (h0 : 0 ≤ x) (h1 : x ≤ 4294967295) (hn0 : -9223372036854775808 ≤ n) (hn1 : n ≤ 9223372036854775807) (w : World) :
    Calls Try.prog 25 #[.int .u32 x, .int .i64 n] w fun e w' => e = .returned (.int .i64 (signS x n)) ∧ Drawn0 w w' := bits_Sign.calls x n _ w (bitsSign_eq x n h0 h1 hn0 hn1)
theorem signed_c (x : Int) (h0 : 0 ≤ x) (h1 : x ≤ 4294967295) (w : World) :
    Calls Try.prog 31 #[.int .u32 x] w fun e w' => e = .returned (.int .i64 (signS x 32)) ∧ Drawn0 w w' := bits_Signed.calls x _ w (bitsSigned_eq x h0 h1)
theorem get_c (A : Option Addr) (c : Nat) (l : List Int) (w : World) (hr : Kd.C (Kd.int .u8) w A l.length l) (hc : l.length ≤ c) (hl : Bytes l) :
    Calls Try.prog 22 #[.slice A l.length c] w fun e w' => e = .returned (.int .u32 (wordOf l)) ∧ Below w.heap.size w w' := bits_Get.calls 5 A c l _ w hr hc (bitsGet_eq l hl)
theorem rfits_c (x n : Int) (w : World) : Calls Try.prog 28 #[.int .i64 x, .int .i64 n] w fun e w' => e = .returned (.bool (fitsS x n)) ∧ Drawn0 w w' := spliceref01_Fits.calls 40 x n _ w (refFits_eq x n)
theorem rcut_c (x n : Int) (h0 : -9223372036854775808 ≤ x) (h1 : x ≤ 9223372036854775807) (w : World) :
    Calls Try.prog 29 #[.int .i64 x, .int .i64 n] w fun e w' => e = .returned (.int .u32 (cutS x n)) ∧ Drawn0 w w' := spliceref01_Cut.calls 41 x n _ w (refCut_eq x n h0 h1)
theorem rsign_c (x n : Int) (h0 : 0 ≤ x) (h1 : x ≤ 4294967295) (w : World) :
    Calls Try.prog 30 #[.int .u32 x, .int .i64 n] w fun e w' => e = .returned (.int .i64 (signS x n)) ∧ Drawn0 w w' := spliceref01_Sign.calls 41 x n _ w (refSign_eq x n h0 h1)
theorem rget_c (A : Option Addr) (c : Nat) (l : List Int) (w : World) (hr : Kd.C (Kd.int .u8) w A l.length l) (hc : l.length ≤ c) (hl : Bytes l) :
    Calls Try.prog 23 #[.slice A l.length c] w fun e w' => e = .returned (.int .u32 (wordOf l)) ∧ Drawn0 w w' := spliceref01_Get.calls 5 A c l _ w hr hc (refGet_eq l hl)
theorem rput_c (x : Int) (h0 : 0 ≤ x) (h1 : x ≤ 4294967295) (w : World) :
    Calls Try.prog 21 #[.int .u32 x] w fun e w' => ∃ v, e = .returned v ∧ Kd.R (Kd.int .u8) 5 w' w.heap.size (fun _ => True) v [x % 256, x / 256 % 256, x / 65536 % 256, x / 16777216] ∧ Below w.heap.size w w' := spliceref01_Put.calls x _ w (refPut_eq x h0 h1)
theorem same_c (A : Option Addr) (c : Nat) (l : List Int) (B : Option Addr) (d : Nat) (m : List Int) (w : World) (hr : Kd.C (Kd.int .u8) w A l.length l) (hc : l.length ≤ c) (hs : Kd.C (Kd.int .u8) w B m.length m) (hd : m.length ≤ d) (hL : l.length ≤ 4611686018427387904) :
    Calls Try.prog 20 #[.slice A l.length c, .slice B m.length d] w fun e w' => e = .returned (.bool (decide (l = m))) ∧ Drawn0 w w' := spliceref01_Same.calls (l.length + 1) A c l B d m _ w hr hc hs hd (refSame_eq l m hL)

def upS (x a : Int) : Int := if x < 0 ∨ x > 1099511627776 ∨ a < 1 ∨ a > 1048576 then -1 else (x + a - 1) / a * a
theorem bitsUp_eq (x a : Int) : bits_Up.f x a = some (upS x a) := by
  unfold bits_Up.f upS
  by_cases h1 : x < 0
  · rw [if_pos h1, if_pos (by omega)]
  rw [if_neg h1]
  by_cases h2 : x > 1099511627776
  · rw [if_pos h2, if_pos (by omega)]
  rw [if_neg h2]
  by_cases h3 : a < 1
  · rw [if_pos h3, if_pos (by omega)]
  rw [if_neg h3]
  by_cases h4 : a > 1048576
  · rw [if_pos h4, if_pos (by omega)]
  rw [if_neg h4, if_neg (by omega), if_neg (by omega)]
  rw [wrap64_id (x := x + a) (by omega) (by omega), wrap64_id (x := x + a - 1) (by omega) (by omega), Int.tdiv_eq_ediv_of_nonneg (by omega)]
  have a1 : 0 ≤ (x + a - 1) / a := Int.ediv_nonneg (by omega) (by omega)
  have a2 : (x + a - 1) / a * a ≤ x + a - 1 := Int.ediv_mul_le _ (by omega)
  have a3 : 0 ≤ (x + a - 1) / a * a := Int.mul_nonneg a1 (by omega)
  have a4 : (x + a - 1) / a ≤ x + a - 1 := Int.ediv_le_self _ (by omega)
  rw [wrap64_id (x := (x + a - 1) / a) (by omega) (by omega), wrap64_id (by omega) (by omega)]
theorem up_c (x a : Int) (w : World) : Calls Try.prog 24 #[.int .i64 x, .int .i64 a] w fun e w' => e = .returned (.int .i64 (upS x a)) ∧ Drawn0 w w' := bits_Up.calls x a _ w (bitsUp_eq x a)

theorem C_cells {k : IntKind} {w : World} {ad : Addr} {l : List Int} (hl : l.length ≤ 9223372036854775807) (h : ∀ j p, l[j]? = some p → w.cell? (ad.add j) = some (.int k p)) : Kd.C (Kd.int k) w (some ad) l.length l :=
  ⟨rfl, hl, fun _ => ⟨ad, rfl, fun j p hj => ⟨[.int k p], rfl, rfl, fun i u hu => by
    match i, hu with
    | 0, hu => simp at hu; subst hu; rw [show j * (Kd.int k).sz + 0 = j from Nat.mul_one j]; exact h j p hj
    | i + 1, hu => simp at hu⟩⟩⟩
theorem C_block {k : IntKind} {w : World} {g : Nat} {l : List Int} {cs : Array Value} {t : TypeId} {fr : Nat × Nat} (hb : w.heap[g]? = some (.cells cs t fr)) (hl : l.length ≤ 9223372036854775807) (h : ∀ (j : Nat) (p : Int), l[j]? = some p → cs[j]? = some (Value.int k p)) :
    Kd.C (Kd.int k) w (some ⟨g, 0, none⟩) l.length l :=
  C_cells hl fun j p hj => by rw [add_plain]; simp [World.cell?, hb, h j p hj]
theorem four {a b c d : Int} {k : IntKind} (j : Nat) (p : Int) (h : [a, b, c, d][j]? = some p) : (#[Value.int k a, .int k b, .int k c, .int k d])[j]? = some (.int k p) := by
  match j, h with
  | 0, h => simp at h ⊢; exact h
  | 1, h => simp at h ⊢; exact h
  | 2, h => simp at h ⊢; exact h
  | 3, h => simp at h ⊢; exact h
  | j + 4, h => simp at h
theorem get4_c (g : Nat) (a b c d : Int) (t : TypeId) (fr : Nat × Nat) (w : World) (hb : w.heap[g]? = some (.cells #[.int .u8 a, .int .u8 b, .int .u8 c, .int .u8 d] t fr)) (hl : Bytes [a, b, c, d]) :
    Calls Try.prog 22 #[.slice (some ⟨g, 0, none⟩) 4 4] w fun e w' => e = .returned (.int .u32 (a + 256 * b + 65536 * c + 16777216 * d)) ∧ Below w.heap.size w w' :=
  get_c (some ⟨g, 0, none⟩) 4 [a, b, c, d] w (C_block hb (by simp) four) (by simp) hl

theorem awake_c (w : World) : Calls Try.prog 18 #[] w fun e w' => e = .returned (.bool true) ∧ Below w.heap.size w w' := by
  have he := fun w => eql4 1 0 0 0 1 0 0 0 w
  have e1 : signS 255 8 = -1 := by decide +kernel
  have e2 : cutS (-1) 8 = 255 := by decide +kernel
  have e3 : fitsS 127 8 = true := by decide +kernel
  have e4 : fitsS 128 8 = false := by decide +kernel
  have e5 : upS 5 4 = 8 := by decide +kernel
  go_enter Try.func18, Try.ntmps18
  go_wp2_with fail
  refine (put_c 1 (by omega) (by omega) _).mono ?_
  rintro e w1 ⟨rfl, hb⟩
  go_wp2_with fail
  refine (get4_c w1.heap.size 1 0 0 0 25 (0, 0) _ (heap_alloc_new _ _) (by intro x hx; simp at hx; omega)).mono ?_
  rintro e w2 ⟨rfl, hb2⟩
  have hB : Hid (Below w.heap.size w w2) := hid (below_then (hb.alloc hb.size _) (below_alloc hb _).size hb2)
  clear hb hb2
  go_wp2_with (first
    | (go_at_call 25; (with_reducible refine (sign_c _ _ (by omega) (by omega) (by omega) (by omega) _).mono ?_); rintro e w' ⟨rfl, ⟨nd, rfl⟩⟩)
    | (go_at_call 27; (with_reducible refine (cut_c _ _ _).mono ?_); rintro e w' ⟨rfl, ⟨nd, rfl⟩⟩)
    | (go_at_call 26; (with_reducible refine (fits_c _ _ _).mono ?_); rintro e w' ⟨rfl, ⟨nd, rfl⟩⟩)
    | (go_at_call 24; (with_reducible refine (up_c _ _ _).mono ?_); rintro e w' ⟨rfl, ⟨nd, rfl⟩⟩))
  go_ret
  exact ⟨rfl, by repeat (first | exact hB.out | apply pw_below_drewN)⟩
end Go.Proofs.Ytkolcgnembaghaa.H
