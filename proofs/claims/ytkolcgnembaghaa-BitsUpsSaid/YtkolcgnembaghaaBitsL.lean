/- The walks of the laws of layer 1. -/
import Derived.Test.YtkolcgnembaghaaBitsC
namespace Go.Proofs.Ytkolcgnembaghaa.H
open Go.RowKit Go.Proofs.YtkolcgnembaghaaW.PrintWords Go.Proofs.YtkolcgnembaghaaW.PrintLast Go.Proofs.YtkolcgnembaghaaW.PrintMore Go.Proofs.Ytkolcgnembaghaa.F
set_option linter.unusedVariables false
set_option linter.unusedSimpArgs false

theorem bthen {w W W' : World} (h : Below w.heap.size w W) (k : Below W.heap.size W W') : Below w.heap.size w W' := below_then h h.size k

theorem ups_out (x a : Int) (h : x < 0 ∨ x > 1099511627776 ∨ a < 1 ∨ a > 1048576) : upS x a = -1 := by unfold upS; rw [if_pos h]
theorem ups_in (x a : Int) (h : ¬ (x < 0 ∨ x > 1099511627776 ∨ a < 1 ∨ a > 1048576)) : x ≤ upS x a ∧ upS x a - x < a ∧ upS x a % a = 0 ∧ upS x a ≤ 2199023255552 := by
  unfold upS; rw [if_neg h]
  have a0 := Int.emod_nonneg (x + a - 1) (show a ≠ 0 by omega)
  have a1 := Int.emod_lt_of_pos (x + a - 1) (show 0 < a by omega)
  have a2 := Int.emod_add_mul_ediv (x + a - 1) a
  rw [Int.mul_comm] at a2
  refine ⟨by omega, by omega, by simp, by omega⟩

theorem ups_walk (x a : Int) (hx0 : -9223372036854775808 ≤ x) (hx1 : x ≤ 9223372036854775807) (ha0 : -9223372036854775808 ≤ a) (ha1 : a ≤ 9223372036854775807) (w : World) :
    Calls Try.prog 4 #[.int .i64 x, .int .i64 a] w fun e w' => e = .returned (.bool true) ∧ Below w.heap.size w w' := by
  by_cases h : x < 0 ∨ x > 1099511627776 ∨ a < 1 ∨ a > 1048576
  · have hu := ups_out x a h
    go_enter Try.func4, Try.ntmps4
    rcases h with h | h | h | h
    all_goals
      go_wp2_with (first
        | (go_at_call 24; (with_reducible refine (up_c _ _ _).mono ?_); rintro e w' ⟨rfl, ⟨nd, rfl⟩⟩)
        | (go_at_call 18; (with_reducible refine (awake_c _).mono ?_); rintro e w' ⟨rfl, hb⟩))
    all_goals
      go_ret
      exact ⟨rfl, below_then (pw_below_drewN (Below.refl _ _) _) (by simp) (by simpa using hb)⟩
  · obtain ⟨h1, h2, h3, h4⟩ := ups_in x a h
    obtain ⟨u, hu⟩ : ∃ u, upS x a = u := ⟨_, rfl⟩
    rw [hu] at h1 h2 h3 h4
    have h5 : 0 ≤ x ∧ x ≤ 1099511627776 ∧ 1 ≤ a ∧ a ≤ 1048576 := by omega
    obtain ⟨h6, h7, h8, h9⟩ := h5
    clear h
    have h3' : (u % a == 0) = true := by rw [h3]; rfl
    clear h3
    go_enter Try.func4, Try.ntmps4
    go_wp2_with (first
      | (go_at_call 24; (with_reducible refine (up_c _ _ _).mono ?_); rintro e w' ⟨rfl, ⟨nd, rfl⟩⟩)
      | (go_at_call 18; (with_reducible refine (awake_c _).mono ?_); rintro e w' ⟨rfl, hb⟩))
    go_ret
    exact ⟨rfl, below_then (pw_below_drewN (Below.refl _ _) _) (by simp) (by simpa using hb)⟩

def powS (n : Int) : Int := 2 ^ n.toNat
theorem back_fits (w n : Int) (h0 : 1 ≤ n) (h1 : n ≤ 32) : fitsS (signS w n) n = true := by
  rw [signS_in w n h0 h1]
  unfold fitsS
  simp only [h0, h1, decide_true, Bool.true_and, Bool.and_eq_true, decide_eq_true_eq]
  have e : (2 : Int) ^ n.toNat = 2 * 2 ^ (n.toNat - 1) := by
    rw [show n.toNat = (n.toNat - 1) + 1 by omega, Int.pow_succ]; simp; omega
  have hp := pow_le32 n h0 h1
  have a := Int.emod_nonneg w (show (2 : Int) ^ n.toNat ≠ 0 by omega)
  have b := Int.emod_lt_of_pos w (show 0 < (2 : Int) ^ n.toNat by omega)
  split <;> omega
theorem back_sign (x n : Int) (h0 : 1 ≤ n) (h1 : n ≤ 32) (h : fitsS x n = true) : signS (cutS x n) n = x := by
  rw [signS_in _ n h0 h1, cutS_in x n h0 h1]
  unfold fitsS at h
  simp only [h0, h1, decide_true, Bool.true_and, Bool.and_eq_true, decide_eq_true_eq] at h
  obtain ⟨h2, h3⟩ := h
  have e : (2 : Int) ^ n.toNat = 2 * 2 ^ (n.toNat - 1) := by
    rw [show n.toNat = (n.toNat - 1) + 1 by omega, Int.pow_succ]; simp; omega
  have hp := pow_le32 n h0 h1
  rw [Int.emod_emod]
  by_cases hx : 0 ≤ x
  · rw [Int.emod_eq_of_lt hx (by omega), if_pos (by omega)]
  · have e2 : x % 2 ^ n.toNat = x + 2 ^ n.toNat := by
      rw [← Int.add_emod_right, Int.emod_eq_of_lt (by omega) (by omega)]
    rw [e2, if_neg (by omega)]; omega
theorem cutS_range (x n : Int) : 0 ≤ cutS x n ∧ cutS x n ≤ 4294967295 := by
  by_cases h : 1 ≤ n ∧ n ≤ 32
  · rw [cutS_in x n h.1 h.2]
    have hp := pow_le32 n h.1 h.2
    have e : (2 : Int) ^ n.toNat = 2 * 2 ^ (n.toNat - 1) := by
      rw [show n.toNat = (n.toNat - 1) + 1 by omega, Int.pow_succ]; simp; omega
    have a := Int.emod_nonneg x (show (2 : Int) ^ n.toNat ≠ 0 by omega)
    have b := Int.emod_lt_of_pos x (show 0 < (2 : Int) ^ n.toNat by omega)
    omega
  · rw [cutS_out x n h]; omega

theorem getw_c (g : Nat) (x : Int) (h0 : 0 ≤ x) (h1 : x ≤ 4294967295) (t : TypeId) (fr : Nat × Nat) (w : World) (hb : w.heap[g]? = some (.cells #[.int .u8 (x % 256), .int .u8 (x / 256 % 256), .int .u8 (x / 65536 % 256), .int .u8 (x / 16777216)] t fr)) :
    Calls Try.prog 22 #[.slice (some ⟨g, 0, none⟩) 4 4] w fun e w' => e = .returned (.int .u32 x) ∧ Below w.heap.size w w' := by
  refine (get4_c g _ _ _ _ t fr w hb (by intro y hy; simp at hy; omega)).mono ?_
  rintro e w' ⟨rfl, hb⟩
  exact ⟨by congr 2; omega, hb⟩

theorem back_walk (w0 x n : Int) (h0 : 0 ≤ w0) (h1 : w0 ≤ 4294967295) (hn0 : 0 ≤ n) (hn1 : n ≤ 255) (w : World) :
    Calls Try.prog 5 #[.int .u32 w0, .int .i64 x, .int .u8 n] w fun e w' => e = .returned (.bool true) ∧ Below w.heap.size w w' := by
  have hK : 1 ≤ 1 + n % 32 ∧ 1 + n % 32 ≤ 32 := by omega
  have hf := back_fits w0 (1 + n % 32) hK.1 hK.2
  have hc := cutS_range x (1 + n % 32)
  obtain ⟨hc0, hc1⟩ := hc
  clear hK
  have main : ∀ b, fitsS x (1 + n % 32) = b → Calls Try.prog 5 #[.int .u32 w0, .int .i64 x, .int .u8 n] w fun e w' => e = .returned (.bool true) ∧ Below w.heap.size w w' := by
    intro b hb
    have hs : b = true → (signS (cutS x (1 + n % 32)) (1 + n % 32) == x) = true := fun e => by rw [back_sign x _ (by omega) (by omega) (hb.trans e)]; simp
    cases b
    · clear hs
      go_enter Try.func5, Try.ntmps5
      go_wp2_with fail
      refine (put_c w0 h0 h1 _).mono ?_
      rintro e w1 ⟨rfl, hb1⟩
      go_wp2_with fail
      refine (sign_c _ _ h0 h1 (by omega) (by omega) _).mono ?_
      rintro e w' ⟨rfl, ⟨nd, rfl⟩⟩
      go_wp2_with fail
      refine (awake_c _).mono ?_
      rintro e w2 ⟨rfl, hb2⟩
      go_wp2_with fail
      refine (getw_c w1.heap.size w0 h0 h1 25 (0, 0) _ ((hb2.block _ (by simp)).trans (heap_alloc_new _ _))).mono ?_
      rintro e w3 ⟨rfl, hb3⟩
      have hB : Hid (Below w.heap.size w w3) := hid (bthen (bthen (pw_below_drewN (below_alloc hb1 _) _) hb2) hb3)
      clear hb1 hb2 hb3
      go_wp2_with (first
        | (go_at_call 25; (with_reducible refine (sign_c _ _ (by omega) (by omega) (by omega) (by omega) _).mono ?_); rintro e w' ⟨rfl, ⟨nd, rfl⟩⟩)
        | (go_at_call 27; (with_reducible refine (cut_c _ _ _).mono ?_); rintro e w' ⟨rfl, ⟨nd, rfl⟩⟩)
        | (go_at_call 26; (with_reducible refine (fits_c _ _ _).mono ?_); rintro e w' ⟨rfl, ⟨nd, rfl⟩⟩))
      go_ret
      exact ⟨rfl, by repeat (first | exact hB.out | apply pw_below_drewN)⟩
    · have hs' := hs rfl
      clear hs
      go_enter Try.func5, Try.ntmps5
      go_wp2_with fail
      refine (put_c w0 h0 h1 _).mono ?_
      rintro e w1 ⟨rfl, hb1⟩
      go_wp2_with fail
      refine (sign_c _ _ h0 h1 (by omega) (by omega) _).mono ?_
      rintro e w' ⟨rfl, ⟨nd, rfl⟩⟩
      go_wp2_with fail
      refine (awake_c _).mono ?_
      rintro e w2 ⟨rfl, hb2⟩
      go_wp2_with fail
      refine (getw_c w1.heap.size w0 h0 h1 25 (0, 0) _ ((hb2.block _ (by simp)).trans (heap_alloc_new _ _))).mono ?_
      rintro e w3 ⟨rfl, hb3⟩
      have hB : Hid (Below w.heap.size w w3) := hid (bthen (bthen (pw_below_drewN (below_alloc hb1 _) _) hb2) hb3)
      clear hb1 hb2 hb3
      go_wp2_with (first
        | (go_at_call 25; (with_reducible refine (sign_c _ _ (by omega) (by omega) (by omega) (by omega) _).mono ?_); rintro e w' ⟨rfl, ⟨nd, rfl⟩⟩)
        | (go_at_call 27; (with_reducible refine (cut_c _ _ _).mono ?_); rintro e w' ⟨rfl, ⟨nd, rfl⟩⟩)
        | (go_at_call 26; (with_reducible refine (fits_c _ _ _).mono ?_); rintro e w' ⟨rfl, ⟨nd, rfl⟩⟩))
      go_ret
      exact ⟨rfl, by repeat (first | exact hB.out | apply pw_below_drewN)⟩
  exact main _ rfl

theorem words_eq (a b : Int) (a0 : 0 ≤ a) (a1 : a ≤ 4294967295) (b0 : 0 ≤ b) (b1 : b ≤ 4294967295) : (a % 256 = b % 256 ∧ a / 256 % 256 = b / 256 % 256 ∧ a / 65536 % 256 = b / 65536 % 256 ∧ a / 16777216 = b / 16777216) ↔ a = b := by omega
theorem cut_up (x n : Int) (h0 : 1 ≤ n) (h1 : n ≤ 32) : cutS (x + 2 ^ n.toNat) n = cutS x n ∧ cutS (x - 2 ^ n.toNat) n = cutS x n := by
  rw [cutS_in _ n h0 h1, cutS_in _ n h0 h1, cutS_in _ n h0 h1]
  exact ⟨Int.add_emod_right .., Int.sub_emod_right ..⟩

theorem apart_walk (a b x n : Int) (a0 : 0 ≤ a) (a1 : a ≤ 4294967295) (b0 : 0 ≤ b) (b1 : b ≤ 4294967295) (x0 : -2147483648 ≤ x) (x1 : x ≤ 2147483647) (n0 : 0 ≤ n) (n1 : n ≤ 255) (w : World) :
    Calls Try.prog 6 #[.int .u32 a, .int .u32 b, .int .i32 x, .int .u8 n] w fun e w' => e = .returned (.bool true) ∧ Below w.heap.size w w' := by
  have hK : 1 ≤ 1 + n % 32 ∧ 1 + n % 32 ≤ 32 := by omega
  have hp := pow_le32 _ hK.1 hK.2
  have hP0 : (2 : Int) ^ (1 + n % 32).toNat = 2 * 2 ^ ((1 + n % 32).toNat - 1) := by
    conv => lhs; rw [show (1 + n % 32).toNat = ((1 + n % 32).toNat - 1) + 1 by omega, Int.pow_succ]
    omega
  obtain ⟨c2, c3⟩ := cut_up x _ hK.1 hK.2
  obtain ⟨P, hP⟩ : ∃ P, (2 : Int) ^ (1 + n % 32).toNat = P := ⟨_, rfl⟩
  obtain ⟨c, c1⟩ : ∃ c, cutS x (1 + n % 32) = c := ⟨_, rfl⟩
  rw [hP] at hP0 c2 c3
  rw [c1] at c2 c3
  have hP1 : 2 ≤ P := by omega
  have hP2 : P ≤ 4294967296 := by omega
  have hbig : wrap64 (2 ^ (1 + n % 32).toNat) = P := by rw [hP]; exact wrap64_id (by omega) (by omega)
  clear hP0 hp hP hK
  have he := fun w => eql4 (a % 256) (a / 256 % 256) (a / 65536 % 256) (a / 16777216) (b % 256) (b / 256 % 256) (b / 65536 % 256) (b / 16777216) w
  simp only [words_eq a b a0 a1 b0 b1] at he
  have main : ∀ r : Bool, decide (a = b) = r → (a == b) = r → Calls Try.prog 6 #[.int .u32 a, .int .u32 b, .int .i32 x, .int .u8 n] w fun e w' => e = .returned (.bool true) ∧ Below w.heap.size w w' := by
    intro r h1 h2
    simp only [h1] at he
    clear h1
    go_enter Try.func6, Try.ntmps6
    go_wp2_with fail
    refine (awake_c _).mono ?_
    rintro e w1 ⟨rfl, hb1⟩
    go_wp2_with fail
    refine (put_c a a0 a1 _).mono ?_
    rintro e w2 ⟨rfl, hb2⟩
    go_wp2_with fail
    refine (put_c b b0 b1 _).mono ?_
    rintro e w3 ⟨rfl, hb3⟩
    have hB : Hid (Below w.heap.size w w3) := hid (bthen (bthen hb1 hb2) hb3)
    clear hb1 hb2 hb3
    go_wp2_with (go_at_call 27; (with_reducible refine (cut_c _ _ _).mono ?_); rintro e w' ⟨rfl, ⟨nd, rfl⟩⟩)
    go_ret
    exact ⟨rfl, by repeat (first | exact hB.out | apply pw_below_drewN)⟩
  by_cases hab : a = b
  · exact main true (by simp [hab]) (by simp [hab])
  · exact main false (by simp [hab]) (by simp [hab])

theorem numbers_walk (x w0 n : Int) (x0 : -9223372036854775808 ≤ x) (x1 : x ≤ 9223372036854775807) (h0 : 0 ≤ w0) (h1 : w0 ≤ 4294967295) (n0 : -9223372036854775808 ≤ n) (n1 : n ≤ 9223372036854775807) (w : World) :
    Calls Try.prog 7 #[.int .i64 x, .int .u32 w0, .int .i64 n] w fun e w' => e = .returned (.bool true) ∧ Below w.heap.size w w' := by
  go_enter Try.func7, Try.ntmps7
  go_wp2_with fail
  refine (awake_c _).mono ?_
  rintro e w1 ⟨rfl, hb1⟩
  have hB : Hid (Below w.heap.size w w1) := hid hb1
  clear hb1
  go_wp2_with (first
    | (go_at_call 25; (with_reducible refine (sign_c _ _ (by omega) (by omega) (by omega) (by omega) _).mono ?_); rintro e w' ⟨rfl, ⟨nd, rfl⟩⟩)
    | (go_at_call 27; (with_reducible refine (cut_c _ _ _).mono ?_); rintro e w' ⟨rfl, ⟨nd, rfl⟩⟩)
    | (go_at_call 26; (with_reducible refine (fits_c _ _ _).mono ?_); rintro e w' ⟨rfl, ⟨nd, rfl⟩⟩)
    | (go_at_call 28; (with_reducible refine (rfits_c _ _ _).mono ?_); rintro e w' ⟨rfl, ⟨nd, rfl⟩⟩)
    | (go_at_call 29; (with_reducible refine (rcut_c _ _ (by omega) (by omega) _).mono ?_); rintro e w' ⟨rfl, ⟨nd, rfl⟩⟩)
    | (go_at_call 30; (with_reducible refine (rsign_c _ _ (by omega) (by omega) _).mono ?_); rintro e w' ⟨rfl, ⟨nd, rfl⟩⟩)
    | (go_at_call 31; (with_reducible refine (signed_c _ (by omega) (by omega) _).mono ?_); rintro e w' ⟨rfl, ⟨nd, rfl⟩⟩))
  go_ret
  exact ⟨by simp, by repeat (first | exact hB.out | apply pw_below_drewN)⟩

theorem rput4_c (x : Int) (h0 : 0 ≤ x) (h1 : x ≤ 4294967295) (w : World) :
    Calls Try.prog 21 #[.int .u32 x] w fun e w' => ∃ A c, e = .returned (.slice A 4 c) ∧ 4 ≤ c ∧ Kd.C (Kd.int .u8) w' A 4 [x % 256, x / 256 % 256, x / 65536 % 256, x / 16777216] ∧ Below w.heap.size w w' := by
  refine (rput_c x h0 h1 w).mono ?_
  rintro e w' ⟨v, rfl, hr, hb⟩
  obtain ⟨A, c, rfl, hc, hC⟩ := Kd.R_reads hr
  exact ⟨A, c, rfl, hc, hC, hb⟩
theorem same4_c (A : Option Addr) (c : Nat) (B : Option Addr) (d : Nat) (l m : List Int) (w : World) (hl : l.length = 4) (hm : m.length = 4) (hr : Kd.C (Kd.int .u8) w A 4 l) (hc : 4 ≤ c) (hs : Kd.C (Kd.int .u8) w B 4 m) (hd : 4 ≤ d) :
    Calls Try.prog 20 #[.slice A 4 c, .slice B 4 d] w fun e w' => e = .returned (.bool (decide (l = m))) ∧ Drawn0 w w' := by
  have h := same_c A c l B d m w (by rw [hl]; exact hr) (by omega) (by rw [hm]; exact hs) (by omega) (by omega)
  rw [hl, hm] at h
  exact h

theorem C4_block {k : IntKind} {w : World} {g : Nat} {a b c d : Int} {t : TypeId} {fr : Nat × Nat} (hb : w.heap[g]? = some (.cells #[.int k a, .int k b, .int k c, .int k d] t fr)) : Kd.C (Kd.int k) w (some ⟨g, 0, none⟩) 4 [a, b, c, d] :=
  C_block (l := [a, b, c, d]) hb (by simp) four

theorem C_drew {α : Type} {d : Kd α} {w : World} {A : Option Addr} {n : Nat} {xs : List α} (h : d.C w A n xs) : d.C w.drew A n xs := Kd.C_below h (Below.refl _ _).drew

theorem words_walk (w0 : Int) (A : Option Addr) (c : Nat) (l : List Int) (h0 : 0 ≤ w0) (h1 : w0 ≤ 4294967295) (w : World) (hC : Kd.C (Kd.int .u8) w A l.length l) (hc : l.length ≤ c) (hl : Bytes l) (hs : l.length ≤ 140737488351232) :
    Calls Try.prog 3 #[.int .u32 w0, .slice A l.length c] w fun e w' => e = .returned (.bool true) ∧ Below w.heap.size w w' := by
  have HC := hid hC
  have HL := hid hl
  clear hC hl
  by_cases hlen : l.length ≤ 100
  · have HI : decide (100 < (l.length : Int)) = false := by simp; omega
    go_enter Try.func3, Try.ntmps3
    go_wp2_with fail
    refine (awake_c _).mono ?_
    rintro e w1 ⟨rfl, hb1⟩
    go_wp2_with fail
    refine (put_c w0 h0 h1 _).mono ?_
    rintro e w2 ⟨rfl, hb2⟩
    go_wp2_with fail
    go_region_with (first
      | (go_at_call 21; refine (rput4_c w0 h0 h1 _).mono ?_; rintro e w3 ⟨A1, c1, rfl, hc1, hC1, hb3⟩; have k1 := hid hC1; clear hC1)
      | (go_at_call 20; refine (same4_c _ _ _ _ [w0 % 256, w0 / 256 % 256, w0 / 65536 % 256, w0 / 16777216] [w0 % 256, w0 / 256 % 256, w0 / 65536 % 256, w0 / 16777216] _ rfl rfl (by exact Kd.C_below (C_drew (C4_block (heap_alloc_new _ _))) hb3) (by omega) k1.out hc1).mono ?_; rintro e w' ⟨rfl, ⟨nd, rfl⟩⟩)
      | (go_at_call 22; refine (get_c A c l _ (by exact Kd.C_below HC.out (pw_below_drewN (bthen (below_drew (below_alloc (bthen hb1 hb2) _)) hb3) _)) hc HL.out).mono ?_; rintro e w5 ⟨rfl, hb5⟩)
      | (go_at_call 23; refine (rget_c A c l _ (by exact Kd.C_below HC.out (bthen (pw_below_drewN (bthen (below_drew (below_alloc (bthen hb1 hb2) _)) hb3) _) hb5)) hc HL.out).mono ?_; rintro e w' ⟨rfl, ⟨nd', rfl⟩⟩))
    all_goals go_wp2
    all_goals go_ret
    all_goals exact ⟨by first | rfl | (simp; done) | simp, pw_below_drewN (bthen (pw_below_drewN (bthen (below_drew (below_alloc (bthen hb1 hb2) _)) hb3) _) hb5) _⟩
  · have HI : decide (100 < (l.length : Int)) = true := by simp; omega
    go_enter Try.func3, Try.ntmps3
    go_wp2_with (go_at_call 18; (with_reducible refine (awake_c _).mono ?_); rintro e w' ⟨rfl, hb⟩)
    go_ret
    exact ⟨rfl, bthen (by assumption) hb⟩
end Go.Proofs.Ytkolcgnembaghaa.H
