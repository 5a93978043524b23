/- The scanner's Put; Count; Float; the reference's names. -/
import Derived.Test.YtmcfihpbiilbcaaScanO
namespace Go.Proofs.Ytmcfihpbiilbcaa.H
open Go.RowKit Go.Proofs.YtmcfihpbiilbcaaW.PrintWords Go.Proofs.YtmcfihpbiilbcaaW.PrintLast Go.Proofs.YtmcfihpbiilbcaaW.PrintMore Go.Proofs.Ytmcfihpbiilbcaa.F
set_option linter.unusedVariables false
set_option linter.unusedSimpArgs false
theorem C_cells {k : IntKind} {w : World} {ad : Addr} {l : List Int} (hl : l.length ≤ 9223372036854775807) (h : ∀ j p, l[j]? = some p → w.cell? (ad.add j) = some (.int k p)) : Kd.C (Kd.int k) w (some ad) l.length l :=
  ⟨rfl, hl, fun _ => ⟨ad, rfl, fun j p hj => ⟨[.int k p], rfl, rfl, fun i u hu => by
    match i, hu with
    | 0, hu => simp at hu; subst hu; rw [show j * (Kd.int k).sz + 0 = j from Nat.mul_one j]; exact h j p hj
    | i + 1, hu => simp at hu⟩⟩⟩
/-- A number's bytes, the lowest ones. -/
def putS (n : Int) (k : Int) : List Int := (fourS (n % 4294967296)).take k.toNat
theorem putS_len (n k : Int) (h0 : 0 ≤ k) (h1 : k ≤ 4) : ((putS n k).length : Int) = k := by unfold putS fourS; simp; omega
theorem sput_c (n k : Int) (h0 : 0 ≤ k) (h1 : k ≤ 4) (w : World) :
    Calls Try.prog 35 #[.int .i64 n, .int .i64 k] w fun e w' => ∃ A c, e = .returned (.slice A (putS n k).length c) ∧ (putS n k).length ≤ c ∧ CB w' A (putS n k) ∧ Below w.heap.size w w' := by
  have e1 : IntKind.u32.wrap n = n % 4294967296 := IntKind.wrap_u32' n
  go_enter Try.func35, Try.ntmps35
  go_wp2_with fail
  refine (put_c (n % 4294967296) (by omega) (by omega) _).mono ?_
  rintro e w1 ⟨rfl, hw1⟩
  go_wp2
  go_ret
  have hl := putS_len n k h0 h1
  have e2 : n % 4294967296 % 256 = n % 256 := by omega
  refine ⟨some ⟨w1.heap.size, 0, none⟩, 4, by rw [show (putS n k).length = k.toNat by omega]; rfl, by omega, ?_, below_alloc hw1 _⟩
  refine C_block (blk_new _ _) (by omega) fun j p hj => ?_
  unfold putS fourS at hj
  rw [List.getElem?_take, e2] at hj
  split at hj
  · match j, hj with
    | 0, h => simp at h ⊢; exact h
    | 1, h => simp at h ⊢; exact h
    | 2, h => simp at h ⊢; exact h
    | 3, h => simp at h ⊢; exact h
    | j + 4, h => simp at h
  · cases hj
theorem count_c (B : Nat) (l : List Int) (i n : Int) (w : World) (h : Sc w B l i) (h0 : 0 ≤ i) (h1 : i + 2 ≤ l.length) (hl : l.length ≤ 140737488351232) (hb : Bytes l) (hn : wordOf (mid l i 2) ≤ n) :
    Calls Try.prog 44 #[.pointer (some ⟨B, 0, none⟩), .int .i64 n] w fun e w' => e = .returned (.int .i64 (wordOf (mid l i 2))) ∧ Below w.heap.size (w.setCell ⟨B, 1, none⟩ (.int .i64 (i + 2))) w' := by
  have HS := hid h
  clear h
  go_enter Try.func44, Try.ntmps44
  go_wp2_with fail
  refine (number_c B l i 2 _ HS.out h0 h1 (by omega) hl hb).mono ?_
  rintro e w1 ⟨rfl, hw1⟩
  have HW1 := hid hw1
  have hn2 : decide (wordOf (mid l i 2) ≤ n) = true := decide_eq_true hn
  clear hw1
  go_wp2_with fail
  refine (must_c _ _).mono ?_
  rintro e w2 ⟨rfl, rfl⟩
  go_wp2
  go_ret
  exact ⟨rfl, HW1.out⟩
theorem count_form (B : Nat) (l : List Int) (i n : Int) (w : World) (h : Sc w B l i) (h0 : 0 ≤ i) (h1 : i + 2 ≤ l.length) (hl : l.length ≤ 140737488351232) (hb : Bytes l) (hn : n < wordOf (mid l i 2)) :
    Calls Try.prog 44 #[.pointer (some ⟨B, 0, none⟩), .int .i64 n] w fun e w' => e = .panicked (fail_ 4) ∧ Aft B w w' := by
  have HS := hid h
  clear h
  go_enter Try.func44, Try.ntmps44
  go_wp2_with fail
  refine (number_c B l i 2 _ HS.out h0 h1 (by omega) hl hb).mono ?_
  rintro e w1 ⟨rfl, hw1⟩
  have HW1 := hid (Aft.of_below hw1)
  have hn2 : decide (wordOf (mid l i 2) ≤ n) = false := decide_eq_false (by omega)
  clear hw1
  go_wp2_with fail
  refine (must_no _ _).mono ?_
  rintro e w2 ⟨rfl, rfl⟩
  exact ⟨rfl, rfl, HW1.out⟩
theorem count_cut (B : Nat) (l : List Int) (i n : Int) (w : World) (h : Sc w B l i) (h0 : 0 ≤ i) (h1 : i ≤ l.length) (h2 : (l.length : Int) < i + 2) (hl : l.length ≤ 140737488351232) :
    Calls Try.prog 44 #[.pointer (some ⟨B, 0, none⟩), .int .i64 n] w fun e w' => e = .panicked (fail_ 2) ∧ Aft B w w' := by
  have HS := hid h
  clear h
  go_enter Try.func44, Try.ntmps44
  go_wp2_with fail
  refine (number_no B l i 2 _ HS.out h0 h1 hl (by omega)).mono ?_
  rintro e w1 ⟨rfl, hd⟩
  exact ⟨rfl, rfl, Aft.drawn hd⟩
/-- The float that stands in eight bytes, as its bits. -/
def floatOf (l : List Int) (i : Int) : Int := wordOf (mid l i 4) + 4294967296 * wordOf (mid l (i + 4) 4)
theorem wordOf_take (l : List Int) (n : Nat) (h : 4 ≤ n) : wordOf (l.take n) = wordOf l := by
  unfold wordOf
  simp only [List.getD_eq_getElem?_getD]
  rw [List.getElem?_take_of_lt (by omega), List.getElem?_take_of_lt (by omega), List.getElem?_take_of_lt (by omega), List.getElem?_take_of_lt (by omega)]
theorem mid8a (l : List Int) (i : Int) (h0 : 0 ≤ i) : wordOf (mid l i 8) = wordOf (mid l i 4) := by
  have e : mid l i 4 = (mid l i 8).take 4 := by
    unfold mid
    rw [List.take_drop, List.take_take, show min (i.toNat + 4) (i + 8).toNat = (i + 4).toNat by omega]
  rw [e, wordOf_take _ _ (by omega)]
theorem mid8b (l : List Int) (i : Int) (h0 : 0 ≤ i) : (mid l i 8).drop 4 = mid l (i + 4) 4 := by
  unfold mid
  rw [List.drop_drop, show i + 4 + 4 = i + 8 by omega, show i.toNat + 4 = (i + 4).toNat by omega]
theorem cutFrom {A : Option Addr} {c : Nat} {l : List Int} {w : World} (hC : CB w A l) (hc : l.length ≤ c) (j : Int) (h0 : 0 ≤ j) (h1 : j ≤ l.length) :
    ∃ A' c', (∀ W : World, (Instr.slice 22 (.slice A l.length c) (some (.int .i64 j)) none none).run Try.prog W = .ok (.slice A' (l.drop j.toNat).length c') W) ∧ CB w A' (l.drop j.toNat) ∧ (l.drop j.toNat).length ≤ c' := by
  obtain ⟨i5, hi5, _, hs5, _⟩ := info_parts info5
  have hcut := cut_from 22 5 .i64 Try.underlying22 hi5 1 hs5 A l.length c j h0 h1
  have hCd := Kd.C_drop (m := j.toNat) (c := c) hC (by omega) hc
  exact ⟨_, _, fun W => by rw [hcut W, List.length_drop]; rfl, hCd, by rw [List.length_drop]; omega⟩
theorem cutTo {A : Option Addr} {c : Nat} {l : List Int} {w : World} (hC : CB w A l) (hc : l.length ≤ c) (j : Int) (h0 : 0 ≤ j) (h1 : j ≤ l.length) :
    (∀ W : World, (Instr.slice 22 (.slice A l.length c) none (some (.int .i64 j)) none).run Try.prog W = .ok (.slice A (l.take j.toNat).length c) W) ∧ CB w A (l.take j.toNat) ∧ (l.take j.toNat).length ≤ c := by
  obtain ⟨i5, hi5, _, hs5, _⟩ := info_parts info5
  have hcut := cut_to 22 5 .i64 Try.underlying22 hi5 A l.length c j h0 h1 hc
  exact ⟨fun W => by rw [hcut W, List.length_take, Nat.min_eq_left (by omega)], Kd.C_take hC (by omega), by rw [List.length_take]; omega⟩
theorem cutMid {A : Option Addr} {c : Nat} {l : List Int} {w : World} (hC : CB w A l) (hc : l.length ≤ c) (i j : Int) (h0 : 0 ≤ i) (hij : i ≤ j) (h1 : j ≤ l.length) :
    ∃ A' c', (∀ W : World, (Instr.slice 22 (.slice A l.length c) (some (.int .i64 i)) (some (.int .i64 j)) none).run Try.prog W = .ok (.slice A' ((l.take j.toNat).drop i.toNat).length c') W) ∧ CB w A' ((l.take j.toNat).drop i.toNat) ∧ ((l.take j.toNat).drop i.toNat).length ≤ c' := by
  obtain ⟨i5, hi5, _, hs5, _⟩ := info_parts info5
  have hcut := cut_mid 22 5 .i64 .i64 Try.underlying22 hi5 1 hs5 A l.length c i j h0 hij h1 hc
  have hCm := Kd.C_mid (lo := i.toNat) (hi := j.toNat) (c := c) hC (by omega) (by omega) hc
  have hlm : ((l.take j.toNat).drop i.toNat).length = j.toNat - i.toNat := by rw [List.length_drop, List.length_take]; omega
  exact ⟨_, _, fun W => by rw [hcut W, hlm]; rfl, hCm, by rw [hlm]; omega⟩
theorem or64 (a b : Int) (a0 : 0 ≤ a) (a1 : a ≤ 4294967295) (b0 : 0 ≤ b) (b1 : b ≤ 4294967295) : bits BinOp.or IntKind.u64 a (IntKind.u64.wrap (b * 4294967296)) = a + 4294967296 * b := by
  have e : IntKind.u64.wrap (b * 4294967296) = b * 4294967296 := by rw [IntKind.wrap_u64]; omega
  rw [e]
  obtain ⟨A, rfl⟩ := Int.eq_ofNat_of_zero_le a0
  obtain ⟨B, rfl⟩ := Int.eq_ofNat_of_zero_le b0
  have e1 : ((B : Int) * 4294967296) = ((B * 2 ^ 32 : Nat) : Int) := by simp
  have hA : A < 2 ^ 32 := by omega
  have hB : B * 2 ^ 32 < 2 ^ 64 := by omega
  rw [e1, (bits_nat .u64 64 (Nat.le_refl _) (fun n h0 h1 => by rw [IntKind.wrap_u64]; omega) A (B * 2 ^ 32) (by omega) hB).2, Nat.or_comm, nat_join 32 _ _ (by simp) hA]
  omega
set_option maxRecDepth 100000 in
theorem float_c (B : Nat) (l : List Int) (i : Int) (w : World) (h : Sc w B l i) (h0 : 0 ≤ i) (h1 : i + 8 ≤ l.length) (hl : l.length ≤ 140737488351232) (hb : Bytes l) :
    Calls Try.prog 43 #[.pointer (some ⟨B, 0, none⟩)] w fun e w' => e = .returned (.float .f64 (floatOf l i).toNat) ∧ Below w.heap.size (w.setCell ⟨B, 1, none⟩ (.int .i64 (i + 8))) w' := by
  have HS := hid h
  clear h
  have hr1 := wordOf_range (hb.mid i 4)
  have hr2 := wordOf_range (hb.mid (i + 4) 4)
  have em := mid_len (l := l) h0 (show (0 : Int) ≤ 8 by omega) h1
  go_enter Try.func43, Try.ntmps43
  go_wp2_with fail
  refine (bytes_c B l i 8 _ HS.out h0 h1 (by omega) hl).mono ?_
  rintro e w1 ⟨v, rfl, hR, hw1⟩
  obtain ⟨A, c, rfl, hc, hC⟩ := Kd.R_reads hR
  have HW := hid hw1
  obtain ⟨A4, c4, hcut, hC4, hc4⟩ := cutFrom hC hc 4 (by omega) (by omega)
  rw [show ((4 : Int)).toNat = 4 from rfl, mid8b l i h0] at hcut hC4 hc4
  have HC := hid (And.intro hC hC4)
  have fr := frombits_run
  have k0 : IntKind.u64.wrap (wordOf (mid l i 8)) = wordOf (mid l i 4) := by rw [mid8a l i h0, IntKind.wrap_u64]; omega
  have k1 : IntKind.u64.wrap (wordOf (mid l (i + 4) 4)) = wordOf (mid l (i + 4) 4) := by rw [IntKind.wrap_u64]; omega
  have HR := hid (And.intro hr1 hr2)
  clear hC hC4 hR hw1 em hr1 hr2
  go_wp2
  go_region_with (first | (go_at_call 87; (with_reducible refine (get_c A c (mid l i 8) _ (Kd.C_drew HC.out.1) hc (hb.mid i 8)).mono ?_); rintro e w2 ⟨rfl, hb2⟩) | (go_at_call 87; (with_reducible refine (get_c A4 c4 (mid l (i + 4) 4) _ (Kd.C_below (Kd.C_drew HC.out.2) hb2) hc4 (hb.mid (i + 4) 4)).mono ?_); rintro e w3 ⟨rfl, hb3⟩))
  go_wp2
  go_ret
  obtain ⟨r1, r2⟩ := HR.out
  have e : bits BinOp.or IntKind.u64 (wordOf (mid l i 4)) (IntKind.u64.wrap (wordOf (mid l (i + 4) 4) * 4294967296)) = floatOf l i := or64 _ _ r1.1 r1.2 r2.1 r2.2
  refine ⟨by rw [← e]; rfl, ?_⟩
  have hz1 := HW.out.size
  have hz2 := hb2.size
  have hz1' : w.heap.size ≤ w1.drew.heap.size := by simpa using hz1
  exact HW.out.drew.trans ((hb2.mono hz1').trans (hb3.mono (Nat.le_trans hz1' hz2)))
end Go.Proofs.Ytmcfihpbiilbcaa.H
