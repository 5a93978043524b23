/- The scanner's methods: Left, Bytes, Must. -/
import Derived.Test.YtmcfihpbiilbcaaScanC
import Derived.WalkSmall
import Derived.StillTailTactics
namespace Go.Proofs.Ytmcfihpbiilbcaa.H
open Go.RowKit Go.Proofs.YtmcfihpbiilbcaaW.PrintWords Go.Proofs.YtmcfihpbiilbcaaW.PrintLast Go.Proofs.YtmcfihpbiilbcaaW.PrintMore Go.Proofs.Ytmcfihpbiilbcaa.F
set_option linter.unusedVariables false
set_option linter.unusedSimpArgs false
/-- What a scanner's block says to a walk. -/
theorem Sc.cells {w : World} {B : Nat} {l : List Int} {i : Int} (h : Sc w B l i) : ∃ A c, w.cell? ⟨B, 0, none⟩ = some (.slice A l.length c) ∧ w.cell? ⟨B, 1, none⟩ = some (.int .i64 i) ∧ w.frozen? ⟨B, 1, none⟩ = false ∧ l.length ≤ c ∧ CB w A l ∧ (∀ a, A = some a → a.block ≠ B) := by
  obtain ⟨v, h1, h2⟩ := h
  obtain ⟨A, c, rfl, h3, h4⟩ := Kd.R_reads h2
  refine ⟨A, c, by simp [World.cell?, h1], by simp [World.cell?, h1], by simp [World.frozen?, h1], h3, h4, fun a ha => ?_⟩
  subst ha
  exact h2.1 a.block rfl
theorem blk2 {w : World} {B : Nat} {a b : Value} {t : TypeId} (h : w.heap[B]? = some (.cells #[a, b] t (0, 0))) :
    w.cell? ⟨B, 0, none⟩ = some a ∧ w.cell? ⟨B, 1, none⟩ = some b ∧ w.frozen? ⟨B, 0, none⟩ = false ∧ w.frozen? ⟨B, 1, none⟩ = false ∧ B < w.heap.size := by
  refine ⟨by simp [World.cell?, h], by simp [World.cell?, h], by simp [World.frozen?, h], by simp [World.frozen?, h], (Array.getElem?_eq_some_iff.1 h).1⟩
theorem left_c (B : Nat) (l : List Int) (i : Int) (w : World) (h : Sc w B l i) (h0 : 0 ≤ i) (h1 : i ≤ l.length) (hl : l.length ≤ 140737488351232) :
    Calls Try.prog 30 #[.pointer (some ⟨B, 0, none⟩)] w fun e w' => e = .returned (.int .i64 (l.length - i)) ∧ Drawn0 w w' := by
  obtain ⟨A, c, c0, c1, f1, hc, hC, hA⟩ := h.cells
  have HC := hid hC
  clear hC h
  have e0 : IntKind.i64.wrap ((l.length : Int) - i) = (l.length : Int) - i := IntWalk.i64_in _ (by omega)
  go_enter Try.func30, Try.ntmps30
  go_wp2
  go_quiet (fail)
  go_wp2
  go_ret
  exact ⟨rfl, ⟨⟨_, rfl⟩⟩⟩
def fail_ (e : Int) : List PanicEntry := [{ v := .iface 104 (.agg #[.int .i64 e]), recovered := false }]
theorem must_c (p : Value) (w : World) : Calls Try.prog 28 #[p, .bool true] w fun e w' => e = .returned (.tuple #[]) ∧ w' = w := by
  go_enter Try.func28, Try.ntmps28
  go_wp2
  first | go_end0 | refine bodyPost_ret (results_none rfl _ _ _) rfl ?_
  exact ⟨rfl, rfl⟩
theorem must_no (p : Value) (w : World) : Calls Try.prog 28 #[p, .bool false] w fun e w' => e = .panicked (fail_ 4) ∧ w' = w := by
  go_enter Try.func28, Try.ntmps28
  go_wp2
  exact ⟨rfl, rfl, rfl⟩
theorem bytes_no (B : Nat) (l : List Int) (i n : Int) (w : World) (h : Sc w B l i) (h0 : 0 ≤ i) (h1 : i ≤ l.length) (hl : l.length ≤ 140737488351232) (hn : (l.length : Int) - i < n) :
    Calls Try.prog 29 #[.pointer (some ⟨B, 0, none⟩), .int .i64 n] w fun e w' => e = .panicked (fail_ 2) ∧ Drawn0 w w' := by
  have HS := hid h
  clear h
  go_enter Try.func29, Try.ntmps29
  go_wp2_with (go_at_call 30; (with_reducible refine (left_c B l i _ HS.out h0 h1 hl).mono ?_); rintro e w' ⟨rfl, ⟨nd, rfl⟩⟩)
  exact ⟨rfl, rfl, ⟨⟨_, rfl⟩⟩⟩
/-- The piece of n bytes from i on. -/
def mid (l : List Int) (i n : Int) : List Int := (l.take (i + n).toNat).drop i.toNat
theorem mid_length {l : List Int} {i n : Int} (h0 : 0 ≤ i) (hn : 0 ≤ n) (h1 : i + n ≤ l.length) : (mid l i n).length = (i + n).toNat - i.toNat := by
  unfold mid; rw [List.length_drop, List.length_take]; omega
theorem mid_len {l : List Int} {i n : Int} (h0 : 0 ≤ i) (hn : 0 ≤ n) (h1 : i + n ≤ l.length) : ((mid l i n).length : Int) = n := by
  rw [mid_length h0 hn h1]; omega
set_option maxRecDepth 100000 in
theorem bytes_c (B : Nat) (l : List Int) (i n : Int) (w : World) (h : Sc w B l i) (h0 : 0 ≤ i) (h1 : i + n ≤ l.length) (hn : 0 ≤ n) (hl : l.length ≤ 140737488351232) :
    Calls Try.prog 29 #[.pointer (some ⟨B, 0, none⟩), .int .i64 n] w fun e w' => ∃ v, e = .returned v ∧ RB w' w.heap.size v (mid l i n) ∧ Below w.heap.size (w.setCell ⟨B, 1, none⟩ (.int .i64 (i + n))) w' := by
  have HS := hid h
  obtain ⟨v0, b1, b2⟩ := h
  obtain ⟨A, c, rfl, hc, _⟩ := Kd.R_reads b2
  have b3 : Kd.R (Kd.int .u8) 5 (w.setCell ⟨B, 1, none⟩ (.int .i64 (i + n))) 0 (fun k => k ≠ B) (.slice A l.length c) l := Kd.R_step b2 (fun b hb _ => Below.heap_setCell _ _ _ _ hb)
  obtain ⟨_, _, hC⟩ := Kd.R_reads' b3
  obtain ⟨q0, q1, q2, q3, q4⟩ := blk2 b1
  have q := hid b1
  clear b1 b2 b3
  obtain ⟨i5, hi5, _, hs5, _⟩ := info_parts info5
  have hcut := cut_mid 22 5 .i64 .i64 Try.underlying22 hi5 1 hs5 A l.length c i (i + n) h0 (by omega) h1 hc
  have hCm := Kd.C_mid (lo := i.toNat) (hi := (i + n).toNat) hC (by omega) (by omega) hc
  have hlm := mid_length h0 hn h1
  rw [← hlm] at hcut
  generalize hA' : (if c = i.toNat then A else A.map (·.add (i.toNat * 1))) = A' at hcut
  have HC : Hid (CB (w.setCell ⟨B, 1, none⟩ (.int .i64 (i + n))) A' (mid l i n)) := hid (hA' ▸ hCm)
  have hc' : (mid l i n).length ≤ c - i.toNat := by rw [hlm]; omega
  have hl' : (mid l i n).length ≤ 140737488351232 := by rw [hlm]; omega
  clear hA' hCm hC hlm
  have g0 : IntKind.i64.wrap (i + n) = i + n := IntWalk.i64_in _ (by omega)
  have g1 : IntKind.i64.wrap i = i := IntWalk.i64_in _ (by omega)
  have g2 : ¬ ((l.length : Int) - i < n) := by omega
  go_enter Try.func29, Try.ntmps29
  go_wp2_with (go_at_call 30; (with_reducible refine (left_c B l i _ HS.out h0 (by omega) hl).mono ?_); rintro e w' ⟨rfl, ⟨nd, rfl⟩⟩)
  have s0 : ((w.drewN nd).setCell ⟨B, 1, none⟩ (.int .i64 (i + n))).cell? ⟨B, 0, none⟩ = some (.slice A l.length c) := (blk2 (heap_set (w.drewN nd) B _ _ _ _ q.out)).1
  have s1 : ((w.drewN nd).setCell ⟨B, 1, none⟩ (.int .i64 (i + n))).cell? ⟨B, 1, none⟩ = some (.int .i64 (i + n)) := (blk2 (heap_set (w.drewN nd) B _ _ _ _ q.out)).2.1
  have HC2 : Hid (CB ((w.drewN nd).setCell ⟨B, 1, none⟩ (.int .i64 (i + n))) A' (mid l i n)) := HC
  have HB2 : Hid (Below w.heap.size (w.setCell ⟨B, 1, none⟩ (.int .i64 (i + n))) ((w.drewN nd).setCell ⟨B, 1, none⟩ (.int .i64 (i + n)))) := hid ⟨rfl, rfl, rfl, Nat.le_refl _, fun _ _ => rfl⟩
  have HZ : Hid (((w.drewN nd).setCell ⟨B, 1, none⟩ (.int .i64 (i + n))).heap.size = w.heap.size) := hid (by simp)
  generalize (w.drewN nd).setCell ⟨B, 1, none⟩ (.int .i64 (i + n)) = W at *
  go_still_tail 15, (by kernel_rfl)
  change wpList _ _ _ _ _ W.drew
  have HC3 : Hid (CB W.drew A' (mid l i n)) := HC2
  have HB3 : Hid (Below w.heap.size (w.setCell ⟨B, 1, none⟩ (.int .i64 (i + n))) W.drew) := hid HB2.out.drew
  have HZ3 : Hid (W.drew.heap.size = w.heap.size) := HZ
  generalize W.drew = W2 at *
  go_wp2_with (go_at_call 80; (with_reducible refine (clone_c A' (c - i.toNat) (mid l i n) _ HC3.out hc' hl').mono ?_); rintro e w' ⟨v, rfl, hR, hb⟩)
  go_ret
  have hz := HZ3.out
  rw [hz] at hR hb
  exact ⟨v, rfl, hR, HB3.out.trans hb⟩
end Go.Proofs.Ytmcfihpbiilbcaa.H
