/- ImageWrites' and ImageReads' walks. -/
import Derived.Test.YtmcfihpbiilbcaaImgP
import Derived.Test.YtmcfihpbiilbcaaImgG
namespace Go.Proofs.Ytmcfihpbiilbcaa.H
open Go.RowKit Go.Proofs.YtmcfihpbiilbcaaW.PrintWords Go.Proofs.YtmcfihpbiilbcaaW.PrintLast Go.Proofs.YtmcfihpbiilbcaaW.PrintMore Go.Proofs.Ytmcfihpbiilbcaa.E
set_option linter.unusedVariables false
set_option linter.unusedSimpArgs false
def smallI (c d : List Int) : Bool := decide (c.length ≤ 70000 ∧ d.length ≤ 70000)
theorem small15_q (c : List Int) (e : Int) (d : List Int) (wq mo : Int) : splicelaw15_small.f c e d wq mo = some (smallI c d) := by
  unfold splicelaw15_small.f smallI
  by_cases h : (c.length : Int) ≤ 70000
  · rw [if_pos h]
    by_cases h2 : (d.length : Int) ≤ 70000
    · rw [decide_eq_true h2, decide_eq_true (by omega)]
    · rw [decide_eq_false h2, decide_eq_false (by omega)]
  · rw [if_neg h, decide_eq_false (by omega)]
theorem imgW_len (c : List Int) (e : Int) (d : List Int) (wq mo : Int) (hm : mayB c e d wq mo = true) : (imgW c e d wq mo).length ≤ 4611686018427387904 := by
  have hM : c.length ≤ 65536 ∧ (e = 0 ∨ 0 < e ∧ e < c.length) ∧ d.length ≤ 65536 ∧ 0 ≤ wq ∧ wq ≤ d.length ∧ 0 ≤ mo ∧ mo ≤ 65536 := of_decide_eq_true hm
  rw [← outS_all]
  have := outS_len c c.length (Nat.le_refl _)
  simp only [List.length_append, putS4_len]
  omega
/-- A row's cells. -/
theorem five {w : World} {g : Nat} {t : TypeId} {fr : Nat × Nat} {a0 a1 a2 a3 a4 : Value} (h : w.heap[g]? = some (.cells #[a0, a1, a2, a3, a4] t fr)) :
    w.cell? ⟨g, 0, none⟩ = some a0 ∧ w.cell? ⟨g, 1, none⟩ = some a1 ∧ w.cell? ⟨g, 2, none⟩ = some a2 ∧ w.cell? ⟨g, 3, none⟩ = some a3 ∧ w.cell? ⟨g, 4, none⟩ = some a4 := by
  simp [World.cell?, h]
set_option maxRecDepth 100000 in
set_option maxHeartbeats 1000000 in
theorem writes_big (Ac : Option Addr) (cc : Nat) (c : List Int) (e : Int) (Ad : Option Addr) (cd : Nat) (d : List Int) (wq mo : Int) (w : World) (hc : CU w Ac c) (hcc : c.length ≤ cc) (hd : CB w Ad d) (hcd : d.length ≤ cd) (hs : smallI c d = false) :
    Calls Try.prog 8 #[.agg #[.slice Ac c.length cc, .int .i64 e, .slice Ad d.length cd, .int .i64 wq, .int .i64 mo]] w fun e' w' => e' = .returned (.bool true) ∧ Below w.heap.size w w' := by
  have HC := hid (And.intro hc hd)
  clear hc hd
  go_enter Try.func8, Try.ntmps8
  go_wp2_with fail
  refine (awake15_c _).mono ?_
  rintro e' w1 ⟨rfl, hb⟩
  have hB := below_step (below_alloc (Below.refl w.heap.size w) _) hb
  have b1 := blk_below (blk_new w _) hb
  obtain ⟨k0, k1, k2, k3, k4⟩ := five b1
  have H1 := hid hB
  clear hb b1 hB
  go_wp2_with fail
  refine (splicelaw15_small.calls Ac cc c e Ad cd d wq mo false _ (Kd.C_below HC.out.1 H1.out) hcc (Kd.C_below HC.out.2 H1.out) hcd (by rw [small15_q, hs])).mono ?_
  rintro e' w2 ⟨rfl, hb⟩
  have H2 := hid (below_step H1.out hb)
  clear hb H1 k0 k1 k2 k3 k4
  go_wp2_with fail
  refine (awake15_c _).mono ?_
  rintro e' w3 ⟨rfl, hb⟩
  have H3 := hid (below_step H2.out hb)
  clear hb H2
  go_wp2
  go_ret
  exact ⟨rfl, H3.out⟩
set_option maxRecDepth 100000 in
set_option maxHeartbeats 1000000 in
theorem writes_no (Ac : Option Addr) (cc : Nat) (c : List Int) (e : Int) (Ad : Option Addr) (cd : Nat) (d : List Int) (wq mo : Int) (w : World) (hc : CU w Ac c) (hcc : c.length ≤ cc) (hd : CB w Ad d) (hcd : d.length ≤ cd) (hs : smallI c d = true) (hm : mayB c e d wq mo = false) :
    Calls Try.prog 8 #[.agg #[.slice Ac c.length cc, .int .i64 e, .slice Ad d.length cd, .int .i64 wq, .int .i64 mo]] w fun e' w' => e' = .returned (.bool true) ∧ Below w.heap.size w w' := by
  have HC := hid (And.intro hc hd)
  clear hc hd
  go_enter Try.func8, Try.ntmps8
  go_wp2_with fail
  refine (awake15_c _).mono ?_
  rintro e' w1 ⟨rfl, hb⟩
  have hB := below_step (below_alloc (Below.refl w.heap.size w) _) hb
  have b1 := blk_below (blk_new w _) hb
  obtain ⟨k0, k1, k2, k3, k4⟩ := five b1
  have H1 := hid (And.intro hB b1)
  clear hb b1 hB
  go_wp2_with fail
  refine (splicelaw15_small.calls Ac cc c e Ad cd d wq mo true _ (Kd.C_below HC.out.1 H1.out.1) hcc (Kd.C_below HC.out.2 H1.out.1) hcd (by rw [small15_q, hs])).mono ?_
  rintro e' w2 ⟨rfl, hb⟩
  have H2 := hid (And.intro (below_step H1.out.1 hb) (blk_below H1.out.2 hb))
  clear hb H1 k0 k1 k2 k3 k4
  obtain ⟨k0, k1, k2, k3, k4⟩ := five H2.out.2
  go_wp2_with fail
  refine (imgWrite_no Ac cc c e Ad cd d wq mo w2 (Kd.C_below HC.out.1 H2.out.1) hcc (Kd.C_below HC.out.2 H2.out.1) hcd hm).mono ?_
  rintro e' w3 ⟨rfl, hb⟩
  have H3 := hid (And.intro (below_step H2.out.1 hb) (blk_below H2.out.2 hb))
  clear hb H2 k0 k1 k2 k3 k4
  obtain ⟨k0, k1, k2, k3, k4⟩ := five H3.out.2
  go_wp2_with fail
  refine (spliceref15_May.calls Ac cc c e Ad cd d wq mo false w3 (Kd.C_below HC.out.1 H3.out.1) hcc (Kd.C_below HC.out.2 H3.out.1) hcd (by rw [refMay_q, hm])).mono ?_
  rintro e' w4 ⟨rfl, hb⟩
  have H4 := hid (below_step H3.out.1 hb)
  clear hb H3 k0 k1 k2 k3 k4
  go_wp2
  go_ret
  exact ⟨rfl, H4.out⟩
set_option maxRecDepth 100000 in
set_option maxHeartbeats 1000000 in
theorem writes_yes (Ac : Option Addr) (cc : Nat) (c : List Int) (e : Int) (Ad : Option Addr) (cd : Nat) (d : List Int) (wq mo : Int) (w : World) (hc : CU w Ac c) (hcc : c.length ≤ cc) (hd : CB w Ad d) (hcd : d.length ≤ cd) (hby : ∀ x ∈ c, 0 ≤ x ∧ x ≤ 4294967295) (hs : smallI c d = true) (hm : mayB c e d wq mo = true) :
    Calls Try.prog 8 #[.agg #[.slice Ac c.length cc, .int .i64 e, .slice Ad d.length cd, .int .i64 wq, .int .i64 mo]] w fun e' w' => e' = .returned (.bool true) ∧ Below w.heap.size w w' := by
  have HC := hid (And.intro hc hd)
  have HY := hid hby
  clear hc hd hby
  obtain ⟨L, hL⟩ : ∃ L, L = imgW c e d wq mo := ⟨_, rfl⟩
  have hz := imgW_len c e d wq mo hm
  rw [← hL] at hz
  have HZ := hid hz
  have HL := hid hL
  clear hz hL
  go_enter Try.func8, Try.ntmps8
  go_wp2_with fail
  refine (awake15_c _).mono ?_
  rintro e' w1 ⟨rfl, hb⟩
  have hB := below_step (below_alloc (Below.refl w.heap.size w) _) hb
  have b1 := blk_below (blk_new w _) hb
  obtain ⟨k0, k1, k2, k3, k4⟩ := five b1
  have H1 := hid (And.intro hB b1)
  clear hb b1 hB
  go_wp2_with fail
  refine (splicelaw15_small.calls Ac cc c e Ad cd d wq mo true _ (Kd.C_below HC.out.1 H1.out.1) hcc (Kd.C_below HC.out.2 H1.out.1) hcd (by rw [small15_q, hs])).mono ?_
  rintro e' w2 ⟨rfl, hb⟩
  have H2 := hid (And.intro (below_step H1.out.1 hb) (blk_below H1.out.2 hb))
  clear hb H1 k0 k1 k2 k3 k4
  obtain ⟨k0, k1, k2, k3, k4⟩ := five H2.out.2
  go_wp2_with fail
  have hk := imgWrite_yes Ac cc c e Ad cd d wq mo w2 (Kd.C_below HC.out.1 H2.out.1) hcc (Kd.C_below HC.out.2 H2.out.1) hcd HY.out hm
  rw [← HL.out] at hk
  refine hk.mono ?_
  clear hk
  rintro e' w3 ⟨v, rfl, hR, hb⟩
  obtain ⟨A3, c3, rfl, hc3, hC3⟩ := Kd.R_reads hR
  have H3 := hid (And.intro (below_step H2.out.1 hb) (And.intro (blk_below H2.out.2 hb) hC3))
  clear hb H2 k0 k1 k2 k3 k4 hR hC3
  obtain ⟨k0, k1, k2, k3, k4⟩ := five H3.out.2.1
  go_wp2_with fail
  refine (spliceref15_May.calls Ac cc c e Ad cd d wq mo true w3 (Kd.C_below HC.out.1 H3.out.1) hcc (Kd.C_below HC.out.2 H3.out.1) hcd (by rw [refMay_q, hm])).mono ?_
  rintro e' w4 ⟨rfl, hb⟩
  have H4 := hid (And.intro (below_step H3.out.1 hb) (And.intro (blk_below H3.out.2.1 hb) (Kd.C_below H3.out.2.2 hb)))
  clear hb H3 k0 k1 k2 k3 k4
  obtain ⟨k0, k1, k2, k3, k4⟩ := five H4.out.2.1
  go_wp2_with fail
  have hk := refWrite_c Ac cc c e Ad cd d wq mo w4 (Kd.C_below HC.out.1 H4.out.1) hcc (Kd.C_below HC.out.2 H4.out.1) hcd HY.out hm
  rw [← HL.out] at hk
  refine hk.mono ?_
  clear hk
  rintro e' w5 ⟨v, rfl, hR, hb⟩
  obtain ⟨A5, c5, rfl, hc5, hC5⟩ := Kd.R_reads hR
  have H5 := hid (And.intro (below_step H4.out.1 hb) (And.intro (Kd.C_below H4.out.2.2 hb) hC5))
  clear hb H4 k0 k1 k2 k3 k4 hR hC5
  go_wp2_with fail
  refine (spliceref01_Same.calls (L.length + 1) A3 c3 L A5 c5 L true w5 H5.out.2.1 hc3 H5.out.2.2 hc5 (by rw [refSame_k _ _ HZ.out _ (by omega)]; simp)).mono ?_
  rintro e' w6 ⟨rfl, ⟨nd, rfl⟩⟩
  have H6 := hid (pw_below_drewN H5.out.1 nd)
  go_wp2
  go_ret
  exact ⟨rfl, H6.out⟩
theorem writes_c (Ac : Option Addr) (cc : Nat) (c : List Int) (e : Int) (Ad : Option Addr) (cd : Nat) (d : List Int) (wq mo : Int) (w : World) (hc : CU w Ac c) (hcc : c.length ≤ cc) (hd : CB w Ad d) (hcd : d.length ≤ cd) (hby : ∀ x ∈ c, 0 ≤ x ∧ x ≤ 4294967295) :
    Calls Try.prog 8 #[.agg #[.slice Ac c.length cc, .int .i64 e, .slice Ad d.length cd, .int .i64 wq, .int .i64 mo]] w fun e' w' => e' = .returned (.bool true) ∧ Below w.heap.size w w' := by
  rcases Bool.eq_false_or_eq_true (smallI c d) with h | h
  · rcases Bool.eq_false_or_eq_true (mayB c e d wq mo) with h2 | h2
    · exact writes_yes Ac cc c e Ad cd d wq mo w hc hcc hd hcd hby h h2
    · exact writes_no Ac cc c e Ad cd d wq mo w hc hcc hd hcd h h2
  · exact writes_big Ac cc c e Ad cd d wq mo w hc hcc hd hcd h
end Go.Proofs.Ytmcfihpbiilbcaa.H
