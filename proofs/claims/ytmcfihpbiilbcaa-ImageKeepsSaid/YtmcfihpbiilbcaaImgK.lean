/- ImageBack's walk. -/
import Derived.Test.YtmcfihpbiilbcaaImgJ
namespace Go.Proofs.Ytmcfihpbiilbcaa.H
open Go.RowKit Go.Proofs.YtmcfihpbiilbcaaW.PrintWords Go.Proofs.YtmcfihpbiilbcaaW.PrintLast Go.Proofs.YtmcfihpbiilbcaaW.PrintMore Go.Proofs.Ytmcfihpbiilbcaa.E
set_option linter.unusedVariables false
set_option linter.unusedSimpArgs false
theorem imgW_bytes (c : List Int) (e : Int) (d : List Int) (wq mo : Int) (hby : ∀ x ∈ c, 0 ≤ x ∧ x ≤ 4294967295) (hd : Bytes d) (hm : mayB c e d wq mo = true) : Bytes (imgW c e d wq mo) := by
  have hM : c.length ≤ 65536 ∧ (e = 0 ∨ 0 < e ∧ e < c.length) ∧ d.length ≤ 65536 ∧ 0 ≤ wq ∧ wq ≤ d.length ∧ 0 ≤ mo ∧ mo ≤ 65536 := of_decide_eq_true hm
  have p4 : ∀ n : Int, 0 ≤ n → n ≤ 4294967295 → Bytes (putS n 4) := fun n h0 h1 => by rw [putS_four n h0 h1]; exact bytes_four n h0 h1
  have hw : Bytes (wordsS c) := by
    intro y hy
    unfold wordsS at hy
    obtain ⟨s, hs, hy⟩ := List.mem_flatten.1 hy
    obtain ⟨x, hx, rfl⟩ := List.mem_map.1 hs
    exact p4 x (hby x hx).1 (hby x hx).2 y hy
  have h4 : Bytes [83, 80, 88, 49] := by intro x hx; simp at hx; omega
  unfold imgW
  exact (((((((h4.append (p4 _ (by omega) (by omega))).append hw).append (p4 _ (by omega) (by omega))).append (p4 _ (by omega) (by omega))).append hd).append (p4 _ (by omega) (by omega))).append (p4 _ (by omega) (by omega)))
/-- What is written is read as it was. -/
theorem iread_w (A : Option Addr) (ca : Nat) (L : List Int) (c : List Int) (e : Int) (d : List Int) (wq mo : Int) (w : World) (hC : CB w A L) (hc : L.length ≤ ca) (hby : ∀ x ∈ c, 0 ≤ x ∧ x ≤ 4294967295) (hd : Bytes d) (hm : mayB c e d wq mo = true) (hL : L = imgW c e d wq mo) :
    Calls Try.prog 54 #[.slice A L.length ca] w fun e' w' => ∃ (Ac : Option Addr) (cc : Nat) (Ad : Option Addr) (cd : Nat), e' = .returned (.tuple #[.agg #[.slice Ac c.length cc, .int .i64 e, .slice Ad d.length cd, .int .i64 wq, .int .i64 mo], .int .i64 0]) ∧ c.length ≤ cc ∧ d.length ≤ cd ∧ CU w' Ac c ∧ CB w' Ad d ∧ Below w.heap.size w w' := by
  have hz : readE L = 0 := by rw [hL]; exact readE_imgW c e d wq mo hby hm
  have hb : Bytes L := by rw [hL]; exact imgW_bytes c e d wq mo hby hd hm
  obtain ⟨f0, f1, f2, f3, f4, f5, f6, f7, f8⟩ := fields_w c e d wq mo hby hm
  have hM : c.length ≤ 65536 ∧ (e = 0 ∨ 0 < e ∧ e < c.length) ∧ d.length ≤ 65536 ∧ 0 ≤ wq ∧ wq ≤ d.length ∧ 0 ≤ mo ∧ mo ≤ 65536 := of_decide_eq_true hm
  rw [← hL] at f0 f1 f2 f3 f4 f5 f6 f7 f8
  refine (iread_ok A ca L w hC hc hb (by omega) hz).mono ?_
  rintro e' w' ⟨v0, v2, rfl, hR0, hR2, hb⟩
  obtain ⟨A0, c0, rfl, hc0, hC0⟩ := Kd.R_reads hR0
  obtain ⟨A2, c2, rfl, hc2, hC2⟩ := Kd.R_reads hR2
  rw [show (rdN L).toNat = c.length by omega, f7] at hc0 hC0 ⊢
  rw [f6] at hc2 hC2 ⊢
  rw [f2, f4, f5]
  exact ⟨A0, c0, A2, c2, rfl, hc0, hc2, hC0, hC2, hb⟩
theorem tmod_cut (k : Int) (n : Nat) (h0 : 0 ≤ k) (hn : 0 < n) : ∃ j : Nat, Int.tmod k n = (j : Int) ∧ j < n := by
  refine ⟨(Int.tmod k n).toNat, ?_, ?_⟩
  · have := Int.tmod_nonneg (n : Int) h0
    omega
  · have h1 := Int.tmod_nonneg (n : Int) h0
    have h2 := Int.tmod_lt_of_pos k (b := (n : Int)) (by omega)
    omega
theorem may_bounds {c : List Int} {e : Int} {d : List Int} {wq mo : Int} (hm : mayB c e d wq mo = true) : c.length ≤ 65536 ∧ d.length ≤ 65536 := by
  have hM : c.length ≤ 65536 ∧ (e = 0 ∨ 0 < e ∧ e < c.length) ∧ d.length ≤ 65536 ∧ 0 ≤ wq ∧ wq ≤ d.length ∧ 0 ≤ mo ∧ mo ≤ 65536 := of_decide_eq_true hm
  exact ⟨hM.1, hM.2.2.1⟩
theorem back_facts (c : List Int) (e : Int) (d : List Int) (wq mo k : Int) (hby : ∀ x ∈ c, 0 ≤ x ∧ x ≤ 4294967295) (hdy : Bytes d) (hm : mayB c e d wq mo = true) (hk0 : 0 ≤ k) :
    ∃ (L : List Int) (j : Nat), L = imgW c e d wq mo ∧ readE L = 0 ∧ Bytes L ∧ 0 < (L.length : Int) ∧ (L.length : Int) ≤ 400000 ∧ Int.tmod k (L.length : Int) = (j : Int) ∧ j < L.length ∧ readE (L.take j) ≠ 0 := by
  obtain ⟨hM1, hM2⟩ := may_bounds hm
  have hLe := readE_imgW c e d wq mo hby hm
  have hLb := imgW_bytes c e d wq mo hby hdy hm
  obtain ⟨_, _, _, _, _, _, _, _, hLn⟩ := fields_w c e d wq mo hby hm
  obtain ⟨j, hj, hjl⟩ := tmod_cut k (imgW c e d wq mo).length hk0 (by omega)
  exact ⟨_, j, rfl, hLe, hLb, by omega, by omega, hj, hjl, readE_pre _ hLb hLe j hjl⟩
set_option maxRecDepth 100000 in
set_option maxHeartbeats 1000000 in
theorem back_big (Ac : Option Addr) (cc : Nat) (c : List Int) (e : Int) (Ad : Option Addr) (cd : Nat) (d : List Int) (wq mo : Int) (Ab : Option Addr) (cb : Nat) (b : List Int) (k : Int) (w : World) (hc : CU w Ac c) (hcc : c.length ≤ cc) (hd : CB w Ad d) (hcd : d.length ≤ cd) (hby : ∀ x ∈ c, 0 ≤ x ∧ x ≤ 4294967295) (hdy : Bytes d) (hb : CB w Ab b) (hcb : b.length ≤ cb) (hbb : Bytes b) (hk0 : 0 ≤ k) (hk1 : k ≤ 65535) (hs : smallI c d = false) :
    Calls Try.prog 10 #[.agg #[.slice Ac c.length cc, .int .i64 e, .slice Ad d.length cd, .int .i64 wq, .int .i64 mo], .slice Ab b.length cb, .int .u16 k] w fun e' w' => e' = .returned (.bool true) ∧ Below w.heap.size w w' := by
  have HC := hid (And.intro hc (And.intro hd hb))
  have HY := hid (And.intro hby (And.intro hdy hbb))
  clear hc hd hby hdy hb hbb
  go_enter Try.func10, Try.ntmps10
  go_wp2_with fail
  refine (awake15_c _).mono ?_
  rintro e' w1 ⟨rfl, hb⟩
  have hB := below_step (below_alloc (Below.refl w.heap.size w) _) hb
  have b1 := blk_below (blk_new w _) hb
  obtain ⟨k0, k1, k2, k3, k4⟩ := five b1
  have H1 := hid (And.intro hB b1)
  clear hb b1 hB
  go_wp2_with fail
  refine (splicelaw15_small.calls Ac cc c e Ad cd d wq mo false _ (Kd.C_below HC.out.1 H1.out.1) hcc (Kd.C_below HC.out.2.1 H1.out.1) hcd (by rw [small15_q, hs])).mono ?_
  rintro e' w2 ⟨rfl, hb⟩
  have H2 := hid (And.intro (below_step H1.out.1 hb) (blk_below H1.out.2 hb))
  clear hb H1 k0 k1 k2 k3 k4
  go_wp2_with fail
  refine (awake15_c _).mono ?_
  rintro e' w3 ⟨rfl, hb⟩
  have H3 := hid (below_step H2.out.1 hb)
  clear hb H2
  go_wp2
  go_ret
  exact ⟨rfl, H3.out⟩
set_option maxRecDepth 100000 in
set_option maxHeartbeats 1000000 in
theorem back_big2 (Ac : Option Addr) (cc : Nat) (c : List Int) (e : Int) (Ad : Option Addr) (cd : Nat) (d : List Int) (wq mo : Int) (Ab : Option Addr) (cb : Nat) (b : List Int) (k : Int) (w : World) (hc : CU w Ac c) (hcc : c.length ≤ cc) (hd : CB w Ad d) (hcd : d.length ≤ cd) (hby : ∀ x ∈ c, 0 ≤ x ∧ x ≤ 4294967295) (hdy : Bytes d) (hb : CB w Ab b) (hcb : b.length ≤ cb) (hbb : Bytes b) (hk0 : 0 ≤ k) (hk1 : k ≤ 65535) (hs : smallI c d = true) (hbig : 100000 < (b.length : Int)) :
    Calls Try.prog 10 #[.agg #[.slice Ac c.length cc, .int .i64 e, .slice Ad d.length cd, .int .i64 wq, .int .i64 mo], .slice Ab b.length cb, .int .u16 k] w fun e' w' => e' = .returned (.bool true) ∧ Below w.heap.size w w' := by
  have HC := hid (And.intro hc (And.intro hd hb))
  have HY := hid (And.intro hby (And.intro hdy hbb))
  clear hc hd hby hdy hb hbb
  go_enter Try.func10, Try.ntmps10
  go_wp2_with fail
  refine (awake15_c _).mono ?_
  rintro e' w1 ⟨rfl, hb⟩
  have hB := below_step (below_alloc (Below.refl w.heap.size w) _) hb
  have b1 := blk_below (blk_new w _) hb
  obtain ⟨k0, k1, k2, k3, k4⟩ := five b1
  have H1 := hid (And.intro hB b1)
  clear hb b1 hB
  go_wp2_with fail
  refine (splicelaw15_small.calls Ac cc c e Ad cd d wq mo true _ (Kd.C_below HC.out.1 H1.out.1) hcc (Kd.C_below HC.out.2.1 H1.out.1) hcd (by rw [small15_q, hs])).mono ?_
  rintro e' w2 ⟨rfl, hb⟩
  have H2 := hid (And.intro (below_step H1.out.1 hb) (blk_below H1.out.2 hb))
  clear hb H1 k0 k1 k2 k3 k4
  go_wp2_with fail
  refine (awake15_c _).mono ?_
  rintro e' w3 ⟨rfl, hb⟩
  have H3 := hid (below_step H2.out.1 hb)
  clear hb H2
  go_wp2
  go_ret
  exact ⟨rfl, H3.out⟩
set_option maxRecDepth 100000 in
set_option maxHeartbeats 1000000 in
theorem back_no_bad (Ac : Option Addr) (cc : Nat) (c : List Int) (e : Int) (Ad : Option Addr) (cd : Nat) (d : List Int) (wq mo : Int) (Ab : Option Addr) (cb : Nat) (b : List Int) (k : Int) (w : World) (hc : CU w Ac c) (hcc : c.length ≤ cc) (hd : CB w Ad d) (hcd : d.length ≤ cd) (hby : ∀ x ∈ c, 0 ≤ x ∧ x ≤ 4294967295) (hdy : Bytes d) (hb : CB w Ab b) (hcb : b.length ≤ cb) (hbb : Bytes b) (hk0 : 0 ≤ k) (hk1 : k ≤ 65535) (hs : smallI c d = true) (hbl : ¬ 100000 < (b.length : Int)) (hm : mayB c e d wq mo = false) (hE : readE b ≠ 0) :
    Calls Try.prog 10 #[.agg #[.slice Ac c.length cc, .int .i64 e, .slice Ad d.length cd, .int .i64 wq, .int .i64 mo], .slice Ab b.length cb, .int .u16 k] w fun e' w' => e' = .returned (.bool true) ∧ Below w.heap.size w w' := by
  have HC := hid (And.intro hc (And.intro hd hb))
  have HY := hid (And.intro hby (And.intro hdy hbb))
  clear hc hd hby hdy hb hbb
  have hE0 := hid hE
  clear hE
  go_enter Try.func10, Try.ntmps10
  go_wp2_with fail
  refine (awake15_c _).mono ?_
  rintro e' w1 ⟨rfl, hb⟩
  have hB := below_step (below_alloc (Below.refl w.heap.size w) _) hb
  have b1 := blk_below (blk_new w _) hb
  obtain ⟨k0, k1, k2, k3, k4⟩ := five b1
  have H1 := hid (And.intro hB b1)
  clear hb b1 hB
  go_wp2_with fail
  refine (splicelaw15_small.calls Ac cc c e Ad cd d wq mo true _ (Kd.C_below HC.out.1 H1.out.1) hcc (Kd.C_below HC.out.2.1 H1.out.1) hcd (by rw [small15_q, hs])).mono ?_
  rintro e' w2 ⟨rfl, hb⟩
  have H2 := hid (And.intro (below_step H1.out.1 hb) (blk_below H1.out.2 hb))
  clear hb H1 k0 k1 k2 k3 k4
  obtain ⟨k0, k1, k2, k3, k4⟩ := five H2.out.2
  go_wp2_with fail
  refine (imgWrite_no Ac cc c e Ad cd d wq mo w2 (Kd.C_below HC.out.1 H2.out.1) hcc (Kd.C_below HC.out.2.1 H2.out.1) hcd hm).mono ?_
  rintro e' w6 ⟨rfl, hb⟩
  have G := hid (below_step H2.out.1 hb)
  clear hb H2 k0 k1 k2 k3 k4
  have HE := hE0
  clear hE0
  go_wp2_with fail
  obtain ⟨z, hz⟩ : ∃ z, z = readE b := ⟨_, rfl⟩
  have hk := iread_err Ab cb b w6 (Kd.C_below HC.out.2.2 G.out) hcb HY.out.2.2 (by omega) HE.out
  rw [← hz] at hk
  have hz0 : z ≠ 0 := by rw [hz]; exact HE.out
  have hz1 : (z == 0) = false := beq_eq_false_iff_ne.2 hz0
  have hz2 : (z != 0) = true := bne_iff_ne.2 hz0
  clear hz
  refine hk.mono ?_
  clear hk
  rintro e' w7 ⟨rfl, hb⟩
  have H7 := hid (below_step G.out hb)
  clear hb G
  go_wp2_with fail
  have hk := spliceref14_Same.calls 1000000001 none 0 [] 0 none 0 [] 0 0 none 0 [] 0 none 0 [] 0 0 true
  refine (hk _ (Kd.C_nil _ _) (Nat.le_refl _) (Kd.C_nil _ _) (Nat.le_refl _) (Kd.C_nil _ _) (Nat.le_refl _) (Kd.C_nil _ _) (Nat.le_refl _) (by rw [same14_q _ _ _ _ _ _ _ _ _ _ (by simp) (by simp), sameI_self])).mono ?_
  clear hk
  rintro e' w8 ⟨rfl, hb⟩
  have H8 := hid (below_step (below_alloc H7.out _) hb)
  clear hb H7
  go_wp2
  go_ret
  exact ⟨rfl, H8.out⟩
set_option maxRecDepth 100000 in
set_option maxHeartbeats 1000000 in
theorem back_no_ok (Ac : Option Addr) (cc : Nat) (c : List Int) (e : Int) (Ad : Option Addr) (cd : Nat) (d : List Int) (wq mo : Int) (Ab : Option Addr) (cb : Nat) (b : List Int) (k : Int) (w : World) (hc : CU w Ac c) (hcc : c.length ≤ cc) (hd : CB w Ad d) (hcd : d.length ≤ cd) (hby : ∀ x ∈ c, 0 ≤ x ∧ x ≤ 4294967295) (hdy : Bytes d) (hb : CB w Ab b) (hcb : b.length ≤ cb) (hbb : Bytes b) (hk0 : 0 ≤ k) (hk1 : k ≤ 65535) (hs : smallI c d = true) (hbl : ¬ 100000 < (b.length : Int)) (hm : mayB c e d wq mo = false) (hE : readE b = 0) :
    Calls Try.prog 10 #[.agg #[.slice Ac c.length cc, .int .i64 e, .slice Ad d.length cd, .int .i64 wq, .int .i64 mo], .slice Ab b.length cb, .int .u16 k] w fun e' w' => e' = .returned (.bool true) ∧ Below w.heap.size w w' := by
  have HC := hid (And.intro hc (And.intro hd hb))
  have HY := hid (And.intro hby (And.intro hdy hbb))
  clear hc hd hby hdy hb hbb
  have hE0 := hid hE
  clear hE
  go_enter Try.func10, Try.ntmps10
  go_wp2_with fail
  refine (awake15_c _).mono ?_
  rintro e' w1 ⟨rfl, hb⟩
  have hB := below_step (below_alloc (Below.refl w.heap.size w) _) hb
  have b1 := blk_below (blk_new w _) hb
  obtain ⟨k0, k1, k2, k3, k4⟩ := five b1
  have H1 := hid (And.intro hB b1)
  clear hb b1 hB
  go_wp2_with fail
  refine (splicelaw15_small.calls Ac cc c e Ad cd d wq mo true _ (Kd.C_below HC.out.1 H1.out.1) hcc (Kd.C_below HC.out.2.1 H1.out.1) hcd (by rw [small15_q, hs])).mono ?_
  rintro e' w2 ⟨rfl, hb⟩
  have H2 := hid (And.intro (below_step H1.out.1 hb) (blk_below H1.out.2 hb))
  clear hb H1 k0 k1 k2 k3 k4
  obtain ⟨k0, k1, k2, k3, k4⟩ := five H2.out.2
  go_wp2_with fail
  refine (imgWrite_no Ac cc c e Ad cd d wq mo w2 (Kd.C_below HC.out.1 H2.out.1) hcc (Kd.C_below HC.out.2.1 H2.out.1) hcd hm).mono ?_
  rintro e' w6 ⟨rfl, hb⟩
  have G := hid (below_step H2.out.1 hb)
  clear hb H2 k0 k1 k2 k3 k4
  obtain ⟨q1, q2⟩ := imgW_rd b HY.out.2.2 hE0.out
  have q3 : ∀ x ∈ rdC b (rdN b).toNat, 0 ≤ x ∧ x ≤ 4294967295 := by
    intro x hx
    unfold rdC at hx
    obtain ⟨i, _, rfl⟩ := List.mem_map.1 hx
    exact N4_range HY.out.2.2 _
  have hrd := fun w0 h0 => iread_ok Ab cb b w0 h0 hcb HY.out.2.2 (by omega) hE0.out
  obtain ⟨C, hCe⟩ : ∃ C, C = rdC b (rdN b).toNat := ⟨_, rfl⟩
  obtain ⟨D, hDe⟩ : ∃ D, D = rdD b := ⟨_, rfl⟩
  obtain ⟨x1, hx1⟩ : ∃ x, x = rdE b := ⟨_, rfl⟩
  obtain ⟨x2, hx2⟩ : ∃ x, x = rdW b := ⟨_, rfl⟩
  obtain ⟨x3, hx3⟩ : ∃ x, x = rdM b := ⟨_, rfl⟩
  rw [← hCe, ← hDe, ← hx1, ← hx2, ← hx3] at hrd q1 q2
  rw [← hCe] at q3
  clear hCe hDe hx1 hx2 hx3
  have HQ := hid (And.intro q1 (And.intro q2 q3))
  have HR := hid hrd
  clear hE0 q1 q2 q3 hrd
  go_wp2_with fail
  refine (HR.out w6 (Kd.C_below HC.out.2.2 G.out)).mono ?_
  rintro e' w7 ⟨v0, v2, rfl, hR0, hR2, hb⟩
  obtain ⟨Ap, cp, rfl, hcp, hCp⟩ := Kd.R_reads hR0
  obtain ⟨Aq, cq, rfl, hcq, hCq⟩ := Kd.R_reads hR2
  have hB := below_alloc (below_step G.out hb) (.cells #[.slice Ap C.length cp, .int .i64 x1, .slice Aq D.length cq, .int .i64 x2, .int .i64 x3] 60)
  have u7 := Kd.C_alloc hCp (.cells #[.slice Ap C.length cp, .int .i64 x1, .slice Aq D.length cq, .int .i64 x2, .int .i64 x3] 60)
  have v7 := Kd.C_alloc hCq (.cells #[.slice Ap C.length cp, .int .i64 x1, .slice Aq D.length cq, .int .i64 x2, .int .i64 x3] 60)
  have H7 := hid (And.intro hB (And.intro u7 v7))
  clear hb hR0 hR2 hCp hCq hB u7 v7 G
  go_wp2_with fail
  have hk := imgWrite_yes Ap cp C x1 Aq cq D x2 x3 _ H7.out.2.1 hcp H7.out.2.2 hcq HQ.out.2.2 HQ.out.1
  rw [HQ.out.2.1] at hk
  refine hk.mono ?_
  clear hk
  rintro e' w8 ⟨v, rfl, hR, hb⟩
  obtain ⟨A8, c8, rfl, hc8, hC8⟩ := Kd.R_reads hR
  have H8 := hid (And.intro (below_step H7.out.1 hb) hC8)
  clear hb hR hC8 H7
  go_wp2_with fail
  refine (spliceref01_Same.calls (b.length + 1) A8 c8 b Ab cb b true w8 H8.out.2 hc8 (Kd.C_below HC.out.2.2 H8.out.1) hcb (by rw [refSame_k _ _ (by omega) _ (by omega)]; simp)).mono ?_
  rintro e' w9 ⟨rfl, ⟨nd, rfl⟩⟩
  have H9 := hid (pw_below_drewN H8.out.1 nd)
  go_wp2
  go_ret
  exact ⟨rfl, H9.out⟩
end Go.Proofs.Ytmcfihpbiilbcaa.H
