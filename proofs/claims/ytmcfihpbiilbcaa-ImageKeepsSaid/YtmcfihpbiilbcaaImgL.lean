/- ImageBack's walk: an image that may be written. -/
import Derived.Test.YtmcfihpbiilbcaaImgK
namespace Go.Proofs.Ytmcfihpbiilbcaa.H
open Go.RowKit Go.Proofs.YtmcfihpbiilbcaaW.PrintWords Go.Proofs.YtmcfihpbiilbcaaW.PrintLast Go.Proofs.YtmcfihpbiilbcaaW.PrintMore Go.Proofs.Ytmcfihpbiilbcaa.E
set_option linter.unusedVariables false
set_option linter.unusedSimpArgs false
set_option maxRecDepth 100000 in
set_option maxHeartbeats 1000000 in
theorem back_yes_bad (Ac : Option Addr) (cc : Nat) (c : List Int) (e : Int) (Ad : Option Addr) (cd : Nat) (d : List Int) (wq mo : Int) (Ab : Option Addr) (cb : Nat) (b : List Int) (k : Int) (w : World) (hc : CU w Ac c) (hcc : c.length ≤ cc) (hd : CB w Ad d) (hcd : d.length ≤ cd) (hby : ∀ x ∈ c, 0 ≤ x ∧ x ≤ 4294967295) (hdy : Bytes d) (hb : CB w Ab b) (hcb : b.length ≤ cb) (hbb : Bytes b) (hk0 : 0 ≤ k) (hk1 : k ≤ 65535) (hs : smallI c d = true) (hbl : ¬ 100000 < (b.length : Int)) (hm : mayB c e d wq mo = true) (hE : readE b ≠ 0) :
    Calls Try.prog 10 #[.agg #[.slice Ac c.length cc, .int .i64 e, .slice Ad d.length cd, .int .i64 wq, .int .i64 mo], .slice Ab b.length cb, .int .u16 k] w fun e' w' => e' = .returned (.bool true) ∧ Below w.heap.size w w' := by
  have HC := hid (And.intro hc (And.intro hd hb))
  have HY := hid (And.intro hby (And.intro hdy hbb))
  clear hc hd hby hdy hb hbb
  have hE0 := hid hE
  clear hE
  obtain ⟨L, j, hf⟩ := back_facts c e d wq mo k HY.out.1 HY.out.2.1 hm hk0
  have hM := may_bounds hm
  have HL := hid hf
  have HM := hid hM
  clear hf hM
  go_enter Try.func10, Try.ntmps10
  go_wp2_with fail
  refine (awake15_c _).mono ?_
  rintro e' w1 ⟨rfl, hb⟩
  have hB := below_step (below_alloc (Below.refl w.heap.size w) _) hb
  have b1 := blk_below (blk_new w _) hb
  obtain ⟨k0, k1, k2, k3, k4⟩ := five b1
  have H1 := hid (And.intro hB b1)
  clear hb b1 hB
  go_wp2_with fail
  refine (splicelaw15_small.calls Ac cc c e Ad cd d wq mo true _ (Kd.C_below HC.out.1 H1.out.1) hcc (Kd.C_below HC.out.2.1 H1.out.1) hcd (by rw [small15_q, hs])).mono ?_
  rintro e' w2 ⟨rfl, hb⟩
  have H2 := hid (And.intro (below_step H1.out.1 hb) (blk_below H1.out.2 hb))
  clear hb H1 k0 k1 k2 k3 k4
  obtain ⟨k0, k1, k2, k3, k4⟩ := five H2.out.2
  go_wp2_with fail
  have hk := imgWrite_yes Ac cc c e Ad cd d wq mo w2 (Kd.C_below HC.out.1 H2.out.1) hcc (Kd.C_below HC.out.2.1 H2.out.1) hcd HY.out.1 hm
  rw [← HL.out.1] at hk
  refine hk.mono ?_
  clear hk
  rintro e' w3 ⟨v, rfl, hR, hb⟩
  obtain ⟨A3, c3, rfl, hc3, hC3⟩ := Kd.R_reads hR
  have H3 := hid (And.intro (below_step H2.out.1 hb) (And.intro (blk_below H2.out.2 hb) hC3))
  clear hb H2 k0 k1 k2 k3 k4 hR hC3
  go_wp2_with fail
  refine (iread_w A3 c3 L c e d wq mo w3 H3.out.2.2 hc3 HY.out.1 HY.out.2.1 hm HL.out.1).mono ?_
  rintro e' w4 ⟨An, cn, Am, cm, rfl, hcn, hcm, hCn, hCm, hb⟩
  obtain ⟨W4, hW4⟩ : ∃ W, W = w4.alloc (.cells #[.slice An c.length cn, .int .i64 e, .slice Am d.length cm, .int .i64 wq, .int .i64 mo] 60) := ⟨_, rfl⟩
  have n4 := blk_new w4 (.cells #[.slice An c.length cn, .int .i64 e, .slice Am d.length cm, .int .i64 wq, .int .i64 mo] 60)
  have hB := below_alloc (below_step H3.out.1 hb) (.cells #[.slice An c.length cn, .int .i64 e, .slice Am d.length cm, .int .i64 wq, .int .i64 mo] 60)
  have m4 := blk_alloc (blk_below H3.out.2.1 hb) (.cells #[.slice An c.length cn, .int .i64 e, .slice Am d.length cm, .int .i64 wq, .int .i64 mo] 60)
  have x4 := Kd.C_alloc (Kd.C_below H3.out.2.2 hb) (.cells #[.slice An c.length cn, .int .i64 e, .slice Am d.length cm, .int .i64 wq, .int .i64 mo] 60)
  have u4 := Kd.C_alloc hCn (.cells #[.slice An c.length cn, .int .i64 e, .slice Am d.length cm, .int .i64 wq, .int .i64 mo] 60)
  have v4 := Kd.C_alloc hCm (.cells #[.slice An c.length cn, .int .i64 e, .slice Am d.length cm, .int .i64 wq, .int .i64 mo] 60)
  rw [← hW4] at n4 hB m4 x4 u4 v4
  have H4 := hid (And.intro hB (And.intro n4 (And.intro m4 (And.intro x4 (And.intro u4 v4)))))
  have HW4 := hid hW4
  clear hW4 n4 hB m4 x4 u4 v4 hCn hCm hb H3
  have e1 : IntKind.i64.wrap k = k := IntWalk.i64_in _ (by omega)
  have e2 : Int.tmod k (L.length : Int) = (j : Int) := HL.out.2.2.2.2.2.1
  have e3 : IntKind.i64.wrap (j : Int) = (j : Int) := IntWalk.i64_in _ (by have := HL.out.2.2.2.2.2.2.1; have := HL.out.2.2.2.2.1; omega)
  have e4 : ((L.length : Int) == 0) = false := beq_eq_false_iff_ne.2 (by have := HL.out.2.2.2.1; omega)
  have e5 : ¬ ((L.length : Int) = 0) := by have := HL.out.2.2.2.1; omega
  have e6 : j ≤ c3 := by have := HL.out.2.2.2.2.2.2.1; omega
  have e7 : j ≤ L.length := by have := HL.out.2.2.2.2.2.2.1; omega
  go_wp2_with fail
  obtain ⟨y, hy⟩ : ∃ y, y = readE (L.take j) := ⟨_, rfl⟩
  have htl : (L.take j).length = j := by rw [List.length_take]; omega
  have hk := iread_err A3 c3 (L.take j) W4 (Kd.C_take H4.out.2.2.2.1 e7) (by omega) (fun x hx => HL.out.2.2.1 x (List.mem_of_mem_take hx)) (by have := HL.out.2.2.2.2.1; omega) HL.out.2.2.2.2.2.2.2
  rw [← hy, htl] at hk
  have hy0 : y ≠ 0 := by rw [hy]; exact HL.out.2.2.2.2.2.2.2
  have hy1 : (y == 0) = false := beq_eq_false_iff_ne.2 hy0
  clear hy htl
  rw [← HW4.out]
  refine hk.mono ?_
  clear hk
  rintro e' w5 ⟨rfl, hb⟩
  have hB := below_alloc (below_step H4.out.1 hb) (.cells zImg 60)
  have n5 := five (blk_alloc (blk_below H4.out.2.1 hb) (.cells zImg 60))
  have m5 := five (blk_alloc (blk_below H4.out.2.2.1 hb) (.cells zImg 60))
  have u5 := Kd.C_alloc (Kd.C_below H4.out.2.2.2.2.1 hb) (.cells zImg 60)
  have v5 := Kd.C_alloc (Kd.C_below H4.out.2.2.2.2.2 hb) (.cells zImg 60)
  have H5 := hid (And.intro hB (And.intro u5 v5))
  obtain ⟨k0, k1, k2, k3, k4⟩ := m5
  obtain ⟨l0, l1, l2, l3, l4⟩ := n5
  clear hB u5 v5 hb H4 HW4 e1 e2 e3 e4 e5 e6 e7
  go_wp2_with fail
  have hk := spliceref14_Same.calls 1000000001 An cn c e Am cm d wq mo Ac cc c e Ad cd d wq mo true
  refine (hk _ H5.out.2.1 hcn H5.out.2.2 hcm (Kd.C_below HC.out.1 H5.out.1) hcc (Kd.C_below HC.out.2.1 H5.out.1) hcd (by rw [same14_q _ _ _ _ _ _ _ _ _ _ (by have := HM.out.1; omega) (by have := HM.out.2; omega), sameI_self])).mono ?_
  clear hk
  rintro e' w6 ⟨rfl, hb⟩
  have G := hid (below_step H5.out.1 hb)
  clear hb H5 k0 k1 k2 k3 k4 l0 l1 l2 l3 l4
  have HE := hE0
  clear hE0
  go_wp2_with fail
  obtain ⟨z, hz⟩ : ∃ z, z = readE b := ⟨_, rfl⟩
  have hk := iread_err Ab cb b w6 (Kd.C_below HC.out.2.2 G.out) hcb HY.out.2.2 (by omega) HE.out
  rw [← hz] at hk
  have hz0 : z ≠ 0 := by rw [hz]; exact HE.out
  have hz1 : (z == 0) = false := beq_eq_false_iff_ne.2 hz0
  have hz2 : (z != 0) = true := bne_iff_ne.2 hz0
  clear hz
  refine hk.mono ?_
  clear hk
  rintro e' w7 ⟨rfl, hb⟩
  have H7 := hid (below_step G.out hb)
  clear hb G
  go_wp2_with fail
  have hk := spliceref14_Same.calls 1000000001 none 0 [] 0 none 0 [] 0 0 none 0 [] 0 none 0 [] 0 0 true
  refine (hk _ (Kd.C_nil _ _) (Nat.le_refl _) (Kd.C_nil _ _) (Nat.le_refl _) (Kd.C_nil _ _) (Nat.le_refl _) (Kd.C_nil _ _) (Nat.le_refl _) (by rw [same14_q _ _ _ _ _ _ _ _ _ _ (by simp) (by simp), sameI_self])).mono ?_
  clear hk
  rintro e' w8 ⟨rfl, hb⟩
  have H8 := hid (below_step (below_alloc H7.out _) hb)
  clear hb H7
  go_wp2
  go_ret
  exact ⟨rfl, H8.out⟩
set_option maxRecDepth 100000 in
set_option maxHeartbeats 1000000 in
theorem back_yes_ok (Ac : Option Addr) (cc : Nat) (c : List Int) (e : Int) (Ad : Option Addr) (cd : Nat) (d : List Int) (wq mo : Int) (Ab : Option Addr) (cb : Nat) (b : List Int) (k : Int) (w : World) (hc : CU w Ac c) (hcc : c.length ≤ cc) (hd : CB w Ad d) (hcd : d.length ≤ cd) (hby : ∀ x ∈ c, 0 ≤ x ∧ x ≤ 4294967295) (hdy : Bytes d) (hb : CB w Ab b) (hcb : b.length ≤ cb) (hbb : Bytes b) (hk0 : 0 ≤ k) (hk1 : k ≤ 65535) (hs : smallI c d = true) (hbl : ¬ 100000 < (b.length : Int)) (hm : mayB c e d wq mo = true) (hE : readE b = 0) :
    Calls Try.prog 10 #[.agg #[.slice Ac c.length cc, .int .i64 e, .slice Ad d.length cd, .int .i64 wq, .int .i64 mo], .slice Ab b.length cb, .int .u16 k] w fun e' w' => e' = .returned (.bool true) ∧ Below w.heap.size w w' := by
  have HC := hid (And.intro hc (And.intro hd hb))
  have HY := hid (And.intro hby (And.intro hdy hbb))
  clear hc hd hby hdy hb hbb
  have hE0 := hid hE
  clear hE
  obtain ⟨L, j, hf⟩ := back_facts c e d wq mo k HY.out.1 HY.out.2.1 hm hk0
  have hM := may_bounds hm
  have HL := hid hf
  have HM := hid hM
  clear hf hM
  go_enter Try.func10, Try.ntmps10
  go_wp2_with fail
  refine (awake15_c _).mono ?_
  rintro e' w1 ⟨rfl, hb⟩
  have hB := below_step (below_alloc (Below.refl w.heap.size w) _) hb
  have b1 := blk_below (blk_new w _) hb
  obtain ⟨k0, k1, k2, k3, k4⟩ := five b1
  have H1 := hid (And.intro hB b1)
  clear hb b1 hB
  go_wp2_with fail
  refine (splicelaw15_small.calls Ac cc c e Ad cd d wq mo true _ (Kd.C_below HC.out.1 H1.out.1) hcc (Kd.C_below HC.out.2.1 H1.out.1) hcd (by rw [small15_q, hs])).mono ?_
  rintro e' w2 ⟨rfl, hb⟩
  have H2 := hid (And.intro (below_step H1.out.1 hb) (blk_below H1.out.2 hb))
  clear hb H1 k0 k1 k2 k3 k4
  obtain ⟨k0, k1, k2, k3, k4⟩ := five H2.out.2
  go_wp2_with fail
  have hk := imgWrite_yes Ac cc c e Ad cd d wq mo w2 (Kd.C_below HC.out.1 H2.out.1) hcc (Kd.C_below HC.out.2.1 H2.out.1) hcd HY.out.1 hm
  rw [← HL.out.1] at hk
  refine hk.mono ?_
  clear hk
  rintro e' w3 ⟨v, rfl, hR, hb⟩
  obtain ⟨A3, c3, rfl, hc3, hC3⟩ := Kd.R_reads hR
  have H3 := hid (And.intro (below_step H2.out.1 hb) (And.intro (blk_below H2.out.2 hb) hC3))
  clear hb H2 k0 k1 k2 k3 k4 hR hC3
  go_wp2_with fail
  refine (iread_w A3 c3 L c e d wq mo w3 H3.out.2.2 hc3 HY.out.1 HY.out.2.1 hm HL.out.1).mono ?_
  rintro e' w4 ⟨An, cn, Am, cm, rfl, hcn, hcm, hCn, hCm, hb⟩
  obtain ⟨W4, hW4⟩ : ∃ W, W = w4.alloc (.cells #[.slice An c.length cn, .int .i64 e, .slice Am d.length cm, .int .i64 wq, .int .i64 mo] 60) := ⟨_, rfl⟩
  have n4 := blk_new w4 (.cells #[.slice An c.length cn, .int .i64 e, .slice Am d.length cm, .int .i64 wq, .int .i64 mo] 60)
  have hB := below_alloc (below_step H3.out.1 hb) (.cells #[.slice An c.length cn, .int .i64 e, .slice Am d.length cm, .int .i64 wq, .int .i64 mo] 60)
  have m4 := blk_alloc (blk_below H3.out.2.1 hb) (.cells #[.slice An c.length cn, .int .i64 e, .slice Am d.length cm, .int .i64 wq, .int .i64 mo] 60)
  have x4 := Kd.C_alloc (Kd.C_below H3.out.2.2 hb) (.cells #[.slice An c.length cn, .int .i64 e, .slice Am d.length cm, .int .i64 wq, .int .i64 mo] 60)
  have u4 := Kd.C_alloc hCn (.cells #[.slice An c.length cn, .int .i64 e, .slice Am d.length cm, .int .i64 wq, .int .i64 mo] 60)
  have v4 := Kd.C_alloc hCm (.cells #[.slice An c.length cn, .int .i64 e, .slice Am d.length cm, .int .i64 wq, .int .i64 mo] 60)
  rw [← hW4] at n4 hB m4 x4 u4 v4
  have H4 := hid (And.intro hB (And.intro n4 (And.intro m4 (And.intro x4 (And.intro u4 v4)))))
  have HW4 := hid hW4
  clear hW4 n4 hB m4 x4 u4 v4 hCn hCm hb H3
  have e1 : IntKind.i64.wrap k = k := IntWalk.i64_in _ (by omega)
  have e2 : Int.tmod k (L.length : Int) = (j : Int) := HL.out.2.2.2.2.2.1
  have e3 : IntKind.i64.wrap (j : Int) = (j : Int) := IntWalk.i64_in _ (by have := HL.out.2.2.2.2.2.2.1; have := HL.out.2.2.2.2.1; omega)
  have e4 : ((L.length : Int) == 0) = false := beq_eq_false_iff_ne.2 (by have := HL.out.2.2.2.1; omega)
  have e5 : ¬ ((L.length : Int) = 0) := by have := HL.out.2.2.2.1; omega
  have e6 : j ≤ c3 := by have := HL.out.2.2.2.2.2.2.1; omega
  have e7 : j ≤ L.length := by have := HL.out.2.2.2.2.2.2.1; omega
  go_wp2_with fail
  obtain ⟨y, hy⟩ : ∃ y, y = readE (L.take j) := ⟨_, rfl⟩
  have htl : (L.take j).length = j := by rw [List.length_take]; omega
  have hk := iread_err A3 c3 (L.take j) W4 (Kd.C_take H4.out.2.2.2.1 e7) (by omega) (fun x hx => HL.out.2.2.1 x (List.mem_of_mem_take hx)) (by have := HL.out.2.2.2.2.1; omega) HL.out.2.2.2.2.2.2.2
  rw [← hy, htl] at hk
  have hy0 : y ≠ 0 := by rw [hy]; exact HL.out.2.2.2.2.2.2.2
  have hy1 : (y == 0) = false := beq_eq_false_iff_ne.2 hy0
  clear hy htl
  rw [← HW4.out]
  refine hk.mono ?_
  clear hk
  rintro e' w5 ⟨rfl, hb⟩
  have hB := below_alloc (below_step H4.out.1 hb) (.cells zImg 60)
  have n5 := five (blk_alloc (blk_below H4.out.2.1 hb) (.cells zImg 60))
  have m5 := five (blk_alloc (blk_below H4.out.2.2.1 hb) (.cells zImg 60))
  have u5 := Kd.C_alloc (Kd.C_below H4.out.2.2.2.2.1 hb) (.cells zImg 60)
  have v5 := Kd.C_alloc (Kd.C_below H4.out.2.2.2.2.2 hb) (.cells zImg 60)
  have H5 := hid (And.intro hB (And.intro u5 v5))
  obtain ⟨k0, k1, k2, k3, k4⟩ := m5
  obtain ⟨l0, l1, l2, l3, l4⟩ := n5
  clear hB u5 v5 hb H4 HW4 e1 e2 e3 e4 e5 e6 e7
  go_wp2_with fail
  have hk := spliceref14_Same.calls 1000000001 An cn c e Am cm d wq mo Ac cc c e Ad cd d wq mo true
  refine (hk _ H5.out.2.1 hcn H5.out.2.2 hcm (Kd.C_below HC.out.1 H5.out.1) hcc (Kd.C_below HC.out.2.1 H5.out.1) hcd (by rw [same14_q _ _ _ _ _ _ _ _ _ _ (by have := HM.out.1; omega) (by have := HM.out.2; omega), sameI_self])).mono ?_
  clear hk
  rintro e' w6 ⟨rfl, hb⟩
  have G := hid (below_step H5.out.1 hb)
  clear hb H5 k0 k1 k2 k3 k4 l0 l1 l2 l3 l4
  obtain ⟨q1, q2⟩ := imgW_rd b HY.out.2.2 hE0.out
  have q3 : ∀ x ∈ rdC b (rdN b).toNat, 0 ≤ x ∧ x ≤ 4294967295 := by
    intro x hx
    unfold rdC at hx
    obtain ⟨i, _, rfl⟩ := List.mem_map.1 hx
    exact N4_range HY.out.2.2 _
  have hrd := fun w0 h0 => iread_ok Ab cb b w0 h0 hcb HY.out.2.2 (by omega) hE0.out
  obtain ⟨C, hCe⟩ : ∃ C, C = rdC b (rdN b).toNat := ⟨_, rfl⟩
  obtain ⟨D, hDe⟩ : ∃ D, D = rdD b := ⟨_, rfl⟩
  obtain ⟨x1, hx1⟩ : ∃ x, x = rdE b := ⟨_, rfl⟩
  obtain ⟨x2, hx2⟩ : ∃ x, x = rdW b := ⟨_, rfl⟩
  obtain ⟨x3, hx3⟩ : ∃ x, x = rdM b := ⟨_, rfl⟩
  rw [← hCe, ← hDe, ← hx1, ← hx2, ← hx3] at hrd q1 q2
  rw [← hCe] at q3
  clear hCe hDe hx1 hx2 hx3
  have HQ := hid (And.intro q1 (And.intro q2 q3))
  have HR := hid hrd
  clear hE0 q1 q2 q3 hrd
  go_wp2_with fail
  refine (HR.out w6 (Kd.C_below HC.out.2.2 G.out)).mono ?_
  rintro e' w7 ⟨v0, v2, rfl, hR0, hR2, hb⟩
  obtain ⟨Ap, cp, rfl, hcp, hCp⟩ := Kd.R_reads hR0
  obtain ⟨Aq, cq, rfl, hcq, hCq⟩ := Kd.R_reads hR2
  have hB := below_alloc (below_step G.out hb) (.cells #[.slice Ap C.length cp, .int .i64 x1, .slice Aq D.length cq, .int .i64 x2, .int .i64 x3] 60)
  have u7 := Kd.C_alloc hCp (.cells #[.slice Ap C.length cp, .int .i64 x1, .slice Aq D.length cq, .int .i64 x2, .int .i64 x3] 60)
  have v7 := Kd.C_alloc hCq (.cells #[.slice Ap C.length cp, .int .i64 x1, .slice Aq D.length cq, .int .i64 x2, .int .i64 x3] 60)
  have H7 := hid (And.intro hB (And.intro u7 v7))
  clear hb hR0 hR2 hCp hCq hB u7 v7 G
  go_wp2_with fail
  have hk := imgWrite_yes Ap cp C x1 Aq cq D x2 x3 _ H7.out.2.1 hcp H7.out.2.2 hcq HQ.out.2.2 HQ.out.1
  rw [HQ.out.2.1] at hk
  refine hk.mono ?_
  clear hk
  rintro e' w8 ⟨v, rfl, hR, hb⟩
  obtain ⟨A8, c8, rfl, hc8, hC8⟩ := Kd.R_reads hR
  have H8 := hid (And.intro (below_step H7.out.1 hb) hC8)
  clear hb hR hC8 H7
  go_wp2_with fail
  refine (spliceref01_Same.calls (b.length + 1) A8 c8 b Ab cb b true w8 H8.out.2 hc8 (Kd.C_below HC.out.2.2 H8.out.1) hcb (by rw [refSame_k _ _ (by omega) _ (by omega)]; simp)).mono ?_
  rintro e' w9 ⟨rfl, ⟨nd, rfl⟩⟩
  have H9 := hid (pw_below_drewN H8.out.1 nd)
  go_wp2
  go_ret
  exact ⟨rfl, H9.out⟩
theorem back_c (Ac : Option Addr) (cc : Nat) (c : List Int) (e : Int) (Ad : Option Addr) (cd : Nat) (d : List Int) (wq mo : Int) (Ab : Option Addr) (cb : Nat) (b : List Int) (k : Int) (w : World) (hc : CU w Ac c) (hcc : c.length ≤ cc) (hd : CB w Ad d) (hcd : d.length ≤ cd) (hby : ∀ x ∈ c, 0 ≤ x ∧ x ≤ 4294967295) (hdy : Bytes d) (hb : CB w Ab b) (hcb : b.length ≤ cb) (hbb : Bytes b) (hk0 : 0 ≤ k) (hk1 : k ≤ 65535) :
    Calls Try.prog 10 #[.agg #[.slice Ac c.length cc, .int .i64 e, .slice Ad d.length cd, .int .i64 wq, .int .i64 mo], .slice Ab b.length cb, .int .u16 k] w fun e' w' => e' = .returned (.bool true) ∧ Below w.heap.size w w' := by
  rcases Bool.eq_false_or_eq_true (smallI c d) with h | h
  · by_cases hs : 100000 < (b.length : Int)
    · exact back_big2 Ac cc c e Ad cd d wq mo Ab cb b k w hc hcc hd hcd hby hdy hb hcb hbb hk0 hk1 h hs
    · rcases Bool.eq_false_or_eq_true (mayB c e d wq mo) with h2 | h2 <;> by_cases hE : readE b = 0
      · exact back_yes_ok Ac cc c e Ad cd d wq mo Ab cb b k w hc hcc hd hcd hby hdy hb hcb hbb hk0 hk1 h hs h2 hE
      · exact back_yes_bad Ac cc c e Ad cd d wq mo Ab cb b k w hc hcc hd hcd hby hdy hb hcb hbb hk0 hk1 h hs h2 hE
      · exact back_no_ok Ac cc c e Ad cd d wq mo Ab cb b k w hc hcc hd hcd hby hdy hb hcb hbb hk0 hk1 h hs h2 hE
      · exact back_no_bad Ac cc c e Ad cd d wq mo Ab cb b k w hc hcc hd hcd hby hdy hb hcb hbb hk0 hk1 h hs h2 hE
  · exact back_big Ac cc c e Ad cd d wq mo Ab cb b k w hc hcc hd hcd hby hdy hb hcb hbb hk0 hk1 h
end Go.Proofs.Ytmcfihpbiilbcaa.H
