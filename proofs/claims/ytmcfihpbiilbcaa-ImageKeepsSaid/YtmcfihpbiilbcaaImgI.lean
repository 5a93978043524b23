/- ImageReads' walk. -/
import Derived.Test.YtmcfihpbiilbcaaImgH
namespace Go.Proofs.Ytmcfihpbiilbcaa.H
open Go.RowKit Go.Proofs.YtmcfihpbiilbcaaW.PrintWords Go.Proofs.YtmcfihpbiilbcaaW.PrintLast Go.Proofs.YtmcfihpbiilbcaaW.PrintMore Go.Proofs.Ytmcfihpbiilbcaa.E
set_option linter.unusedVariables false
set_option linter.unusedSimpArgs false
theorem sameI_self (c : List Int) (e : Int) (d : List Int) (wq mo : Int) : sameI c e d wq mo c e d wq mo = true := by unfold sameI; simp
theorem rdC_bound (l : List Int) (h : readE l = 0) : (rdC l (rdN l).toNat).length ≤ 65536 := by
  rw [rdC_len]
  unfold readE at h
  repeat' split at h
  all_goals first | omega | (exact absurd h (by decide))
theorem rdD_bound (l : List Int) (h : readE l = 0) : (rdD l).length ≤ 65536 := by
  have h1 : (rdD l).length ≤ (rdZ l).toNat := by
    unfold rdD mid
    simp only [List.length_drop, List.length_take]
    omega
  unfold readE at h
  repeat' split at h
  all_goals first | omega | (exact absurd h (by decide))
set_option maxRecDepth 100000 in
set_option maxHeartbeats 1000000 in
theorem reads_big (A : Option Addr) (ca : Nat) (l : List Int) (w : World) (hs : 100000 < (l.length : Int)) :
    Calls Try.prog 9 #[.slice A l.length ca] w fun e' w' => e' = .returned (.bool true) ∧ Below w.heap.size w w' := by
  go_enter Try.func9, Try.ntmps9
  go_wp2_with fail
  refine (awake15_c _).mono ?_
  rintro e' w1 ⟨rfl, hb⟩
  have H1 := hid hb
  clear hb
  go_wp2_with fail
  refine (awake15_c _).mono ?_
  rintro e' w3 ⟨rfl, hb⟩
  have H3 := hid (below_step H1.out hb)
  clear hb H1
  go_wp2
  go_ret
  exact ⟨rfl, H3.out⟩
set_option maxRecDepth 100000 in
set_option maxHeartbeats 1000000 in
theorem reads_bad (A : Option Addr) (ca : Nat) (l : List Int) (w : World) (hC : CB w A l) (hc : l.length ≤ ca) (hby : Bytes l) (hs : ¬ 100000 < (l.length : Int)) (hE : readE l ≠ 0) :
    Calls Try.prog 9 #[.slice A l.length ca] w fun e' w' => e' = .returned (.bool true) ∧ Below w.heap.size w w' := by
  have HC := hid hC
  have HY := hid hby
  have HE := hid hE
  clear hC hby hE
  go_enter Try.func9, Try.ntmps9
  go_wp2_with fail
  refine (awake15_c _).mono ?_
  rintro e' w1 ⟨rfl, hb⟩
  have H1 := hid hb
  clear hb
  go_wp2_with fail
  obtain ⟨x, hx⟩ : ∃ x, x = readE l := ⟨_, rfl⟩
  have hk := iread_err A ca l w1 (Kd.C_below HC.out H1.out) hc HY.out (by omega) HE.out
  rw [← hx] at hk
  have HX := hid hx
  clear hx
  refine hk.mono ?_
  clear hk
  rintro e' w2 ⟨rfl, hb⟩
  have H2 := hid (And.intro (below_step H1.out hb) (below_alloc (below_step H1.out hb) (.cells zImg 60)))
  have b2 := blk_new w2 (.cells zImg 60)
  have H2b := hid b2
  clear hb b2 H1
  go_wp2_with fail
  refine (spliceref15_Read.calls 65600 A ca l [] 0 [] 0 0 x _ (Kd.C_below HC.out H2.out.2) hc (by rw [refRead_q 65600 (Nat.le_refl _) l HY.out (by omega), res_bad HX.out.symm (by rw [HX.out]; exact HE.out)])).mono ?_
  rintro e' w3 ⟨v0, v2, rfl, hR0, hR2, hb⟩
  obtain ⟨A0, c0, rfl, hc0, hC0⟩ := Kd.R_reads hR0
  obtain ⟨A2, c2, rfl, hc2, hC2⟩ := Kd.R_reads hR2
  have hB := below_step H2.out.2 hb
  have b3 := blk_below H2b.out hb
  have H3 := hid (And.intro hB (And.intro True.intro (And.intro hC0 hC2)))
  obtain ⟨k0, k1, k2, k3, k4⟩ := five (blk_alloc b3 (.cells #[.slice A0 0 c0, .int .i64 0, .slice A2 0 c2, .int .i64 0, .int .i64 0] 60))
  clear hb hB b3 hR0 hR2 hC0 hC2 H2 H2b
  go_wp2_with fail
  have hk := spliceref14_Same.calls 1000000001 none 0 [] 0 none 0 [] 0 0 A0 c0 [] 0 A2 c2 [] 0 0 true
  refine (hk _ (Kd.C_nil _ _) (Nat.le_refl _) (Kd.C_nil _ _) (Nat.le_refl _) (Kd.C_alloc H3.out.2.2.1 _) hc0 (Kd.C_alloc H3.out.2.2.2 _) hc2 (by rw [same14_q _ _ _ _ _ _ _ _ _ _ (by simp) (by simp), sameI_self])).mono ?_
  clear hk
  rintro e' w4 ⟨rfl, hb⟩
  have H4 := hid (below_step (below_alloc H3.out.1 _) hb)
  clear hb H3
  go_wp2
  go_ret
  exact ⟨rfl, H4.out⟩
set_option maxRecDepth 100000 in
set_option maxHeartbeats 1000000 in
theorem reads_ok (A : Option Addr) (ca : Nat) (l : List Int) (w : World) (hC : CB w A l) (hc : l.length ≤ ca) (hby : Bytes l) (hs : ¬ 100000 < (l.length : Int)) (hE : readE l = 0) :
    Calls Try.prog 9 #[.slice A l.length ca] w fun e' w' => e' = .returned (.bool true) ∧ Below w.heap.size w w' := by
  obtain ⟨C, hCe⟩ : ∃ C, C = rdC l (rdN l).toNat := ⟨_, rfl⟩
  obtain ⟨D, hDe⟩ : ∃ D, D = rdD l := ⟨_, rfl⟩
  obtain ⟨x1, hx1⟩ : ∃ x, x = rdE l := ⟨_, rfl⟩
  obtain ⟨x2, hx2⟩ : ∃ x, x = rdW l := ⟨_, rfl⟩
  obtain ⟨x3, hx3⟩ : ∃ x, x = rdM l := ⟨_, rfl⟩
  have hq := refRead_q 65600 (Nat.le_refl _) l hby (by omega)
  rw [res_ok hE, ← hCe, ← hDe, ← hx1, ← hx2, ← hx3] at hq
  have h1 := rdC_bound l hE
  have h2 := rdD_bound l hE
  rw [← hCe] at h1
  rw [← hDe] at h2
  have hrd := fun w0 h0 => iread_ok A ca l w0 h0 hc hby (by omega) hE
  rw [← hCe, ← hDe, ← hx1, ← hx2, ← hx3] at hrd
  clear hCe hDe hx1 hx2 hx3
  have HC := hid hC
  have HQ := hid (And.intro hq (And.intro h1 h2))
  have HR := hid hrd
  clear hC hby hE hq h1 h2 hrd
  go_enter Try.func9, Try.ntmps9
  go_wp2_with fail
  refine (awake15_c _).mono ?_
  rintro e' w1 ⟨rfl, hb⟩
  have H1 := hid hb
  clear hb
  go_wp2_with fail
  refine (HR.out w1 (Kd.C_below HC.out H1.out)).mono ?_
  rintro e' w2 ⟨v0, v2, rfl, hR0, hR2, hb⟩
  obtain ⟨Ac, cc, rfl, hcc, hCc⟩ := Kd.R_reads hR0
  obtain ⟨Ad, cd, rfl, hcd, hCd⟩ := Kd.R_reads hR2
  have b2 := blk_new w2 (.cells #[.slice Ac C.length cc, .int .i64 x1, .slice Ad D.length cd, .int .i64 x2, .int .i64 x3] 60)
  have H2 := hid (And.intro (below_alloc (below_step H1.out hb) (.cells #[.slice Ac C.length cc, .int .i64 x1, .slice Ad D.length cd, .int .i64 x2, .int .i64 x3] 60)) (And.intro b2 (And.intro (Kd.C_alloc hCc (.cells #[.slice Ac C.length cc, .int .i64 x1, .slice Ad D.length cd, .int .i64 x2, .int .i64 x3] 60)) (Kd.C_alloc hCd (.cells #[.slice Ac C.length cc, .int .i64 x1, .slice Ad D.length cd, .int .i64 x2, .int .i64 x3] 60)))))
  clear hb b2 H1 hR0 hR2 hCc hCd
  go_wp2_with fail
  refine (spliceref15_Read.calls 65600 A ca l C x1 D x2 x3 0 _ (Kd.C_below HC.out H2.out.1) hc HQ.out.1).mono ?_
  rintro e' w3 ⟨v0, v2, rfl, hR0, hR2, hb⟩
  obtain ⟨A0, c0, rfl, hc0, hC0⟩ := Kd.R_reads hR0
  obtain ⟨A2, c2, rfl, hc2, hC2⟩ := Kd.R_reads hR2
  have hB := below_step H2.out.1 hb
  have b3 := blk_below H2.out.2.1 hb
  have H3 := hid (And.intro hB (And.intro (Kd.C_below H2.out.2.2.1 hb) (And.intro (Kd.C_below H2.out.2.2.2 hb) (And.intro hC0 hC2))))
  obtain ⟨k0, k1, k2, k3, k4⟩ := five (blk_alloc b3 (.cells #[.slice A0 C.length c0, .int .i64 x1, .slice A2 D.length c2, .int .i64 x2, .int .i64 x3] 60))
  clear hb hB b3 hR0 hR2 hC0 hC2 H2
  go_wp2_with fail
  have hk := spliceref14_Same.calls 1000000001 Ac cc C x1 Ad cd D x2 x3 A0 c0 C x1 A2 c2 D x2 x3 true
  refine (hk _ (Kd.C_alloc H3.out.2.1 _) hcc (Kd.C_alloc H3.out.2.2.1 _) hcd (Kd.C_alloc H3.out.2.2.2.1 _) hc0 (Kd.C_alloc H3.out.2.2.2.2 _) hc2 (by rw [same14_q _ _ _ _ _ _ _ _ _ _ (by have := HQ.out.2.1; omega) (by have := HQ.out.2.2; omega), sameI_self])).mono ?_
  clear hk
  rintro e' w4 ⟨rfl, hb⟩
  have H4 := hid (below_step (below_alloc H3.out.1 _) hb)
  clear hb H3
  go_wp2
  go_ret
  exact ⟨rfl, H4.out⟩
theorem reads_c (A : Option Addr) (ca : Nat) (l : List Int) (w : World) (hC : CB w A l) (hc : l.length ≤ ca) (hby : Bytes l) :
    Calls Try.prog 9 #[.slice A l.length ca] w fun e' w' => e' = .returned (.bool true) ∧ Below w.heap.size w w' := by
  by_cases hs : 100000 < (l.length : Int)
  · exact reads_big A ca l w hs
  · by_cases hE : readE l = 0
    · exact reads_ok A ca l w hC hc hby hs hE
    · exact reads_bad A ca l w hC hc hby hs hE
end Go.Proofs.Ytmcfihpbiilbcaa.H
