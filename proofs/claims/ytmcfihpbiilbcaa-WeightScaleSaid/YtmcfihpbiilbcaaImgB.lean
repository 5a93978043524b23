/- The reference's Write of layer 15. -/
import Derived.Test.YtmcfihpbiilbcaaImgA
namespace Go.Proofs.Ytmcfihpbiilbcaa.H
open Go.RowKit Go.Proofs.YtmcfihpbiilbcaaW.PrintWords Go.Proofs.YtmcfihpbiilbcaaW.PrintLast Go.Proofs.YtmcfihpbiilbcaaW.PrintMore Go.Proofs.Ytmcfihpbiilbcaa.E
set_option linter.unusedVariables false
set_option linter.unusedSimpArgs false
theorem rput_c (n : Int) (n0 : 0 ≤ n) (n1 : n ≤ 4294967295) (w : World) :
    Calls Try.prog 36 #[.int .u32 n] w fun e w' => ∃ A c, e = .returned (.slice (some A) (putS n 4).length c) ∧ (putS n 4).length ≤ c ∧ CB w' (some A) (putS n 4) ∧ Below w.heap.size w w' := by
  refine (refPut_c n n0 n1 w).mono ?_
  rintro e w' ⟨v, rfl, h1, h2⟩
  rw [← putS_four n n0 n1] at h1
  obtain ⟨A, c, rfl, hc, hC⟩ := Kd.R_reads h1
  obtain ⟨ad, rfl⟩ := C_some hC (by rw [putS4_len]; decide)
  exact ⟨ad, c, rfl, hc, hC, h2⟩
theorem const_at (w : World) (g : Nat) (hg : w.heap.size = g) (C : Array Value) (n c : Nat) : (convert 22 22 (.slice (some ⟨g, 0, none⟩) n c)).run Try.prog (w.alloc (.cells C 5)) = .ok (.slice (some ⟨g, 0, none⟩) n c) (w.alloc (.cells C 5 (C.size, C.size + 1))) := by
  subst hg
  exact const_c w C n c
theorem const_4 {w : World} {g : Nat} {a b c d : Int} {fr : Nat × Nat} (h : w.heap[g]? = some (.cells #[.int .u8 a, .int .u8 b, .int .u8 c, .int .u8 d] 5 fr)) : CB w (some ⟨g, 0, none⟩) [a, b, c, d] :=
  C_block h (by simp) (fun j p h => by match j, h with | 0, h => simp at h ⊢; exact h | 1, h => simp at h ⊢; exact h | 2, h => simp at h ⊢; exact h | 3, h => simp at h ⊢; exact h | j + 4, h => simp at h)
set_option maxRecDepth 100000 in
set_option maxHeartbeats 1000000 in
theorem refWrite_c (Ac : Option Addr) (cc : Nat) (c : List Int) (e : Int) (Ad : Option Addr) (cd : Nat) (d : List Int) (wq mo : Int) (w : World) (hc : CU w Ac c) (hcc : c.length ≤ cc) (hd : CB w Ad d) (hcd : d.length ≤ cd) (hby : ∀ x ∈ c, 0 ≤ x ∧ x ≤ 4294967295) (hm : mayB c e d wq mo = true) :
    Calls Try.prog 53 #[.agg #[.slice Ac c.length cc, .int .i64 e, .slice Ad d.length cd, .int .i64 wq, .int .i64 mo]] w fun e' w' => ∃ v, e' = .returned v ∧ RB w' w.heap.size v (imgW c e d wq mo) ∧ Below w.heap.size w w' := by
  have hM : c.length ≤ 65536 ∧ (e = 0 ∨ 0 < e ∧ e < c.length) ∧ d.length ≤ 65536 ∧ 0 ≤ wq ∧ wq ≤ d.length ∧ 0 ≤ mo ∧ mo ≤ 65536 := of_decide_eq_true hm
  have HM := hid hM
  have HC := hid (And.intro hc hd)
  have HBY := hid hby
  have kc := const_at (w.alloc (.cells #[.slice Ac c.length cc, .int .i64 e, .slice Ad d.length cd, .int .i64 wq, .int .i64 mo] 60)) (w.heap.size + 1) (by simp)
  have e1 : IntKind.u32.wrap (c.length : Int) = c.length := by rw [IntKind.wrap_u32]; omega
  have e2 : IntKind.u32.wrap e = e := by rw [IntKind.wrap_u32]; omega
  have e3 : IntKind.u32.wrap (d.length : Int) = d.length := by rw [IntKind.wrap_u32]; omega
  have e4 : IntKind.u32.wrap wq = wq := by rw [IntKind.wrap_u32]; omega
  have e5 : IntKind.u32.wrap mo = mo := by rw [IntKind.wrap_u32]; omega
  clear hc hd hM hby hm
  go_enter Try.func53, Try.ntmps53
  go_wp2_with fail
  refine (rput_c (c.length : Int) (by omega) (by have := HM.out.1; omega) _).mono ?_
  rintro e' w2 ⟨ad2, c2, rfl, hc2, hC2, hb2⟩
  have hpl : (putS (c.length : Int) 4).length = 4 := rfl
  have k1 : (w.alloc (.cells #[.slice Ac c.length cc, .int .i64 e, .slice Ad d.length cd, .int .i64 wq, .int .i64 mo] 60)).heap.size = w.heap.size + 1 := by simp
  have k2 := blk_below (blk_new_at (w.alloc (.cells #[.slice Ac c.length cc, .int .i64 e, .slice Ad d.length cd, .int .i64 wq, .int .i64 mo] 60)) (.cells #[.int .u8 83, .int .u8 80, .int .u8 88, .int .u8 49] 5 (4, 5)) (w.heap.size + 1) k1) hb2
  have h12 := blk_below (blk_alloc (blk_new w (.cells #[.slice Ac c.length cc, .int .i64 e, .slice Ad d.length cd, .int .i64 wq, .int .i64 mo] 60)) (.cells #[.int .u8 83, .int .u8 80, .int .u8 88, .int .u8 49] 5 (4, 5))) hb2
  have hB2 : Below w.heap.size w w2 := below_step (below_alloc (below_alloc (Below.refl w.heap.size w) _) _) hb2
  have H2 := hid (And.intro (const_4 k2) (And.intro hC2 (And.intro hB2 h12)))
  have HPL := hid hpl
  clear hC2 hb2 k1 k2 hB2 h12 hpl kc
  go_wp2_with (at_builtin; refine grow_c rfl (.tmp 6) (.tmp 11) rfl ⟨w.heap.size + 1, 0, none⟩ ad2 [83, 80, 88, 49] (putS (c.length : Int) 4) c2 rfl rfl H2.out.1 H2.out.2.1 (by decide) (by have := HPL.out; omega) (by have := HPL.out; simp only [List.length_cons, List.length_nil]; omega) ?_; intro v4 w4 hr hb; have H4 := hid (And.intro hr hb); clear hr hb)
  have hB4 : Below w.heap.size w w4 := below_step H2.out.2.2.1 H4.out.2
  have hR4 := Kd.R_lower H4.out.1 H2.out.2.2.1.size
  have h14 := blk_below H2.out.2.2.2 H4.out.2
  have H5 := hid (And.intro hR4 (And.intro hB4 h14))
  clear hB4 hR4 h14 H4 H2
  go_loopw [3, 4] (fun s3 s4 wx => ∃ (k : Nat), k ≤ c.length ∧ s4 = .int .i64 k ∧ Hid (RB wx w.heap.size s3 (outS c k) ∧ Below w.heap.size w wx ∧ wx.heap[w.heap.size]? = some (.cells #[.slice Ac c.length cc, .int .i64 e, .slice Ad d.length cd, .int .i64 wq, .int .i64 mo] 60 (0, 0)))) (fun _ s4 _ => c.length - (intOf s4).toNat)
  case atStart => exact ⟨0, by omega, rfl, hid ⟨by simpa [outS, wordsS] using H5.out.1, H5.out.2⟩⟩
  case round =>
    obtain ⟨k, hk, rfl, hI⟩ := hrel
    obtain ⟨A6, c6, rfl, hc6, _⟩ := Kd.R_reads hI.out.1
    have c0 : wr.cell? ⟨w.heap.size, 0, none⟩ = some (.slice Ac c.length cc) := blk_cell hI.out.2.2 0
    by_cases hlt : (k : Int) < (c.length : Int)
    · have hk1 : k < c.length := by omega
      obtain ⟨ad, rfl, hcell⟩ := wordAt (Kd.C_below HC.out.1 hI.out.2.1) k hk1
      have hx := HBY.out c[k] (List.getElem_mem hk1)
      obtain ⟨x, hx'⟩ : ∃ x, x = c[k] := ⟨_, rfl⟩
      rw [← hx'] at hcell hx
      have hwl := outS_len c k hk
      have HX := hid (And.intro hx' hwl)
      have i3 : IntKind.i64.wrap ((k : Int) + 1) = (k : Int) + 1 := IntWalk.i64_in _ (by have := HM.out.1; omega)
      clear hx' hwl
      go_wp2_with fail
      refine (rput_c x hx.1 hx.2 _).mono ?_
      rintro e' w7 ⟨ad7, c7, rfl, hc7, hC7, hb7⟩
      have hl7 : (outS c k).length + (putS x 4).length ≤ 140737488355328 := by
        have h1 := HX.out.2
        have h2 := HM.out.1
        rw [putS4_len]
        omega
      have H7 := hid (And.intro (Kd.R_below hI.out.1 hb7) (And.intro hC7 (And.intro (below_step hI.out.2.1 hb7) (blk_below hI.out.2.2 hb7))))
      clear hC7 hb7 c0
      go_wp2_with (at_builtin; refine app_c (w0 := w) w.heap.size rfl (.tmp 20) (.tmp 26) rfl _ (outS c k) (putS x 4) (some ad7) c7 rfl rfl H7.out.1 H7.out.2.1 H7.out.2.2.1 H7.out.2.2.1.size hl7 ?_; intro v8 w8 hr hb hg hat; have hN := blk_grown H7.out.2.2.2 hg (fun e => by have h1 := Kd.R_types H7.out.1 H7.out.2.2.2 (by simp [Kd.int, Kd.scalar]); exact h1.1 _ e.symm |>.2 rfl); have H8 := hid (And.intro hr (And.intro hb hN)); clear hr hb hg hat hN hl7)
      go_roundw
      case rel => exact ⟨k + 1, by omega, by go_num, hid ⟨by rw [outS_step c k hk1, ← HX.out.1]; exact H8.out.1, H8.out.2⟩⟩
      case measure => simp [intOf]; omega
    · have hk1 : k = c.length := by omega
      subst hk1
      have c1 : wr.cell? ⟨w.heap.size, 1, none⟩ = some (.int .i64 e) := blk_cell hI.out.2.2 1
      have c2_ : wr.cell? ⟨w.heap.size, 2, none⟩ = some (.slice Ad d.length cd) := blk_cell hI.out.2.2 2
      have c3 : wr.cell? ⟨w.heap.size, 3, none⟩ = some (.int .i64 wq) := blk_cell hI.out.2.2 3
      have c4 : wr.cell? ⟨w.heap.size, 4, none⟩ = some (.int .i64 mo) := blk_cell hI.out.2.2 4
      have hol := outS_len c c.length (Nat.le_refl _)
      have HOL := hid hol
      have H0 := hid (And.intro hI.out.1 (And.intro hI.out.2.1 hI.out.2.2))
      clear hol hI c1 c2_ c3 c4
      have q1_1 : wr.cell? ⟨w.heap.size, 1, none⟩ = some (.int .i64 e) := blk_cell H0.out.2.2 1
      have q2_1 : wr.cell? ⟨w.heap.size, 2, none⟩ = some (.slice Ad d.length cd) := blk_cell H0.out.2.2 2
      have q3_1 : wr.cell? ⟨w.heap.size, 3, none⟩ = some (.int .i64 wq) := blk_cell H0.out.2.2 3
      have q4_1 : wr.cell? ⟨w.heap.size, 4, none⟩ = some (.int .i64 mo) := blk_cell H0.out.2.2 4
      go_wp2_with fail
      refine (rput_c e (by have := HM.out; omega) (by have := HM.out; omega) _).mono ?_
      rintro e' wp1 ⟨ap1, cp1, rfl, hcp1, hC, hb⟩
      have HP1 := hid (And.intro hC (And.intro (Kd.R_below H0.out.1 hb) (And.intro (below_step H0.out.2.1 hb) (blk_below H0.out.2.2 hb))))
      clear hC hb q1_1 q2_1 q3_1 q4_1
      have hl1 : (outS c c.length).length + (putS e 4).length ≤ 140737488355328 := by
        have h1 := HM.out
        have h2 := HOL.out
        simp only [List.length_append, putS4_len, h2]
        omega
      go_wp2_with (at_builtin; refine app_c (w0 := w) w.heap.size rfl (.tmp 28) (.tmp 32) rfl _ (outS c c.length) (putS e 4) (some ap1) cp1 rfl rfl HP1.out.2.1 HP1.out.1 HP1.out.2.2.1 HP1.out.2.2.1.size hl1 ?_; intro va1 wa1 hr hb hg hat; have hN := blk_grown HP1.out.2.2.2 hg (fun e => by have h1 := Kd.R_types HP1.out.2.1 HP1.out.2.2.2 (by simp [Kd.int, Kd.scalar]); exact h1.1 _ e.symm |>.2 rfl); have q1_2 : wa1.cell? ⟨w.heap.size, 1, none⟩ = some (.int .i64 e) := blk_cell hN 1; have q2_2 : wa1.cell? ⟨w.heap.size, 2, none⟩ = some (.slice Ad d.length cd) := blk_cell hN 2; have q3_2 : wa1.cell? ⟨w.heap.size, 3, none⟩ = some (.int .i64 wq) := blk_cell hN 3; have q4_2 : wa1.cell? ⟨w.heap.size, 4, none⟩ = some (.int .i64 mo) := blk_cell hN 4; have HA1 := hid (And.intro hr (And.intro hb hN)); clear hr hb hg hat hN hl1)
      go_wp2_with fail
      refine (rput_c (d.length : Int) (by have := HM.out; omega) (by have := HM.out; omega) _).mono ?_
      rintro e' wp2 ⟨ap2, cp2, rfl, hcp2, hC, hb⟩
      have HP2 := hid (And.intro hC (And.intro (Kd.R_below HA1.out.1 hb) (And.intro (below_step HA1.out.2.1 hb) (blk_below HA1.out.2.2 hb))))
      clear hC hb q1_2 q2_2 q3_2 q4_2
      have hl2 : (outS c c.length ++ putS e 4).length + (putS (d.length : Int) 4).length ≤ 140737488355328 := by
        have h1 := HM.out
        have h2 := HOL.out
        simp only [List.length_append, putS4_len, h2]
        omega
      go_wp2_with (first | (at_builtin; refine app_c (w0 := w) w.heap.size rfl (.tmp 34) (.tmp 39) rfl _ (outS c c.length ++ putS e 4) (putS (d.length : Int) 4) (some ap2) cp2 rfl rfl HP2.out.2.1 HP2.out.1 HP2.out.2.2.1 HP2.out.2.2.1.size hl2 ?_; intro va2 wa2 hr hb hg hat; have hN := blk_grown HP2.out.2.2.2 hg (fun e => by have h1 := Kd.R_types HP2.out.2.1 HP2.out.2.2.2 (by simp [Kd.int, Kd.scalar]); exact h1.1 _ e.symm |>.2 rfl); have q1_3 : wa2.cell? ⟨w.heap.size, 1, none⟩ = some (.int .i64 e) := blk_cell hN 1; have q2_3 : wa2.cell? ⟨w.heap.size, 2, none⟩ = some (.slice Ad d.length cd) := blk_cell hN 2; have q3_3 : wa2.cell? ⟨w.heap.size, 3, none⟩ = some (.int .i64 wq) := blk_cell hN 3; have q4_3 : wa2.cell? ⟨w.heap.size, 4, none⟩ = some (.int .i64 mo) := blk_cell hN 4; have HA2 := hid (And.intro hr (And.intro hb hN)); clear hr hb hg hat hN hl2) | (at_builtin; refine app_c (w0 := w) w.heap.size rfl (.tmp 41) (.tmp 43) rfl _ (outS c c.length ++ putS e 4 ++ putS (d.length : Int) 4) d Ad cd rfl rfl HA2.out.1 (Kd.C_below HC.out.2 HA2.out.2.1) HA2.out.2.1 HA2.out.2.1.size (by have h1 := HM.out; have h2 := HOL.out; simp only [List.length_append, putS4_len, h2]; omega) ?_; intro va3 wa3 hr hb hg hat; have hN := blk_grown HA2.out.2.2 hg (fun e => by have h1 := Kd.R_types HA2.out.1 HA2.out.2.2 (by simp [Kd.int, Kd.scalar]); exact h1.1 _ e.symm |>.2 rfl); have q1_4 : wa3.cell? ⟨w.heap.size, 1, none⟩ = some (.int .i64 e) := blk_cell hN 1; have q2_4 : wa3.cell? ⟨w.heap.size, 2, none⟩ = some (.slice Ad d.length cd) := blk_cell hN 2; have q3_4 : wa3.cell? ⟨w.heap.size, 3, none⟩ = some (.int .i64 wq) := blk_cell hN 3; have q4_4 : wa3.cell? ⟨w.heap.size, 4, none⟩ = some (.int .i64 mo) := blk_cell hN 4; have HA3 := hid (And.intro hr (And.intro hb hN)); clear hr hb hg hat hN q1_3 q2_3 q3_3 q4_3))
      go_wp2_with fail
      refine (rput_c wq (by have := HM.out; omega) (by have := HM.out; omega) _).mono ?_
      rintro e' wp4 ⟨ap4, cp4, rfl, hcp4, hC, hb⟩
      have HP4 := hid (And.intro hC (And.intro (Kd.R_below HA3.out.1 hb) (And.intro (below_step HA3.out.2.1 hb) (blk_below HA3.out.2.2 hb))))
      clear hC hb q1_4 q2_4 q3_4 q4_4
      have hl4 : (outS c c.length ++ putS e 4 ++ putS (d.length : Int) 4 ++ d).length + (putS wq 4).length ≤ 140737488355328 := by
        have h1 := HM.out
        have h2 := HOL.out
        simp only [List.length_append, putS4_len, h2]
        omega
      go_wp2_with (at_builtin; refine app_c (w0 := w) w.heap.size rfl (.tmp 45) (.tmp 49) rfl _ (outS c c.length ++ putS e 4 ++ putS (d.length : Int) 4 ++ d) (putS wq 4) (some ap4) cp4 rfl rfl HP4.out.2.1 HP4.out.1 HP4.out.2.2.1 HP4.out.2.2.1.size hl4 ?_; intro va4 wa4 hr hb hg hat; have hN := blk_grown HP4.out.2.2.2 hg (fun e => by have h1 := Kd.R_types HP4.out.2.1 HP4.out.2.2.2 (by simp [Kd.int, Kd.scalar]); exact h1.1 _ e.symm |>.2 rfl); have q1_5 : wa4.cell? ⟨w.heap.size, 1, none⟩ = some (.int .i64 e) := blk_cell hN 1; have q2_5 : wa4.cell? ⟨w.heap.size, 2, none⟩ = some (.slice Ad d.length cd) := blk_cell hN 2; have q3_5 : wa4.cell? ⟨w.heap.size, 3, none⟩ = some (.int .i64 wq) := blk_cell hN 3; have q4_5 : wa4.cell? ⟨w.heap.size, 4, none⟩ = some (.int .i64 mo) := blk_cell hN 4; have HA4 := hid (And.intro hr (And.intro hb hN)); clear hr hb hg hat hN hl4)
      go_wp2_with fail
      refine (rput_c mo (by have := HM.out; omega) (by have := HM.out; omega) _).mono ?_
      rintro e' wp5 ⟨ap5, cp5, rfl, hcp5, hC, hb⟩
      have HP5 := hid (And.intro hC (And.intro (Kd.R_below HA4.out.1 hb) (And.intro (below_step HA4.out.2.1 hb) (blk_below HA4.out.2.2 hb))))
      clear hC hb q1_5 q2_5 q3_5 q4_5
      have hl5 : (outS c c.length ++ putS e 4 ++ putS (d.length : Int) 4 ++ d ++ putS wq 4).length + (putS mo 4).length ≤ 140737488355328 := by
        have h1 := HM.out
        have h2 := HOL.out
        simp only [List.length_append, putS4_len, h2]
        omega
      go_wp2_with (at_builtin; refine app_c (w0 := w) w.heap.size rfl (.tmp 51) (.tmp 55) rfl _ (outS c c.length ++ putS e 4 ++ putS (d.length : Int) 4 ++ d ++ putS wq 4) (putS mo 4) (some ap5) cp5 rfl rfl HP5.out.2.1 HP5.out.1 HP5.out.2.2.1 HP5.out.2.2.1.size hl5 ?_; intro va5 wa5 hr hb hg hat; have hN := blk_grown HP5.out.2.2.2 hg (fun e => by have h1 := Kd.R_types HP5.out.2.1 HP5.out.2.2.2 (by simp [Kd.int, Kd.scalar]); exact h1.1 _ e.symm |>.2 rfl); have q1_6 : wa5.cell? ⟨w.heap.size, 1, none⟩ = some (.int .i64 e) := blk_cell hN 1; have q2_6 : wa5.cell? ⟨w.heap.size, 2, none⟩ = some (.slice Ad d.length cd) := blk_cell hN 2; have q3_6 : wa5.cell? ⟨w.heap.size, 3, none⟩ = some (.int .i64 wq) := blk_cell hN 3; have q4_6 : wa5.cell? ⟨w.heap.size, 4, none⟩ = some (.int .i64 mo) := blk_cell hN 4; have HA5 := hid (And.intro hr (And.intro hb hN)); clear hr hb hg hat hN hl5)
      go_ret
      refine ⟨va5, rfl, ?_, HA5.out.2.1⟩
      have h1 := HA5.out.1
      rw [outS_all] at h1
      exact h1
end Go.Proofs.Ytmcfihpbiilbcaa.H
