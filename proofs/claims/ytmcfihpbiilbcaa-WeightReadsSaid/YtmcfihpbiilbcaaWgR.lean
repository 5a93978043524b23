/- weight.Read on whatever bytes; no beginning of a profile is one; WeightReads' walk. -/
import Derived.Test.YtmcfihpbiilbcaaWgO
import Derived.Test.YtmcfihpbiilbcaaWgP
namespace Go.Proofs.Ytmcfihpbiilbcaa.H
open Go.RowKit Go.Proofs.YtmcfihpbiilbcaaW.PrintWords Go.Proofs.YtmcfihpbiilbcaaW.PrintLast Go.Proofs.YtmcfihpbiilbcaaW.PrintMore Go.Proofs.Ytmcfihpbiilbcaa.E
set_option linter.unusedVariables false
set_option linter.unusedSimpArgs false
set_option maxRecDepth 100000 in
theorem wread_any (A : Option Addr) (c : Nat) (l : List Int) (w : World) (hC : CB w A l) (hc : l.length ≤ c) (hby : Bytes l) (hl : l.length ≤ 140737488351232) :
    Calls Try.prog 61 #[.slice A l.length c] w fun e w' => Below w.heap.size w w' ∧ ((∃ x, (x = 2 ∨ x = 4) ∧ e = .returned (.tuple #[.slice none 0 0, .int .i64 x])) ∨ (∃ L v, l = profS L ∧ L.length ≤ 2000 ∧ (∀ e ∈ L, eB e = true ∧ e.2.2.2 < 18446744073709551616) ∧ e = .returned (.tuple #[v, .int .i64 0]) ∧ RE w' w.heap.size v L)) := by
  have hmf : ∀ (fn : Fn) (first cap : Array Value) (w : World), (Instr.makeFunc fn first cap).run Try.prog w = .ok (.func fn first cap) w := fun _ _ _ _ => rfl
  have HC := hid hC
  clear hC
  go_enter Try.func61, Try.ntmps61
  go_wp2_with fail
  obtain ⟨W3, hW3⟩ : ∃ W, W = w.alloc (.cells #[.slice none 0 0] 69) := ⟨_, rfl⟩
  have d0 := blk_new w (.cells #[.slice none 0 0] 69)
  have hb := below_alloc (Below.refl w.heap.size w) (.cells #[.slice none 0 0] 69)
  rw [← hW3] at d0 hb
  have hs3 : W3.heap.size = w.heap.size + 1 := by rw [hW3]; simp
  rw [← hW3]
  have H3 := hid (And.intro d0 hb)
  clear d0 hb hW3
  refine (try_c 97 enter_97 #[.pointer (some ⟨w.heap.size, 0, none⟩)] A c l W3 (Kd.C_below HC.out H3.out.2) hc hl (AnyPost W3 w.heap.size w.heap.size l) (fun w1 B hF => read97_any W3 w1 B w.heap.size w.heap.size l hF H3.out.1 (Nat.le_refl _) hby hl)).mono ?_
  rintro e w4 ⟨x, w2, rfl, ⟨hB2, hE2, hx⟩, ha⟩
  have hlt2 := blk_lt hE2
  have hB4 : Below w.heap.size w w4 := Aft.below (H3.out.2.trans hB2) ha (by omega) (by omega)
  rcases hx with hx | ⟨rfl, L, v, hlL, hL2, hLe, hv, hrv⟩
  · have x0 : (x == 0) = false := beq_eq_false_iff_ne.2 (by omega)
    have x1 : (x != 0) = true := bne_iff_ne.2 (by omega)
    have H4 := hid hB4
    have HX := hid hx
    clear hB4 ha hB2 hE2 hx
    go_wp2
    go_ret2
    exact ⟨H4.out, .inl ⟨x, HX.out, rfl⟩⟩
  · have d4 : w4.heap[w.heap.size]? = some (.cells #[v] 69 (0, 0)) := (ha.block _ (blk_lt hv) (by omega)).trans hv
    have rc4 := R_aft hrv ha hE2 (by simp [KE, Kd.pair, Kd.int, Kd.scalar, Kd.string])
    have k0 : w4.cell? ⟨w.heap.size, 0, none⟩ = some v := blk_cell d4 0
    have H4 := hid (And.intro hB4 rc4)
    have HX := hid (And.intro hlL (And.intro hL2 hLe))
    clear hB4 d4 ha hB2 hE2 hrv rc4 hv hlL hL2 hLe
    go_wp2
    go_ret2
    exact ⟨H4.out.1, .inr ⟨L, v, HX.out.1, HX.out.2.1, HX.out.2.2, rfl, H4.out.2⟩⟩
theorem rem_cut (k : Int) (n : Nat) (h0 : 0 ≤ k) (hn : 0 < n) : ∃ j : Nat, Int.tmod k n = (j : Int) ∧ j < n := by
  refine ⟨(Int.tmod k n).toNat, ?_, ?_⟩
  · have := Int.tmod_nonneg (n : Int) h0
    omega
  · have h1 := Int.tmod_nonneg (n : Int) h0
    have h2 := Int.tmod_lt_of_pos k (b := (n : Int)) (by omega)
    omega
theorem eS_size {e : Edge} : (eS e).length = 13 + e.1.size := by
  unfold eS nmS
  simp only [List.length_append, List.length_cons, putS2_len, fpS_len, bytesOf_length]
  omega
theorem flat_free : ∀ (l L : List Edge), l.length = L.length → (∀ e ∈ l, eB e = true) → (∀ e ∈ L, eB e = true) → ∀ rest, (l.map eS).flatten = (L.map eS).flatten ++ rest → rest = []
  | [], [], _, _, _, rest, h => by simpa using h.symm
  | [], a :: L, h, _, _, _, _ => by simp at h
  | a :: l, [], h, _, _, _, _ => by simp at h
  | a :: l, b :: L, hlen, hl, hL, rest, h => by
    simp only [List.map_cons, List.flatten_cons, List.append_assoc] at h
    have sa := (eB_spec (hl a (by simp))).2.1
    have sb := (eB_spec (hL b (by simp))).2.1
    have hh : ((a.1.size : Int) % 256) = ((b.1.size : Int) % 256) := by
      have := congrArg (fun x : List Int => x.head?) h
      simpa [eS, nmS] using this
    have hs : (eS a).length = (eS b).length := by rw [eS_size, eS_size]; omega
    have := List.append_inj h hs
    exact flat_free l L (by simpa using hlen) (fun e he => hl e (List.mem_cons_of_mem _ he)) (fun e he => hL e (List.mem_cons_of_mem _ he)) rest this.2
theorem prof_pre {l L : List Edge} (hl : ∀ e ∈ l, eB e = true) (hL : ∀ e ∈ L, eB e = true) (h1 : l.length ≤ 2000) (h2 : L.length ≤ 2000) (j : Nat) (hj : j < (profS l).length) (h : (profS l).take j = profS L) : False := by
  have hsp : profS l = profS L ++ (profS l).drop j := by rw [← h, List.take_append_drop]
  have hd : 0 < ((profS l).drop j).length := by rw [List.length_drop]; omega
  generalize (profS l).drop j = R at hsp hd
  unfold profS pS at hsp
  rw [List.take_length, List.take_length] at hsp
  simp only [List.append_assoc] at hsp
  have e1 := List.append_inj hsp rfl
  have e2 := List.append_inj e1.2 (by rw [putS2_len, putS2_len])
  have e3 : (l.length : Int) = L.length := by
    have := congrArg wordOf e2.1
    rwa [wordOf_put2 _ (by omega) (by omega), wordOf_put2 _ (by omega) (by omega)] at this
  rw [flat_free l L (by omega) hl hL R e2.2] at hd
  simp at hd
theorem wread_cut (A : Option Addr) (c j : Nat) (Q : List Int) (l : List Edge) (w : World) (hQ : Q = profS l) (hw : wB l = true) (hb : ∀ e ∈ l, e.2.2.2 < 18446744073709551616) (hj : j < Q.length) (hC : CB w A Q) (hc : Q.length ≤ c) :
    Calls Try.prog 61 #[.slice A j c] w fun e w' => Below w.heap.size w w' ∧ ∃ x, (x = 2 ∨ x = 4) ∧ e = .returned (.tuple #[.slice none 0 0, .int .i64 x]) := by
  have hlt : (Q.take j).length = j := by rw [List.length_take]; omega
  have hwb := hw
  unfold wB at hwb
  simp only [Bool.and_eq_true, List.all_eq_true, decide_eq_true_eq] at hwb
  have hq : Bytes Q := by rw [hQ]; exact profS_bytes l (fun e he => ⟨hwb.2 e he, hb e he⟩) hwb.1
  have hlen : Q.length ≤ 140737488351232 := by
    have := pS_len l hwb.2 l.length (Nat.le_refl _)
    rw [hQ]
    unfold profS
    omega
  have h := wread_any A c (Q.take j) w (Kd.C_take hC (by omega)) (by omega) (fun x hx => hq x (List.mem_of_mem_take hx)) (by omega)
  rw [hlt] at h
  refine h.mono ?_
  rintro e w' ⟨hB, h1 | ⟨L, v, hL, h2, h3, _⟩⟩
  · exact ⟨hB, h1⟩
  · rw [hQ] at hL hj
    exact (prof_pre hwb.2 (fun e he => (h3 e he).1) hwb.1 h2 j hj hL).elim
theorem wB_spec {l : List Edge} (h : wB l = true) : l.length ≤ 2000 ∧ ∀ e ∈ l, eB e = true := by
  unfold wB at h
  simpa only [Bool.and_eq_true, List.all_eq_true, decide_eq_true_eq] using h
theorem reads_facts {l : List Edge} (h : wB l = true) (hb : ∀ e ∈ l, e.2.2.2 < 18446744073709551616 ∧ e.1.size ≤ 140737488351232) (k : Int) (hk : 0 ≤ k) :
    ∃ (Q : List Int) (j : Nat), Q = profS l ∧ 0 < (Q.length : Int) ∧ (Q.length : Int) ≤ 100000 ∧ Int.tmod k (Q.length : Int) = (j : Int) ∧ j < Q.length := by
  have h2 := wB_spec h
  have hlen := pS_len l h2.2 l.length (Nat.le_refl _)
  obtain ⟨_, _, h6, _⟩ := dec0 l h2.1
  obtain ⟨j, hj, hjl⟩ := rem_cut k (profS l).length hk (by omega)
  refine ⟨profS l, j, rfl, by omega, ?_, hj, hjl⟩
  unfold profS
  omega
set_option maxRecDepth 100000 in
set_option maxHeartbeats 2000000 in
theorem wreads_yes (A Ab : Option Addr) (c cb : Nat) (l : List Edge) (b : List Int) (k : Int) (w : World) (hC : CE w A l) (hc : l.length ≤ c) (hl : ∀ e ∈ l, e.2.2.2 < 18446744073709551616 ∧ e.1.size ≤ 140737488351232) (hCb : CB w Ab b) (hcb : b.length ≤ cb) (hby : Bytes b) (hk0 : 0 ≤ k) (hk1 : k ≤ 65535)
    (n1 : ¬ (300 : Int) < (l.length : Int)) (n2 : ¬ (20000 : Int) < (b.length : Int)) (hw : wB l = true) :
    Calls Try.prog 13 #[.slice A l.length c, .slice Ab b.length cb, .int .u16 k] w fun e w' => e = .returned (.bool true) ∧ Below w.heap.size w w' := by
  obtain ⟨Q, j, hQ, q0, q1, q2, q3⟩ := reads_facts hw hl k hk0
  have HC := hid hC
  have HL := hid hl
  have HB := hid (And.intro hCb hby)
  have HQ := hid hQ
  have HW := hid hw
  clear hC hl hCb hby hQ hw
  go_enter Try.func13, Try.ntmps13
  go_wp2_with fail
  refine (awake24_c _).mono ?_
  rintro e w1 ⟨rfl, hb⟩
  have H1 := hid hb
  clear hb
  go_wp2_with fail
  refine (wwrite_c A c l w1 (Kd.C_below HC.out H1.out) hc HL.out).mono ?_
  rintro e w2 ⟨hp_, hb⟩
  have hp2 : ∃ A3 c3, e = .returned (.tuple #[.slice A3 Q.length c3, .int .i64 0]) ∧ Q.length ≤ c3 ∧ CB w2 A3 Q := by
    rcases hp_ with ⟨_, v9, rfl, hR⟩ | ⟨h1, _⟩
    · rw [← HQ.out] at hR
      obtain ⟨A9, c9, rfl, h3, h4⟩ := Kd.R_reads hR
      exact ⟨A9, c9, rfl, h3, h4⟩
    · rw [HW.out] at h1
      cases h1
  obtain ⟨A3, c3, rfl, hc3, hC3⟩ := hp2
  have H2 := hid (And.intro (below_step H1.out hb) hC3)
  clear hp_ hb hC3 H1
  go_wp2_with fail
  refine (wread_ok A3 c3 Q l w2 HQ.out H2.out.2 hc3 (fun e he => ⟨(wB_spec HW.out).2 e he, (HL.out e he).1⟩) (wB_spec HW.out).1).mono ?_
  rintro e w3 ⟨v4, rfl, hR, hb⟩
  obtain ⟨A4, c4, rfl, hc4, hC4⟩ := Kd.R_reads hR
  have H3 := hid (And.intro (below_step H2.out.1 hb) (And.intro (Kd.C_below H2.out.2 hb) hC4))
  clear hR hb hC4 H2
  have e1 : IntKind.i64.wrap k = k := IntWalk.i64_in _ (by omega)
  have e3 : IntKind.i64.wrap (j : Int) = (j : Int) := IntWalk.i64_in _ (by omega)
  have e4 : ((Q.length : Int) == 0) = false := beq_eq_false_iff_ne.2 (by omega)
  have e5 : ¬ ((Q.length : Int) = 0) := by omega
  have e6 : j ≤ c3 := by omega
  have e7 : j ≤ Q.length := by omega
  go_wp2_with fail
  refine (wread_cut A3 c3 j Q l w3 HQ.out HW.out (fun e he => (HL.out e he).1) q3 H3.out.2.1 hc3).mono ?_
  rintro e w4 ⟨hb, x, hx, rfl⟩
  have x0 : (x == 0) = false := beq_eq_false_iff_ne.2 (by omega)
  have H4 := hid (And.intro (below_step H3.out.1 hb) (Kd.C_below H3.out.2.2 hb))
  clear hb H3 e1 e3 e4 e5 e6 e7 q2
  go_wp2_with fail
  refine (same62_c A4 A c4 c l w4 H4.out.2 hc4 (Kd.C_below HC.out H4.out.1) hc (by omega)).mono ?_
  rintro e w5 ⟨rfl, ⟨nd, rfl⟩⟩
  have H5 := hid (pw_below_drewN H4.out.1 nd)
  clear H4 HC HL HW HQ
  go_wp2_with fail
  refine (wread_any Ab cb b (w4.drewN nd) (Kd.C_below HB.out.1 H5.out) hcb HB.out.2 (by omega)).mono ?_
  rintro e' w7 ⟨hb, (⟨x, hx, rfl⟩ | ⟨L, v7, hbL, hL2, hLe, rfl, hR⟩)⟩
  · have H7 := hid (below_step H5.out hb)
    clear hb H5
    rcases hx with rfl | rfl
    · go_wp2
      go_ret
      exact ⟨rfl, H7.out⟩
    · go_wp2
      go_ret
      exact ⟨rfl, H7.out⟩
  · obtain ⟨A8, c8, rfl, hc8, hC8⟩ := Kd.R_reads hR
    have H7 := hid (And.intro (below_step H5.out hb) hC8)
    have hwL : wB L = true := wB_ok hL2 (fun e he => (hLe e he).1)
    have HL := hid (And.intro hbL (And.intro hLe hwL))
    clear hb H5 hC8 hR hbL hLe hwL
    go_wp2_with fail
    refine (wwrite_c A8 c8 L w7 H7.out.2 hc8 (fun e he => ⟨(HL.out.2.1 e he).2, by have := (eB_spec (HL.out.2.1 e he).1).2.1; omega⟩)).mono ?_
    rintro e' w8 ⟨hp_, hb⟩
    have hp2 : ∃ A9 c9, e' = .returned (.tuple #[.slice A9 b.length c9, .int .i64 0]) ∧ b.length ≤ c9 ∧ CB w8 A9 b := by
      rcases hp_ with ⟨_, v9, rfl, hR⟩ | ⟨h1, _⟩
      · rw [← HL.out.1] at hR
        obtain ⟨A9, c9, rfl, h3, h4⟩ := Kd.R_reads hR
        exact ⟨A9, c9, rfl, h3, h4⟩
      · rw [HL.out.2.2] at h1
        cases h1
    obtain ⟨A9, c9, rfl, hc9, hC9⟩ := hp2
    have H8 := hid (And.intro (below_step H7.out.1 hb) hC9)
    clear hp_ hb hC9 H7 HL
    go_wp2_with fail
    refine (same_self b (by omega) A9 Ab c9 cb w8 H8.out.2 hc9 (Kd.C_below HB.out.1 H8.out.1) hcb).mono ?_
    rintro e' w9 ⟨rfl, ⟨nd, rfl⟩⟩
    have H9 := hid (pw_below_drewN H8.out.1 nd)
    go_wp2
    go_ret
    exact ⟨rfl, H9.out⟩
set_option maxRecDepth 100000 in
set_option maxHeartbeats 2000000 in
theorem wreads_no (A Ab : Option Addr) (c cb : Nat) (l : List Edge) (b : List Int) (k : Int) (w : World) (hC : CE w A l) (hc : l.length ≤ c) (hl : ∀ e ∈ l, e.2.2.2 < 18446744073709551616 ∧ e.1.size ≤ 140737488351232) (hCb : CB w Ab b) (hcb : b.length ≤ cb) (hby : Bytes b) (hk0 : 0 ≤ k) (hk1 : k ≤ 65535)
    (n1 : ¬ (300 : Int) < (l.length : Int)) (n2 : ¬ (20000 : Int) < (b.length : Int)) (hw : wB l = false) :
    Calls Try.prog 13 #[.slice A l.length c, .slice Ab b.length cb, .int .u16 k] w fun e w' => e = .returned (.bool true) ∧ Below w.heap.size w w' := by
  have HC := hid hC
  have HL := hid hl
  have HB := hid (And.intro hCb hby)
  have HW := hid hw
  clear hC hl hCb hby hw
  go_enter Try.func13, Try.ntmps13
  go_wp2_with fail
  refine (awake24_c _).mono ?_
  rintro e w1 ⟨rfl, hb⟩
  have H1 := hid hb
  clear hb
  go_wp2_with fail
  refine (wwrite_c A c l w1 (Kd.C_below HC.out H1.out) hc HL.out).mono ?_
  rintro e w2 ⟨hp_, hb⟩
  have hp2 : e = .returned (.tuple #[.slice none 0 0, .int .i64 4]) := by
    rcases hp_ with ⟨h1, _⟩ | ⟨_, h1⟩
    · rw [HW.out] at h1
      cases h1
    · exact h1
  subst hp2
  have H2 := hid (below_step H1.out hb)
  clear hp_ hb H1
  go_wp2_with fail
  refine (wread_any Ab cb b w2 (Kd.C_below HB.out.1 H2.out) hcb HB.out.2 (by omega)).mono ?_
  rintro e' w7 ⟨hb, (⟨x, hx, rfl⟩ | ⟨L, v7, hbL, hL2, hLe, rfl, hR⟩)⟩
  · have H7 := hid (below_step H2.out hb)
    clear hb H2
    rcases hx with rfl | rfl
    · go_wp2
      go_ret
      exact ⟨rfl, H7.out⟩
    · go_wp2
      go_ret
      exact ⟨rfl, H7.out⟩
  · obtain ⟨A8, c8, rfl, hc8, hC8⟩ := Kd.R_reads hR
    have H7 := hid (And.intro (below_step H2.out hb) hC8)
    have hwL : wB L = true := wB_ok hL2 (fun e he => (hLe e he).1)
    have HL := hid (And.intro hbL (And.intro hLe hwL))
    clear hb H2 hC8 hR hbL hLe hwL
    go_wp2_with fail
    refine (wwrite_c A8 c8 L w7 H7.out.2 hc8 (fun e he => ⟨(HL.out.2.1 e he).2, by have := (eB_spec (HL.out.2.1 e he).1).2.1; omega⟩)).mono ?_
    rintro e' w8 ⟨hp_, hb⟩
    have hp2 : ∃ A9 c9, e' = .returned (.tuple #[.slice A9 b.length c9, .int .i64 0]) ∧ b.length ≤ c9 ∧ CB w8 A9 b := by
      rcases hp_ with ⟨_, v9, rfl, hR⟩ | ⟨h1, _⟩
      · rw [← HL.out.1] at hR
        obtain ⟨A9, c9, rfl, h3, h4⟩ := Kd.R_reads hR
        exact ⟨A9, c9, rfl, h3, h4⟩
      · rw [HL.out.2.2] at h1
        cases h1
    obtain ⟨A9, c9, rfl, hc9, hC9⟩ := hp2
    have H8 := hid (And.intro (below_step H7.out.1 hb) hC9)
    clear hp_ hb hC9 H7 HL
    go_wp2_with fail
    refine (same_self b (by omega) A9 Ab c9 cb w8 H8.out.2 hc9 (Kd.C_below HB.out.1 H8.out.1) hcb).mono ?_
    rintro e' w9 ⟨rfl, ⟨nd, rfl⟩⟩
    have H9 := hid (pw_below_drewN H8.out.1 nd)
    go_wp2
    go_ret
    exact ⟨rfl, H9.out⟩
set_option maxRecDepth 100000 in
theorem wreads_c (A Ab : Option Addr) (c cb : Nat) (l : List Edge) (b : List Int) (k : Int) (w : World) (hC : CE w A l) (hc : l.length ≤ c) (hl : ∀ e ∈ l, e.2.2.2 < 18446744073709551616 ∧ e.1.size ≤ 140737488351232) (hCb : CB w Ab b) (hcb : b.length ≤ cb) (hby : Bytes b) (hk0 : 0 ≤ k) (hk1 : k ≤ 65535) :
    Calls Try.prog 13 #[.slice A l.length c, .slice Ab b.length cb, .int .u16 k] w fun e w' => e = .returned (.bool true) ∧ Below w.heap.size w w' := by
  by_cases n1 : (300 : Int) < (l.length : Int)
  · clear hC hl hCb hby
    go_enter Try.func13, Try.ntmps13
    go_wp2_with fail
    refine (awake24_c _).mono ?_
    rintro e w1 ⟨rfl, hb⟩
    have H1 := hid hb
    clear hb
    go_wp2_with fail
    refine (awake24_c _).mono ?_
    rintro e w2 ⟨rfl, hb⟩
    have H2 := hid (below_step H1.out hb)
    clear hb
    go_wp2
    go_ret
    exact ⟨rfl, H2.out⟩
  by_cases n2 : (20000 : Int) < (b.length : Int)
  · clear hC hl hCb hby
    go_enter Try.func13, Try.ntmps13
    go_wp2_with fail
    refine (awake24_c _).mono ?_
    rintro e w1 ⟨rfl, hb⟩
    have H1 := hid hb
    clear hb
    go_wp2_with fail
    refine (awake24_c _).mono ?_
    rintro e w2 ⟨rfl, hb⟩
    have H2 := hid (below_step H1.out hb)
    clear hb
    go_wp2
    go_ret
    exact ⟨rfl, H2.out⟩
  cases hw : wB l
  · exact wreads_no A Ab c cb l b k w hC hc hl hCb hcb hby hk0 hk1 n1 n2 hw
  · exact wreads_yes A Ab c cb l b k w hC hc hl hCb hcb hby hk0 hk1 n1 n2 hw
end Go.Proofs.Ytmcfihpbiilbcaa.H
