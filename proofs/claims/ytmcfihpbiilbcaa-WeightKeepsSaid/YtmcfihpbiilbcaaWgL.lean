/- The law's put of layer 24. -/
import Derived.Test.YtmcfihpbiilbcaaWgK
namespace Go.Proofs.Ytmcfihpbiilbcaa.H
open Go.RowKit Go.Proofs.YtmcfihpbiilbcaaW.PrintWords Go.Proofs.YtmcfihpbiilbcaaW.PrintLast Go.Proofs.YtmcfihpbiilbcaaW.PrintMore Go.Proofs.Ytmcfihpbiilbcaa.E
set_option linter.unusedVariables false
set_option linter.unusedSimpArgs false
theorem R_one (w : World) (x : Int) : RB (w.alloc (.cells #[.int .u8 x] 5)) w.heap.size (.slice (some ⟨w.heap.size, 0, none⟩) 1 1) [x] :=
  ⟨fun _ _ => trivial, [.int .u8 x], ⟨⟨rfl, .inr ⟨w.heap.size, 1, #[.int .u8 x], rfl, Nat.le_refl _, heap_alloc_new w _, Nat.le_refl _, by decide, rfl, rfl⟩⟩, Reps.one rfl (Reps.none _ _)⟩⟩
/-- The beginning of put: the name's row. -/
theorem put_start (nm : ByteArray) (v1 v2 v3 : Value) (w : World) (hs : nm.size ≤ 32) :
    let X := w.alloc (.cells #[.string nm, v1, v2, v3] 73)
    let Z := Lib.bytesWorld (X.alloc (.cells #[.int .u8 nm.size] 5)) 5 nm
    RB Z w.heap.size (.slice (some ⟨w.heap.size + 1, 0, none⟩) 1 1) [(nm.size : Int)] ∧ CB Z (some ⟨w.heap.size + 1 + 1, 0, none⟩) (bytesOf nm) ∧ Below w.heap.size w Z ∧ Z.heap[w.heap.size]? = some (.cells #[.string nm, v1, v2, v3] 73 (0, 0)) := by
  intro X Z
  have hX : X.heap.size = w.heap.size + 1 := by simp [X]
  have hY : (X.alloc (.cells #[.int .u8 nm.size] 5)).heap.size = w.heap.size + 1 + 1 := by simp [X]
  have hb1 : Below w.heap.size w (X.alloc (.cells #[.int .u8 nm.size] 5)) := below_alloc (below_alloc (Below.refl _ _) _) _
  have hZ : Below (X.alloc (.cells #[.int .u8 nm.size] 5)).heap.size (X.alloc (.cells #[.int .u8 nm.size] 5)) Z := bytes_below (Below.refl _ _) (Nat.le_refl _) 5 nm
  have hlen := bytesOf_length nm
  refine ⟨?_, ?_, below_step hb1 hZ, blk_below (blk_alloc (blk_new w _) _) hZ⟩
  · have h := Kd.R_below (R_one X (nm.size : Int)) hZ
    rw [hX] at h
    exact Kd.R_lower h (by omega)
  · have := Kd.C_of_reads (enc := Value.int .u8) (d := (0 : Int)) (h1 := fun _ => rfl) (bytes_reads (X.alloc (.cells #[.int .u8 nm.size] 5)) 5 nm (by omega))
    rw [hY] at this
    show Kd.C (Kd.int .u8) _ _ (bytesOf nm).length (bytesOf nm)
    rw [hlen]
    exact this
theorem put2_take (n : Int) : (putS n 4).take 2 = putS n 2 := rfl
set_option maxRecDepth 100000 in
set_option maxHeartbeats 1000000 in
theorem put24_c (nm : ByteArray) (fr tq : Int) (b : Nat) (hE : eB (nm, fr, tq, b) = true) (hb64 : b < 18446744073709551616) (w : World) :
    Calls Try.prog 60 #[.agg #[.string nm, .int .i64 fr, .int .i64 tq, .float .f64 b]] w fun e w' => ∃ v, e = .returned v ∧ RB w' w.heap.size v (eS (nm, fr, tq, b)) ∧ Below w.heap.size w w' := by
  have kb := fun W => print_bytes (P := Try.prog) 9 22 5 Try.underlying9 Try.underlying22 Try.underlying5 nm W
  obtain ⟨g1, g2, g3, g4, g5, g6⟩ := eB_spec hE
  simp only at g1 g2 g3 g4 g5 g6
  have hlen := bytesOf_length nm
  obtain ⟨NB, hNB⟩ : ∃ NB, NB = bytesOf nm := ⟨_, rfl⟩
  have hst := put_start nm (.int .i64 fr) (.int .i64 tq) (.float .f64 b) w g2
  simp only at hst
  rw [← hNB] at hlen hst
  have HS := hid hst
  have HNB := hid hNB
  have HLn := hid hlen
  have hl1 : ([(nm.size : Int)] : List Int).length + NB.length ≤ 140737488355328 := by rw [hlen]; simp; omega
  have HL1 := hid hl1
  have e1 : IntKind.u8.wrap (nm.size : Int) = (nm.size : Int) := by rw [IntKind.wrap_u8]; omega
  have e2 : IntKind.u32.wrap fr = fr := by rw [IntKind.wrap_u32]; omega
  have e3 : IntKind.u32.wrap tq = tq := by rw [IntKind.wrap_u32]; omega
  have hbr := bits_run b
  obtain ⟨lo, hlo⟩ : ∃ x : Int, (b : Int) % 4294967296 = x := ⟨_, rfl⟩
  obtain ⟨hi, hhi⟩ : ∃ x : Int, (b : Int) / 4294967296 = x := ⟨_, rfl⟩
  have l0 : 0 ≤ lo := by omega
  have l1 : lo ≤ 4294967295 := by omega
  have h0 : 0 ≤ hi := by omega
  have h1 : hi ≤ 4294967295 := by omega
  have e4 : IntKind.u32.wrap lo = lo := by rw [IntKind.wrap_u32]; omega
  have e5 : IntKind.u32.wrap hi = hi := by rw [IntKind.wrap_u32]; omega
  have e6 : hi % 4294967296 = hi := by omega
  have e7 : lo % 4294967296 = lo := by omega
  have HLH := hid (And.intro hlo hhi)
  clear hE hlen hNB hst hl1 g1
  go_enter Try.func60, Try.ntmps60
  go_wp2_with (at_builtin; refine app_c (w0 := w) w.heap.size rfl (.tmp 9) (.tmp 12) rfl _ [(nm.size : Int)] NB (some ⟨w.heap.size + 1 + 1, 0, none⟩) _ rfl (by rw [HLn.out]; rfl) HS.out.1 HS.out.2.1 HS.out.2.2.1 HS.out.2.2.1.size HL1.out ?_; intro v1 w1 hr hb hg hat; have hN := blk_grown HS.out.2.2.2 hg (fun e => by have h1 := Kd.R_types HS.out.1 HS.out.2.2.2 (by simp [Kd.int, Kd.scalar]); exact h1.1 _ e.symm |>.2 rfl); have c1 : w1.cell? ⟨w.heap.size, 1, none⟩ = some (.int .i64 fr) := blk_cell hN 1; have H1 := hid (And.intro hr (And.intro hb hN)); clear hr hb hg hat hN)
  refine (rput_c fr (by omega) (by omega) _).mono ?_
  rintro e' wM ⟨A2, d2, rfl, hcx, hCx, hb⟩
  have hN := blk_below H1.out.2.2 hb
  have hC2 : CB wM (some A2) (putS fr 2) := Kd.C_take hCx (m := 2) (by exact (by decide : 2 ≤ 4))
  have H1p := hid (And.intro (Kd.R_below H1.out.1 hb) (And.intro hC2 (And.intro (below_step H1.out.2.1 hb) hN)))
  have hlx : ([(nm.size : Int)] ++ NB).length + (putS fr 2).length ≤ 140737488355328 := by
    have h1 := HL1.out
    have h2 := HLn.out
    simp only [List.length_append, putS2_len, List.length_cons, List.length_nil] at h1 ⊢
    omega
  have hc4 : 2 ≤ d2 := by rw [putS4_len] at hcx; omega
  clear hCx hC2 hb hN H1 c1
  go_wp2_with (at_builtin; refine app_c (w0 := w) w.heap.size rfl (.tmp 14) (.tmp 19) rfl _ ([(nm.size : Int)] ++ NB) (putS fr 2) (some A2) d2 rfl rfl H1p.out.1 H1p.out.2.1 H1p.out.2.2.1 H1p.out.2.2.1.size hlx ?_; intro vN wN hr hb hg hat; have hN := blk_grown H1p.out.2.2.2 hg (fun e => by have h1 := Kd.R_types H1p.out.1 H1p.out.2.2.2 (by simp [Kd.int, Kd.scalar]); exact h1.1 _ e.symm |>.2 rfl); have c2 : wN.cell? ⟨w.heap.size, 2, none⟩ = some (.int .i64 tq) := blk_cell hN 2; have H2 := hid (And.intro hr (And.intro hb hN)); clear hr hb hg hat hN hlx hcx)
  refine (rput_c tq (by omega) (by omega) _).mono ?_
  rintro e' wM ⟨A3, d3, rfl, hcx, hCx, hb⟩
  have hN := blk_below H2.out.2.2 hb
  have hC2 : CB wM (some A3) (putS tq 2) := Kd.C_take hCx (m := 2) (by exact (by decide : 2 ≤ 4))
  have H2p := hid (And.intro (Kd.R_below H2.out.1 hb) (And.intro hC2 (And.intro (below_step H2.out.2.1 hb) hN)))
  have hlx : ([(nm.size : Int)] ++ NB ++ putS fr 2).length + (putS tq 2).length ≤ 140737488355328 := by
    have h1 := HL1.out
    have h2 := HLn.out
    simp only [List.length_append, putS2_len, List.length_cons, List.length_nil] at h1 ⊢
    omega
  have hc4 : 2 ≤ d3 := by rw [putS4_len] at hcx; omega
  clear hCx hC2 hb hN H2 c2
  go_wp2_with (at_builtin; refine app_c (w0 := w) w.heap.size rfl (.tmp 21) (.tmp 26) rfl _ ([(nm.size : Int)] ++ NB ++ putS fr 2) (putS tq 2) (some A3) d3 rfl rfl H2p.out.1 H2p.out.2.1 H2p.out.2.2.1 H2p.out.2.2.1.size hlx ?_; intro vN wN hr hb hg hat; have hN := blk_grown H2p.out.2.2.2 hg (fun e => by have h1 := Kd.R_types H2p.out.1 H2p.out.2.2.2 (by simp [Kd.int, Kd.scalar]); exact h1.1 _ e.symm |>.2 rfl); have c3 : wN.cell? ⟨w.heap.size, 3, none⟩ = some (.float .f64 b) := blk_cell hN 3; have H3 := hid (And.intro hr (And.intro hb hN)); clear hr hb hg hat hN hlx hcx)
  refine (rput_c lo (by omega) (by omega) _).mono ?_
  rintro e' wM ⟨A4, d4, rfl, hcx, hCx, hb⟩
  have hN := blk_below H3.out.2.2 hb
  have H3p := hid (And.intro (Kd.R_below H3.out.1 hb) (And.intro hCx (And.intro (below_step H3.out.2.1 hb) hN)))
  have hlx : ([(nm.size : Int)] ++ NB ++ putS fr 2 ++ putS tq 2).length + (putS lo 4).length ≤ 140737488355328 := by
    have h1 := HLn.out
    simp only [List.length_append, putS2_len, putS4_len, List.length_cons, List.length_nil]
    omega
  clear hCx hb hN H3 c3
  go_wp2_with (at_builtin; refine app_c (w0 := w) w.heap.size rfl (.tmp 31) (.tmp 35) rfl _ ([(nm.size : Int)] ++ NB ++ putS fr 2 ++ putS tq 2) (putS lo 4) (some A4) d4 rfl rfl H3p.out.1 H3p.out.2.1 H3p.out.2.2.1 H3p.out.2.2.1.size hlx ?_; intro vN wN hr hb hg hat; have hN := blk_grown H3p.out.2.2.2 hg (fun e => by have h1 := Kd.R_types H3p.out.1 H3p.out.2.2.2 (by simp [Kd.int, Kd.scalar]); exact h1.1 _ e.symm |>.2 rfl); have H4 := hid (And.intro hr (And.intro hb hN)); clear hr hb hg hat hN hlx hcx)
  refine (rput_c hi (by omega) (by omega) _).mono ?_
  rintro e' wM ⟨A5, d5, rfl, hcx, hCx, hb⟩
  have hN := blk_below H4.out.2.2 hb
  have H4p := hid (And.intro (Kd.R_below H4.out.1 hb) (And.intro hCx (And.intro (below_step H4.out.2.1 hb) hN)))
  have hlx : ([(nm.size : Int)] ++ NB ++ putS fr 2 ++ putS tq 2 ++ putS lo 4).length + (putS hi 4).length ≤ 140737488355328 := by
    have h1 := HLn.out
    simp only [List.length_append, putS2_len, putS4_len, List.length_cons, List.length_nil]
    omega
  clear hCx hb hN H4
  go_wp2_with (at_builtin; refine app_c (w0 := w) w.heap.size rfl (.tmp 37) (.tmp 41) rfl _ ([(nm.size : Int)] ++ NB ++ putS fr 2 ++ putS tq 2 ++ putS lo 4) (putS hi 4) (some A5) d5 rfl rfl H4p.out.1 H4p.out.2.1 H4p.out.2.2.1 H4p.out.2.2.1.size hlx ?_; intro vN wN hr hb hg hat; have hN := blk_grown H4p.out.2.2.2 hg (fun e => by have h1 := Kd.R_types H4p.out.1 H4p.out.2.2.2 (by simp [Kd.int, Kd.scalar]); exact h1.1 _ e.symm |>.2 rfl); have H5 := hid (And.intro hr (And.intro hb hN)); clear hr hb hg hat hN hlx hcx)
  go_ret
  refine ⟨_, rfl, ?_, H5.out.2.1⟩
  have h := H5.out.1
  have q : eS (nm, fr, tq, b) = [(nm.size : Int)] ++ NB ++ putS fr 2 ++ putS tq 2 ++ putS lo 4 ++ putS hi 4 := by
    unfold eS nmS fpS
    simp only
    rw [HLH.out.1, HLH.out.2, ← putS_four lo (by omega) (by omega), ← putS_four hi (by omega) (by omega), ← HNB.out, show (nm.size : Int) % 256 = nm.size by omega]
    simp only [List.append_assoc, List.cons_append, List.nil_append]
  rw [q]
  exact h
end Go.Proofs.Ytmcfihpbiilbcaa.H
