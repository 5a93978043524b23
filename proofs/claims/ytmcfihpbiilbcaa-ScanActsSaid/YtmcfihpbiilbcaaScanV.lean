/- ScanTakes: its reader. -/
import Derived.Test.YtmcfihpbiilbcaaScanS
namespace Go.Proofs.Ytmcfihpbiilbcaa.H
open Go.RowKit Go.Proofs.YtmcfihpbiilbcaaW.PrintWords Go.Proofs.YtmcfihpbiilbcaaW.PrintLast Go.Proofs.YtmcfihpbiilbcaaW.PrintMore Go.Proofs.Ytmcfihpbiilbcaa.F
set_option linter.unusedVariables false
set_option linter.unusedSimpArgs false
theorem Fresh.keep {w w1 wc : World} {B : Nat} {l : List Int} (h : Fresh w w1 B l) (k : Aft B w1 wc) {N : Nat} {o : Obj} (hN : w.heap[N]? = some o) : wc.heap[N]? = some o := by
  have h0 := blk_lt hN
  have h1 := h.below.size
  have h2 := h.lt
  exact (k.block N (by omega) (by omega)).trans ((h.below.block N h0).trans hN)
theorem enter_47 (args : Array Value) (w : World) : (callFunc 47 args).run Try.prog w = .ok (.enter 47 args) w := Go.MuLone.run_callFunc_enter Try.func47 (by kernel_rfl) rfl args w
set_option maxRecDepth 100000 in
set_option maxHeartbeats 1000000 in
theorem read47 (w w1 : World) (B Nm Nn Ns Nx No : Nat) (l m : List Int) (n : Int) (s : ByteArray) (b : Nat) (Am : Option Addr) (cm : Nat) (hF : Fresh w w1 B l)
    (bm : w.heap[Nm]? = some (.cells #[.slice Am m.length cm] 22 (0, 0))) (bn : w.heap[Nn]? = some (.cells #[.int .u32 n] 36 (0, 0))) (bs : w.heap[Ns]? = some (.cells #[.string s] 9 (0, 0)))
    (bx : w.heap[Nx]? = some (.cells #[.float .f64 b] 50 (0, 0))) (bo : w.heap[No]? = some (.cells #[.bool false] 4 (0, 0))) (hCm : CB w Am m) (hcm : m.length ≤ cm)
    (n0 : 0 ≤ n) (n1 : n ≤ 4294967295) (hm : (m.length : Int) ≤ 200) (hss : (s.size : Int) ≤ 32) (hlen : (l.length : Int) = 13 + s.size + m.length) (hby : Bytes l) (f0 : wordOf (mid l 0 4) = n) (f1 : nameLen l 4 = s.size) (f2 : nameOf l 4 = s) (f3 : floatOf l (5 + s.size) = b) (f4 : mid l (13 + s.size) m.length = m) (hN : namedB s = true) :
    Calls Try.prog 47 (#[.pointer (some ⟨B, 0, none⟩)] ++ #[.pointer (some ⟨Nm, 0, none⟩), .pointer (some ⟨Nn, 0, none⟩), .pointer (some ⟨Ns, 0, none⟩), .pointer (some ⟨Nx, 0, none⟩), .pointer (some ⟨No, 0, none⟩)]) w1
      (ReadPost w l B (fun w2 x => x = 0 ∧ w2.heap[No]? = some (.cells #[.bool true] 4 (0, 0)) ∧ ∃ w3, Aft B w1 w3 ∧ w2 = w3.setCell ⟨No, 0, none⟩ (.bool true))) := by
  have HF := hid hF
  have HB := hid (And.intro bm (And.intro bn (And.intro bs (And.intro bx bo))))
  have HCm := hid (And.intro hCm hcm)
  have hbr := bits_run b
  have HFE := hid (And.intro hF.e (And.intro (blk_lt bm) (And.intro (blk_lt bo) hF.lt)))
  have e0 : IntKind.i64.wrap n = n := IntWalk.i64_in _ (by omega)
  have F := hid (And.intro f0 (And.intro f1 (And.intro f2 (And.intro f3 (And.intro f4 hlen)))))
  have hl : l.length ≤ 140737488351232 := by omega
  clear hF bm bn bs bx bo hCm hcm f0 f1 f2 f3 f4
  go_enter Try.func47, Try.ntmps47
  go_wp2_with fail
  have hk := number_c B l 0 4 _ HF.out.sc (Int.le_refl 0) (by omega) (by omega) hl hby
  rw [F.out.1] at hk
  refine hk.mono ?_
  clear hk
  rintro e w2 ⟨rfl, hw⟩
  have H2 := hid (And.intro (HF.out.sc.after hw) (Aft.of_below hw))
  clear hw
  go_wp2_with fail
  have hk := name_c B l 4 _ (by simpa using H2.out.1) (by omega) (by omega) (by rw [F.out.2.1]; omega) (by rw [F.out.2.1]; omega) hl hby (by rw [F.out.2.2.1]; exact hN)
  rw [F.out.2.2.1] at hk
  refine hk.mono ?_
  clear hk
  rintro e w3 ⟨rfl, hw⟩
  have hS3 := Sc.after (by simpa using H2.out.1 : Sc w2 B l 4) hw
  rw [F.out.2.1, show (4 : Int) + 1 + s.size = 5 + s.size by omega] at hS3
  have H3 := hid (And.intro hS3 (H2.out.2.then_ (Aft.of_below hw)))
  clear hw hS3 H2
  go_wp2_with fail
  have hk := float_c B l (5 + s.size) _ H3.out.1 (by omega) (by omega) hl hby
  rw [F.out.2.2.2.1, Int.toNat_natCast] at hk
  refine hk.mono ?_
  clear hk
  rintro e w4 ⟨rfl, hw⟩
  have hS4 := H3.out.1.after hw
  rw [show (5 : Int) + s.size + 8 = 13 + s.size by omega] at hS4
  have H4 := hid (And.intro hS4 (H3.out.2.then_ (Aft.of_below hw)))
  have c1 : w4.cell? ⟨Nm, 0, none⟩ = some (.slice Am m.length cm) := blk_cell (HF.out.keep H4.out.2 HB.out.1) 0
  clear hw hS4 H3
  go_wp2_with fail
  have hk := bytes_c B l (13 + s.size) m.length _ H4.out.1 (by omega) (by omega) (by omega) hl
  rw [F.out.2.2.2.2.1] at hk
  refine hk.mono ?_
  clear hk
  rintro e w5 ⟨v, rfl, hR, hw⟩
  obtain ⟨A5, c5, rfl, hc5, hC5⟩ := Kd.R_reads hR
  have hS5 := H4.out.1.after hw
  rw [show (13 : Int) + s.size + m.length = l.length by omega] at hS5
  have ha5 := H4.out.2.then_ (Aft.of_below hw)
  have hsz5 := ha5.size
  have hCm5 : CB w5 Am m := by
    have hwb : Below w.heap.size w w5 := Aft.below HF.out.below ha5 (by have := HFE.out.2.2.2; omega) HF.out.below.size
    exact Kd.C_below HCm.out.1 hwb
  have H5 := hid (And.intro hS5 (And.intro ha5 (And.intro hC5 hCm5)))
  have d1 := HF.out.keep ha5 HB.out.1
  have d2 := HF.out.keep ha5 HB.out.2.1
  have d3 := HF.out.keep ha5 HB.out.2.2.1
  have d4 := HF.out.keep ha5 HB.out.2.2.2.1
  have d5 := HF.out.keep ha5 HB.out.2.2.2.2
  have D := hid (And.intro d1 (And.intro d2 (And.intro d3 (And.intro d4 d5))))
  have NE := hid (And.intro (blk_ne d1 d5 (by decide)) (And.intro (blk_ne d2 d5 (by decide)) (And.intro (blk_ne d3 d5 (by decide)) (blk_ne d4 d5 (by decide)))))
  have hE5 : w5.heap[w.heap.size]? = some (.cells #[.int .i64 0] 25 (0, 0)) := (HF.out.aft ha5).2
  have HE5 := hid hE5
  clear hw hS5 ha5 hCm5 hC5 hR H4 c1 d1 d2 d3 d4 d5 hE5
  go_wp2
  refine start_ (n := 27) (S := fun w' => w'.cell? ⟨Nn, 0, none⟩ = some (.int .u32 n) ∧ w'.cell? ⟨Ns, 0, none⟩ = some (.string s) ∧ w'.cell? ⟨Nx, 0, none⟩ = some (.float .f64 b) ∧ w'.cell? ⟨Nm, 0, none⟩ = some (.slice Am m.length cm)) (ds := []) #[false, false, false, false, false, false, false, false, false, false, false, false, false, false, false, false, false, false, false, false, false, false, false, false, false, false, false] (by kernel_rfl) rfl rfl ⟨blk_cell (blk_drew D.out.2.1) 0, blk_cell (blk_drew D.out.2.2.1) 0, blk_cell (blk_drew D.out.2.2.2.1) 0, blk_cell (blk_drew D.out.1) 0⟩ (fun hHeld => ?_)
  refine pure_ (i := 0) (N := (some 21)) (v := ?_) (a' := ?_) #[true, false, false, false, false, false, false, false, false, false, false, false, false, false, false, false, false, false, false, false, false, false, false, false, false, false, false] rfl rfl (by kernel_rfl) (fun _ _ _ h => h) (Or.inl ⟨by rfl, ?_⟩) ?_ ?_
  rotate_left
  · intro w'
    go_simp
    with_reducible rfl
  rotate_left
  · simp only [Act.put, List.setIfInBounds_toArray, List.set_cons_zero, List.set_cons_succ, i64_w]
    rfl
  refine take_ (i := 1) (N := (some 22)) (v := ?_) (a' := ?_) #[true, true, false, false, false, false, false, false, false, false, false, false, false, false, false, false, false, false, false, false, false, false, false, false, false, false, false] rfl rfl (by kernel_rfl) (fun _ _ _ h => h) (Or.inl ⟨by rfl, ?_⟩) hHeld ?_ ?_
  rotate_left
  · rintro w' ⟨s0, s1, s2, s3⟩
    go_simp
    with_reducible rfl
  rotate_left
  · simp only [Act.put, List.setIfInBounds_toArray, List.set_cons_zero, List.set_cons_succ, i64_w]
    rfl
  refine pure_ (i := 2) (N := (some 23)) (v := ?_) (a' := ?_) #[true, true, true, false, false, false, false, false, false, false, false, false, false, false, false, false, false, false, false, false, false, false, false, false, false, false, false] rfl rfl (by kernel_rfl) (fun _ _ _ h => h) (Or.inl ⟨by rfl, ?_⟩) ?_ ?_
  rotate_left
  · intro w'
    go_simp
    with_reducible rfl
  rotate_left
  · simp only [Act.put, List.setIfInBounds_toArray, List.set_cons_zero, List.set_cons_succ, i64_w]
    rfl
  refine pure_ (i := 3) (N := (some 24)) (v := ?_) (a' := ?_) #[true, true, true, true, false, false, false, false, false, false, false, false, false, false, false, false, false, false, false, false, false, false, false, false, false, false, false] rfl rfl (by kernel_rfl) (fun _ _ _ h => h) (Or.inl ⟨by rfl, ?_⟩) ?_ ?_
  rotate_left
  · intro w'
    go_simp
    with_reducible rfl
  rotate_left
  · simp only [Act.put, List.setIfInBounds_toArray, List.set_cons_zero, List.set_cons_succ, i64_w]
    rfl
  refine pure_ (i := 4) (N := (some 25)) (v := ?_) (a' := ?_) #[true, true, true, true, true, false, false, false, false, false, false, false, false, false, false, false, false, false, false, false, false, false, false, false, false, false, false] rfl rfl (by kernel_rfl) (fun _ _ _ h => h) (Or.inl ⟨by rfl, ?_⟩) ?_ ?_
  rotate_left
  · intro w'
    go_simp
    with_reducible rfl
  rotate_left
  · simp only [Act.put, List.setIfInBounds_toArray, List.set_cons_zero, List.set_cons_succ, i64_w]
    rfl
  refine pure_ (i := 5) (N := (some 26)) (v := ?_) (a' := ?_) #[true, true, true, true, true, true, false, false, false, false, false, false, false, false, false, false, false, false, false, false, false, false, false, false, false, false, false] rfl rfl (by kernel_rfl) (fun _ _ _ h => h) (Or.inl ⟨by rfl, ?_⟩) ?_ ?_
  rotate_left
  · intro w'
    go_simp
    with_reducible rfl
  rotate_left
  · simp only [Act.put, List.setIfInBounds_toArray, List.set_cons_zero, List.set_cons_succ, i64_w]
    rfl
  refine take_ (i := 6) (N := (some 27)) (v := ?_) (a' := ?_) #[true, true, true, true, true, true, true, false, false, false, false, false, false, false, false, false, false, false, false, false, false, false, false, false, false, false, false] rfl rfl (by kernel_rfl) (fun _ _ _ h => h) (Or.inl ⟨by rfl, ?_⟩) hHeld ?_ ?_
  rotate_left
  · rintro w' ⟨s0, s1, s2, s3⟩
    go_simp
    with_reducible rfl
  rotate_left
  · simp only [Act.put, List.setIfInBounds_toArray, List.set_cons_zero, List.set_cons_succ, i64_w]
    rfl
  refine pure_ (i := 7) (N := (some 28)) (v := ?_) (a' := ?_) #[true, true, true, true, true, true, true, true, false, false, false, false, false, false, false, false, false, false, false, false, false, false, false, false, false, false, false] rfl rfl (by kernel_rfl) (fun _ _ _ h => h) (Or.inl ⟨by rfl, ?_⟩) ?_ ?_
  rotate_left
  · intro w'
    go_simp
    with_reducible rfl
  rotate_left
  · simp only [Act.put, List.setIfInBounds_toArray, List.set_cons_zero, List.set_cons_succ, i64_w]
    rfl
  refine pure_ (i := 8) (N := (some 29)) (v := ?_) (a' := ?_) #[true, true, true, true, true, true, true, true, true, false, false, false, false, false, false, false, false, false, false, false, false, false, false, false, false, false, false] rfl rfl (by kernel_rfl) (fun _ _ _ h => h) (Or.inl ⟨by rfl, ?_⟩) ?_ ?_
  rotate_left
  · intro w'
    go_simp
    with_reducible rfl
  rotate_left
  · simp only [Act.put, List.setIfInBounds_toArray, List.set_cons_zero, List.set_cons_succ, i64_w]
    rfl
  refine pure_ (i := 9) (N := (some 30)) (v := ?_) (a' := ?_) #[true, true, true, true, true, true, true, true, true, true, false, false, false, false, false, false, false, false, false, false, false, false, false, false, false, false, false] rfl rfl (by kernel_rfl) (fun _ _ _ h => h) (Or.inl ⟨by rfl, ?_⟩) ?_ ?_
  rotate_left
  · intro w'
    go_simp
    with_reducible rfl
  rotate_left
  · simp only [Act.put, List.setIfInBounds_toArray, List.set_cons_zero, List.set_cons_succ, i64_w]
    rfl
  refine pure_ (i := 10) (N := (some 31)) (v := ?_) (a' := ?_) #[true, true, true, true, true, true, true, true, true, true, true, false, false, false, false, false, false, false, false, false, false, false, false, false, false, false, false] rfl rfl (by kernel_rfl) (fun _ _ _ h => h) (Or.inl ⟨by rfl, ?_⟩) ?_ ?_
  rotate_left
  · intro w'
    go_simp
    with_reducible rfl
  rotate_left
  · simp only [Act.put, List.setIfInBounds_toArray, List.set_cons_zero, List.set_cons_succ, i64_w]
    rfl
  refine take_ (i := 12) (N := (some 33)) (v := ?_) (a' := ?_) #[true, true, true, true, true, true, true, true, true, true, true, false, true, false, false, false, false, false, false, false, false, false, false, false, false, false, false] rfl rfl (by kernel_rfl) (fun _ _ _ h => h) (Or.inl ⟨by rfl, ?_⟩) hHeld ?_ ?_
  rotate_left
  · rintro w' ⟨s0, s1, s2, s3⟩
    go_simp
    with_reducible rfl
  rotate_left
  · simp only [Act.put, List.setIfInBounds_toArray, List.set_cons_zero, List.set_cons_succ, i64_w]
    rfl
  refine one_ (i := 11) (N := (some 32)) #[true, true, true, true, true, true, true, true, true, true, true, true, true, false, false, false, false, false, false, false, false, false, false, false, false, false, false] rfl rfl (by kernel_rfl) (by decide) (fun K hK => ?_)
  go_simp
  refine hK.out _ _ hHeld (fun hHeld => ?_)
  clear hK K
  refine one_ (i := 13) (N := (some 34)) #[true, true, true, true, true, true, true, true, true, true, true, true, true, true, false, false, false, false, false, false, false, false, false, false, false, false, false] rfl rfl (by kernel_rfl) (by decide) (fun K hK => ?_)
  go_simp
  refine hK.out _ _ hHeld (fun hHeld => ?_)
  clear hK K
  refine pure_ (i := 14) (N := (some 35)) (v := ?_) (a' := ?_) #[true, true, true, true, true, true, true, true, true, true, true, true, true, true, true, false, false, false, false, false, false, false, false, false, false, false, false] rfl rfl (by kernel_rfl) (fun _ _ _ h => h) (Or.inl ⟨by rfl, ?_⟩) ?_ ?_
  rotate_left
  · intro w'
    go_simp
    with_reducible rfl
  rotate_left
  · simp only [Act.put, List.setIfInBounds_toArray, List.set_cons_zero, List.set_cons_succ, i64_w]
    rfl
  refine pure_ (i := 15) (N := (some 36)) (v := ?_) (a' := ?_) #[true, true, true, true, true, true, true, true, true, true, true, true, true, true, true, true, false, false, false, false, false, false, false, false, false, false, false] rfl rfl (by kernel_rfl) (fun _ _ _ h => h) (Or.inl ⟨by rfl, ?_⟩) ?_ ?_
  rotate_left
  · intro w'
    go_simp
    with_reducible rfl
  rotate_left
  · simp only [Act.put, List.setIfInBounds_toArray, List.set_cons_zero, List.set_cons_succ, i64_w]
    rfl
  refine pure_ (i := 16) (N := (some 37)) (v := ?_) (a' := ?_) #[true, true, true, true, true, true, true, true, true, true, true, true, true, true, true, true, true, false, false, false, false, false, false, false, false, false, false] rfl rfl (by kernel_rfl) (fun _ _ _ h => h) (Or.inl ⟨by rfl, ?_⟩) ?_ ?_
  rotate_left
  · intro w'
    go_simp
    with_reducible rfl
  rotate_left
  · simp only [Act.put, List.setIfInBounds_toArray, List.set_cons_zero, List.set_cons_succ, i64_w]
    rfl
  refine pure_ (i := 17) (N := (some 38)) (v := ?_) (a' := ?_) #[true, true, true, true, true, true, true, true, true, true, true, true, true, true, true, true, true, true, false, false, false, false, false, false, false, false, false] rfl rfl (by kernel_rfl) (fun _ _ _ h => h) (Or.inl ⟨by rfl, ?_⟩) ?_ ?_
  rotate_left
  · intro w'
    go_simp
    with_reducible rfl
  rotate_left
  · simp only [Act.put, List.setIfInBounds_toArray, List.set_cons_zero, List.set_cons_succ, i64_w]
    rfl
  refine take_ (i := 18) (N := (some 39)) (v := ?_) (a' := ?_) #[true, true, true, true, true, true, true, true, true, true, true, true, true, true, true, true, true, true, true, false, false, false, false, false, false, false, false] rfl rfl (by kernel_rfl) (fun _ _ _ h => h) (Or.inl ⟨by rfl, ?_⟩) hHeld ?_ ?_
  rotate_left
  · rintro w' ⟨s0, s1, s2, s3⟩
    go_simp
    with_reducible rfl
  rotate_left
  · simp only [Act.put, List.setIfInBounds_toArray, List.set_cons_zero, List.set_cons_succ, i64_w]
    rfl
  refine one_ (i := 19) (N := (some 40)) #[true, true, true, true, true, true, true, true, true, true, true, true, true, true, true, true, true, true, true, true, false, false, false, false, false, false, false] rfl rfl (by kernel_rfl) (by decide) (fun K hK => ?_)
  refine goes_ Try.func32 (by kernel_rfl) rfl #[.slice A5 m.length c5, .slice Am m.length cm] (by rfl) rfl rfl (by first | rfl | (simp only [List.map_toArray, List.map_cons, List.map_nil]; rfl)) ?_
  refine (spliceref01_Same.calls (m.length + 1) A5 c5 m Am cm m true _ (Kd.C_drew H5.out.2.2.1) hc5 (Kd.C_drew H5.out.2.2.2) HCm.out.2 (by rw [refSame_eq m m (by omega)]; simp)).mono ?_
  rintro e w6 ⟨rfl, ⟨nd6, rfl⟩⟩
  refine ⟨_, rfl, ?_⟩
  refine hK.out _ _ hHeld (fun hHeld => ?_)
  clear hK K
  refine norm_ (a' := ?_) ?_ ?_
  rotate_left
  · show Act.put _ (some 40) _ = _
    simp only [Act.put, List.setIfInBounds_toArray, List.set_cons_zero, List.set_cons_succ, i64_w]
    rfl
  refine pure_ (i := 20) (N := (some 41)) (v := ?_) (a' := ?_) #[true, true, true, true, true, true, true, true, true, true, true, true, true, true, true, true, true, true, true, true, true, false, false, false, false, false, false] rfl rfl (by kernel_rfl) (fun _ _ _ h => h) (Or.inl ⟨by rfl, ?_⟩) ?_ ?_
  rotate_left
  · intro w'
    go_simp
    with_reducible rfl
  rotate_left
  · simp only [Act.put, List.setIfInBounds_toArray, List.set_cons_zero, List.set_cons_succ, i64_w]
    rfl
  refine pure_ (i := 21) (N := (some 42)) (v := ?_) (a' := ?_) #[true, true, true, true, true, true, true, true, true, true, true, true, true, true, true, true, true, true, true, true, true, true, false, false, false, false, false] rfl rfl (by kernel_rfl) (fun _ _ _ h => h) (Or.inl ⟨by rfl, ?_⟩) ?_ ?_
  rotate_left
  · intro w'
    go_simp
    with_reducible rfl
  rotate_left
  · simp only [Act.put, List.setIfInBounds_toArray, List.set_cons_zero, List.set_cons_succ, i64_w]
    rfl
  refine pure_ (i := 22) (N := (some 43)) (v := ?_) (a' := ?_) #[true, true, true, true, true, true, true, true, true, true, true, true, true, true, true, true, true, true, true, true, true, true, true, false, false, false, false] rfl rfl (by kernel_rfl) (fun _ _ _ h => h) (Or.inl ⟨by rfl, ?_⟩) ?_ ?_
  rotate_left
  · intro w'
    go_simp
    with_reducible rfl
  rotate_left
  · simp only [Act.put, List.setIfInBounds_toArray, List.set_cons_zero, List.set_cons_succ, i64_w]
    rfl
  refine one_ (i := 23) (N := (some 44)) #[true, true, true, true, true, true, true, true, true, true, true, true, true, true, true, true, true, true, true, true, true, true, true, true, false, false, false] rfl rfl (by kernel_rfl) (by decide) (fun K hK => ?_)
  refine goes_ Try.func30 (by kernel_rfl) rfl #[.pointer (some ⟨B, 0, none⟩)] (by rfl) rfl rfl (by first | rfl | (simp only [List.map_toArray, List.map_cons, List.map_nil]; rfl)) ?_
  have hk := left_c B l l.length (w5.drew.drewN nd6) (H5.out.1.keep (fun b _ => rfl)) (by omega) (by omega) hl
  rw [Int.sub_self] at hk
  refine hk.mono ?_
  clear hk
  rintro e w7 ⟨rfl, ⟨nd7, rfl⟩⟩
  refine ⟨_, rfl, ?_⟩
  refine hK.out _ _ hHeld (fun hHeld => ?_)
  clear hK K
  refine norm_ (a' := ?_) ?_ ?_
  rotate_left
  · show Act.put _ (some 44) _ = _
    simp only [Act.put, List.setIfInBounds_toArray, List.set_cons_zero, List.set_cons_succ, i64_w]
    rfl
  refine pure_ (i := 24) (N := (some 45)) (v := ?_) (a' := ?_) #[true, true, true, true, true, true, true, true, true, true, true, true, true, true, true, true, true, true, true, true, true, true, true, true, true, false, false] rfl rfl (by kernel_rfl) (fun _ _ _ h => h) (Or.inl ⟨by rfl, ?_⟩) ?_ ?_
  rotate_left
  · intro w'
    go_simp
    with_reducible rfl
  rotate_left
  · simp only [Act.put, List.setIfInBounds_toArray, List.set_cons_zero, List.set_cons_succ, i64_w]
    rfl
  refine pure_ (i := 25) (N := (some 46)) (v := ?_) (a' := ?_) #[true, true, true, true, true, true, true, true, true, true, true, true, true, true, true, true, true, true, true, true, true, true, true, true, true, true, false] rfl rfl (by kernel_rfl) (fun _ _ _ h => h) (Or.inl ⟨by rfl, ?_⟩) ?_ ?_
  rotate_left
  · intro w'
    go_simp
    with_reducible rfl
  rotate_left
  · simp only [Act.put, List.setIfInBounds_toArray, List.set_cons_zero, List.set_cons_succ, i64_w]
    rfl
  refine one_ (i := 26) (N := none) #[true, true, true, true, true, true, true, true, true, true, true, true, true, true, true, true, true, true, true, true, true, true, true, true, true, true, true] rfl rfl (by kernel_rfl) (by decide) (fun K hK => ?_)
  have c5_ : w5.cell? ⟨No, 0, none⟩ = some (.bool false) := blk_cell D.out.2.2.2.2 0
  have g5_ : w5.frozen? ⟨No, 0, none⟩ = false := blk_frozen D.out.2.2.2.2 0
  go_simp
  clear c5_ g5_
  refine hK.out _ _ ⟨blk_cell (blk_far (w := w5.drewN (1 + nd6 + nd7)) (p := ⟨No, 0, none⟩) D.out.2.1 NE.out.2.1 _) 0, blk_cell (blk_far (w := w5.drewN (1 + nd6 + nd7)) (p := ⟨No, 0, none⟩) D.out.2.2.1 NE.out.2.2.1 _) 0, blk_cell (blk_far (w := w5.drewN (1 + nd6 + nd7)) (p := ⟨No, 0, none⟩) D.out.2.2.2.1 NE.out.2.2.2 _) 0, blk_cell (blk_far (w := w5.drewN (1 + nd6 + nd7)) (p := ⟨No, 0, none⟩) D.out.1 NE.out.1 _) 0⟩ (fun hHeld => ?_)
  clear hK K
  refine done_ (by kernel_rfl) ?_
  have hw8 : ∃ W, W = (w5.drewN (1 + nd6 + nd7)).setCell ⟨No, 0, none⟩ (.bool true) := ⟨_, rfl⟩
  obtain ⟨W, hW⟩ := hw8
  rw [← hW]
  have o8 : W.heap[No]? = some (.cells #[.bool true] 4 (0, 0)) := by rw [hW]; exact blk_set (w := w5.drewN (1 + nd6 + nd7)) D.out.2.2.2.2 0 _
  have c8 : W.cell? ⟨No, 0, none⟩ = some (.bool true) := blk_cell o8 0
  have HW := hid hW
  have HO := hid o8
  clear hHeld o8 hW
  go_wp2_with fail
  refine (must_c _ _).mono ?_
  rintro e w9 ⟨rfl, hw9⟩
  have hw9' := hw9.trans HW.out
  rw [hw9]
  clear hw9
  go_wp2
  first | go_end0 | refine bodyPost_ret (results_none rfl _ _ _) rfl ?_
  have hS : Sc (w5.drewN (1 + nd6 + nd7)) B l l.length := H5.out.1.keep (fun b _ => rfl)
  refine .inl ⟨l.length, rfl, by omega, by omega, ?_, ?_, ?_, HO.out, w5.drewN (1 + nd6 + nd7), H5.out.2.1.then_ (Aft.drawn ⟨⟨_, rfl⟩⟩), HW.out⟩
  · rw [HW.out]; exact hS.set_ (N := No) (w := w5.drewN (1 + nd6 + nd7)) D.out.2.2.2.2 (by decide) (by have := HFE.out; omega) 0 _
  · rw [HW.out]; exact blk_far (w := w5.drewN (1 + nd6 + nd7)) HE5.out (by have := HFE.out; show w.heap.size ≠ No; omega) _
  · simp
end Go.Proofs.Ytmcfihpbiilbcaa.H
