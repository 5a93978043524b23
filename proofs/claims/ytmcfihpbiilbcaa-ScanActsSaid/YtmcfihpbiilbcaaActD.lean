/- ScanActs: the reader (39). -/
import Derived.Test.YtmcfihpbiilbcaaActC
namespace Go.Proofs.Ytmcfihpbiilbcaa.H
open Go.RowKit Go.Proofs.YtmcfihpbiilbcaaW.PrintWords Go.Proofs.YtmcfihpbiilbcaaW.PrintLast Go.Proofs.YtmcfihpbiilbcaaW.PrintMore Go.Proofs.Ytmcfihpbiilbcaa.F
set_option linter.unusedVariables false
set_option linter.unusedSimpArgs false
theorem enter_39 (args : Array Value) (w : World) : (callFunc 39 args).run Try.prog w = .ok (.enter 39 args) w := Go.MuLone.run_callFunc_enter Try.func39 (by kernel_rfl) rfl args w
theorem aft_of {w w1 : World} {g : Nat} (h : Below w.heap.size w w1) : Aft g w w1 := ⟨h.os, h.tape, h.output, h.size, fun k hk _ => h.block k hk⟩
/-- The reader's state: the scanner, the errno's cell, the bool that it keeps. -/
structure Cl (w : World) (B KR : Nat) (b : List Int) (k : Int) (W : World) : Prop where
  sc : Sc W B b k
  errno : W.heap[w.heap.size]? = some (.cells #[.int .i64 0] 25 (0, 0))
  right : W.heap[KR]? = some (.cells #[.bool true] 4 (0, 0))
  aft : Aft KR w W
  lt : KR < w.heap.size
  gt : w.heap.size < B
theorem Cl.start {w w1 : World} {B KR : Nat} {b : List Int} (h : Fresh w w1 B b) (hR : w.heap[KR]? = some (.cells #[.bool true] 4 (0, 0))) : Cl w B KR b 0 w1 :=
  ⟨h.sc, h.cell, (h.below.block KR (blk_lt hR)).trans hR, aft_of h.below, blk_lt hR, h.lt⟩
theorem Cl.scan {w W W' : World} {B KR : Nat} {b : List Int} {k k' : Int} (h : Cl w B KR b k W) (hs : Sc W' B b k') (ha : Aft B W W') : Cl w B KR b k' W' := by
  have h1 := blk_lt h.errno
  have h2 := h.lt
  have h3 := h.gt
  have h4 := h.aft.size
  refine ⟨hs, (ha.block _ h1 (by omega)).trans h.errno, (ha.block _ (blk_lt h.right) (by omega)).trans h.right, ⟨ha.os.trans h.aft.os, ha.tape.trans h.aft.tape, ha.output.trans h.aft.output, Nat.le_trans h4 ha.size, fun j hj hne => (ha.block j (by omega) (by omega)).trans (h.aft.block j hj hne)⟩, h2, h3⟩
theorem Cl.quiet {w W W' : World} {B KR : Nat} {b : List Int} {k : Int} (h : Cl w B KR b k W) (hb : Below W.heap.size W W') : Cl w B KR b k W' := h.scan (h.sc.below hb) (aft_of hb)
theorem Cl.drew {w W : World} {B KR : Nat} {b : List Int} {k : Int} (h : Cl w B KR b k W) : Cl w B KR b k W.drew := h.scan (h.sc.keep (fun _ _ => rfl)) ⟨rfl, rfl, rfl, Nat.le_refl _, fun _ _ _ => rfl⟩
theorem Cl.store {w W : World} {B KR : Nat} {b : List Int} {k : Int} (h : Cl w B KR b k W) : Cl w B KR b k (W.setCell ⟨KR, 0, none⟩ (.bool true)) := by
  have h2 := h.lt
  have h3 := h.gt
  have h4 := h.aft
  refine ⟨h.sc.set_ h.right (by decide) (by omega) 0 _, blk_far h.errno (by show w.heap.size ≠ KR; omega) _, blk_set h.right 0 _, ⟨h4.os, h4.tape, h4.output, by simpa using h4.size, fun j hj hne => (Below.heap_setCell _ _ _ _ hne).trans (h4.block j hj hne)⟩, h2, h3⟩
def ActPost (w : World) (KR : Nat) (x : Int) (W : World) (y : Int) : Prop := y = x ∧ Aft KR w W ∧ W.heap[KR]? = some (.cells #[.bool true] 4 (0, 0))
theorem Cl.fail {w W W' : World} {B KR : Nat} {b : List Int} {k x : Int} (h : Cl w B KR b k W) (ha : Aft B W W') : ReadPost w b B (ActPost w KR x) (.panicked (fail_ x)) W' := by
  have h1 := blk_lt h.errno
  have h2 := h.lt
  have h3 := h.gt
  have h4 := h.aft.size
  exact .inr ⟨x, rfl, (ha.block _ h1 (by omega)).trans h.errno, rfl, ⟨ha.os.trans h.aft.os, ha.tape.trans h.aft.tape, ha.output.trans h.aft.output, Nat.le_trans h4 ha.size, fun j hj hne => (ha.block j (by omega) (by omega)).trans (h.aft.block j hj hne)⟩, (ha.block _ (blk_lt h.right) (by omega)).trans h.right⟩
theorem float_cut8 (B : Nat) (l : List Int) (i : Int) (w : World) (h : Sc w B l i) (h0 : 0 ≤ i) (h1 : i ≤ l.length) (h8 : (l.length : Int) < i + 8) (hl : l.length ≤ 140737488351232) :
    Calls Try.prog 43 #[.pointer (some ⟨B, 0, none⟩)] w fun e w' => e = .panicked (fail_ 2) ∧ Aft B w w' := by
  have HS := hid h
  clear h
  go_enter Try.func43, Try.ntmps43
  go_wp2_with fail
  refine (bytes_no B l i 8 _ HS.out h0 h1 hl (by omega)).mono ?_
  rintro e w2 ⟨rfl, hd⟩
  exact ⟨rfl, rfl, Aft.drawn hd⟩
set_option maxRecDepth 100000 in
set_option maxHeartbeats 4000000 in
theorem read39 (w w1 : World) (B KL KU KB KR : Nat) (b : List Int) (l : List Ac) (u x : Int) (Al Ab : Option Addr) (cl cb : Nat) (hF : Fresh w w1 B b)
    (hL : w.heap[KL]? = some (.cells #[.slice Al l.length cl] 42 (0, 0))) (hU : w.heap[KU]? = some (.cells #[.int .i64 u] 3 (0, 0))) (hBx : w.heap[KB]? = some (.cells #[.slice Ab b.length cb] 22 (0, 0))) (hR : w.heap[KR]? = some (.cells #[.bool true] 4 (0, 0)))
    (hne1 : KL ≠ KR) (hne2 : KU ≠ KR) (hne3 : KB ≠ KR) (hCl : CA w Al l) (hCb : CB w Ab b) (hcb : b.length ≤ cb) (hnl : 0 < l.length → ∀ a, Al = some a → a.block ≠ KR) (hnb : 0 < b.length → ∀ a, Ab = some a → a.block ≠ KR)
    (hby : Bytes b) (hb3 : b.length ≤ 300) (hl6 : l.length ≤ 60) (hn : ∀ a ∈ l, 0 ≤ a.2 ∧ a.2 ≤ 65535) (m : Nat) (hum : u = m) (hml : m ≤ l.length) (hok : ∀ j, j < m → errS b l j = 0)
    (hx : m = l.length ∧ x = (if posS b l m < b.length then 2 else 0) ∨ m < l.length ∧ x = errS b l m ∧ x ≠ 0) :
    Calls Try.prog 39 (#[.pointer (some ⟨B, 0, none⟩)] ++ #[.pointer (some ⟨KL, 0, none⟩), .pointer (some ⟨KU, 0, none⟩), .pointer (some ⟨KB, 0, none⟩), .pointer (some ⟨KR, 0, none⟩)]) w1 (ReadPost w b B (ActPost w KR x)) := by
  have H0 := hid (Cl.start hF hR)
  have hfact : ∀ W, Aft KR w W → W.cell? ⟨KL, 0, none⟩ = some (.slice Al l.length cl) ∧ W.cell? ⟨KU, 0, none⟩ = some (.int .i64 u) ∧ W.cell? ⟨KB, 0, none⟩ = some (.slice Ab b.length cb) ∧ CA W Al l ∧ CB W Ab b := by
    intro W k
    exact ⟨cell_aft (blk_cell hL 0) k hne1, cell_aft (blk_cell hU 0) k hne2, cell_aft (blk_cell hBx 0) k hne3, CA_aft hCl k hnl, CB_aft hCb k hnb⟩
  have HFF := hid hfact
  have HBY := hid hby
  have HN := hid hn
  have HOKS := hid hok
  have HXX := hid hx
  have HCB := hid (And.intro hCb hF.lt)
  clear hF hL hU hBx hR hCl hCb hnl hnb hfact hby hn hok hx hne1 hne2 hne3
  subst hum
  go_enter Try.func39, Try.ntmps39
  go_wp2
  go_loopw [6, 7, 8, 9] (fun s6 s7 _ _ wx => ∃ (i : Nat), i ≤ m ∧ s7 = .int .i64 i ∧ s6 = .int .i64 (posS b l i) ∧ Hid (Cl w B KR b (posS b l i) wx)) (fun _ s7 _ _ _ => l.length - (intOf s7).toNat)
  case atStart => exact ⟨0, by omega, rfl, rfl, hid H0.out⟩
  case round =>
    obtain ⟨i, hi, rfl, rfl, hI⟩ := hrel
    obtain ⟨k0, k1, k2, k3, k4⟩ := HFF.out wr hI.out.aft
    have hpos := pos_bd HBY.out HN.out i (by omega)
    have HP := hid hpos
    by_cases hlt : (i : Int) < (l.length : Int)
    · have hi1 : i < l.length := by omega
      have hst := posS_step b l i hi1
      have her := errS_at b l i hi1
      have hnn := HN.out _ (List.getElem_mem hi1)
      obtain ⟨ld, rfl, a0, a1⟩ := act_cells k3 i hi1
      have hacts : ∀ W, Aft KR w W → W.cell? ⟨KL, 0, none⟩ = some (.slice (some ld) l.length cl) ∧ W.cell? ⟨KU, 0, none⟩ = some (.int .i64 m) ∧ W.cell? ⟨KB, 0, none⟩ = some (.slice Ab b.length cb) ∧ W.cell? (ld.add (i * 2)) = some (.int .i64 l[i].1) ∧ W.cell? ⟨(ld.add (i * 2)).block, (ld.add (i * 2)).off + 1, none⟩ = some (.int .i64 l[i].2) := by
        intro W k
        obtain ⟨q0, q1, q2, q3, q4⟩ := HFF.out W k
        obtain ⟨ld2, e, p0, p1⟩ := act_cells q3 i hi1
        injection e with e
        subst e
        exact ⟨q0, q1, q2, p0, p1⟩
      generalize l[i] = E at *
      obtain ⟨d, n⟩ := E
      simp only at hst her hnn a0 a1 hacts
      obtain ⟨n0, n1⟩ := hnn
      have e3 : IntKind.i64.wrap ((i : Int) + 1) = (i : Int) + 1 := IntWalk.i64_in _ (by omega)
      have HF := hid hacts
      clear hacts
      obtain ⟨bb, hbb⟩ : ∃ bb, bb = b.drop (posS b l i).toNat := ⟨_, rfl⟩
      rw [← hbb] at hst her
      have hlb : (bb.length : Int) ≤ 300 := by rw [hbb, List.length_drop]; omega
      have hyb : Bytes bb := by rw [hbb]; exact fun x hx => HBY.out x (List.mem_of_mem_drop hx)
      by_cases hlu : (i : Int) < (m : Int)
      · have hok := HOKS.out i (by omega)
        rw [her] at hok
        have HOK := hid hok
        obtain ⟨A3, c3, hcut, hC3, hc3⟩ := cutFrom (c := cb) k4 hcb (posS b l i) hpos.1 hpos.2
        rw [← hbb] at hcut hC3 hc3
        have hcutA : ∀ W, Aft KR w W → CB W A3 bb ∧ bb.length ≤ c3 := by
          intro W k
          obtain ⟨q0, q1, q2, q3, q4⟩ := HFF.out W k
          obtain ⟨A5, c5, hcut5, hC5, hc5⟩ := cutFrom (c := cb) q4 hcb (posS b l i) hpos.1 hpos.2
          rw [← hbb] at hcut5 hC5 hc5
          have e := hcut W
          rw [hcut5 W] at e
          injection e with e
          injection e with e1 e2 e3
          rw [← e1, ← e3]
          exact ⟨hC5, hc5⟩
        have hneB : 0 < bb.length → ∀ a, A3 = some a → a.block ≠ B := by
          intro h0 a ha
          have hb0 : 0 < b.length := by rw [hbb, List.length_drop] at h0; omega
          obtain ⟨ad, had, h4⟩ := HCB.out.1.2.2 hb0
          subst had
          have := cut_block2 hcut hpos.1 hpos.2 w ha
          obtain ⟨cs, _, hK, hcc⟩ := h4 0 _ (List.getElem?_eq_getElem hb0)
          have hK' : cs = [.int .u8 b[0]] := hK
          have hlt := World.block_lt_of_cell? _ _ (hcc 0 (.int .u8 b[0]) (by rw [hK']; rfl))
          rw [add_block] at hlt
          have := HCB.out.2
          omega
        have hp64 : IntKind.i64.wrap (posS b l i + stepN bb d n) = posS b l (i + 1) := by
          rw [← hst]
          have := pos_bd HBY.out HN.out (i + 1) (by omega)
          exact IntWalk.i64_in _ (by omega)
        obtain ⟨N', hN'⟩ : ∃ N', stepN bb d n = N' := ⟨_, rfl⟩
        have HSN := hid hN'
        rw [hN'] at hp64 hst
        obtain ⟨kp, hkp⟩ : ∃ kp, posS b l (i + 1) = kp := ⟨_, rfl⟩
        rw [hkp] at hp64 hst
        have HKP := hid (And.intro hkp hst)
        generalize hq : bb.length = qb at hcut
        have HQ := hid hq
        have HBB := hid hbb
        have HCUT := hid hcutA
        have HNE := hid hneB
        have HLB := hid hlb
        have HYB := hid hyb
        have HD := hid hI.out.drew
        clear hok hC3 hc3 hcutA hneB hN' hkp hst her hq hbb hlb hyb k3 k4 hpos
        go_wp2
        refine start_ (n := 13) (S := fun W => ∃ k, Cl w B KR b k W) (ds := [12]) #[false, false, false, false, false, false, false, false, false, false, false, false, false] (by kernel_rfl) rfl rfl ⟨_, HD.out⟩ (fun hHeld => ?_)
        refine pure_ (i := 0) (N := (some 19)) (v := ?_) (a' := ?_) #[true, false, false, false, false, false, false, false, false, false, false, false, false] rfl rfl (by kernel_rfl) (fun _ _ _ h => h) (Or.inl ⟨by rfl, ?_⟩) ?_ ?_
        rotate_left
        · intro w'
          go_simp
          with_reducible rfl
        rotate_left
        · simp only [Act.put, List.setIfInBounds_toArray, List.set_cons_zero, List.set_cons_succ, i64_w]
          rfl
        refine take_ (i := 1) (N := (some 20)) (v := ?_) (a' := ?_) #[true, true, false, false, false, false, false, false, false, false, false, false, false] rfl rfl (by kernel_rfl) (fun _ _ _ h => h) (Or.inl ⟨by rfl, ?_⟩) hHeld ?_ ?_
        rotate_left
        · rintro w' ⟨kk, s0⟩; obtain ⟨c0, c1, c2, c3, c4⟩ := HF.out w' s0.aft; have c5 : w'.cell? ⟨KR, 0, none⟩ = some (.bool true) := blk_cell s0.right 0
          go_simp
          with_reducible rfl
        rotate_left
        · simp only [Act.put, List.setIfInBounds_toArray, List.set_cons_zero, List.set_cons_succ, i64_w]
          rfl
        refine pure_ (i := 2) (N := (some 21)) (v := ?_) (a' := ?_) #[true, true, true, false, false, false, false, false, false, false, false, false, false] rfl rfl (by kernel_rfl) (fun _ _ _ h => h) (Or.inl ⟨by rfl, ?_⟩) ?_ ?_
        rotate_left
        · intro w'
          go_simp
          with_reducible rfl
        rotate_left
        · simp only [Act.put, List.setIfInBounds_toArray, List.set_cons_zero, List.set_cons_succ, i64_w]
          rfl
        refine pure_ (i := 3) (N := (some 22)) (v := ?_) (a' := ?_) #[true, true, true, true, false, false, false, false, false, false, false, false, false] rfl rfl (by kernel_rfl) (fun _ _ _ h => h) (Or.inl ⟨by rfl, ?_⟩) ?_ ?_
        rotate_left
        · intro w'
          go_simp
          with_reducible rfl
        rotate_left
        · simp only [Act.put, List.setIfInBounds_toArray, List.set_cons_zero, List.set_cons_succ, i64_w]
          rfl
        refine take_ (i := 4) (N := (some 23)) (v := ?_) (a' := ?_) #[true, true, true, true, true, false, false, false, false, false, false, false, false] rfl rfl (by kernel_rfl) (fun _ _ _ h => h) (Or.inl ⟨by rfl, ?_⟩) hHeld ?_ ?_
        rotate_left
        · rintro w' ⟨kk, s0⟩; obtain ⟨c0, c1, c2, c3, c4⟩ := HF.out w' s0.aft; have c5 : w'.cell? ⟨KR, 0, none⟩ = some (.bool true) := blk_cell s0.right 0
          go_simp
          with_reducible rfl
        rotate_left
        · simp only [Act.put, List.setIfInBounds_toArray, List.set_cons_zero, List.set_cons_succ, i64_w]
          rfl
        refine pure_ (i := 5) (N := (some 24)) (v := ?_) (a' := ?_) #[true, true, true, true, true, true, false, false, false, false, false, false, false] rfl rfl (by kernel_rfl) (fun _ _ _ h => h) (Or.inl ⟨by rfl, ?_⟩) ?_ ?_
        rotate_left
        · intro w'
          go_simp
          with_reducible rfl
        rotate_left
        · simp only [Act.put, List.setIfInBounds_toArray, List.set_cons_zero, List.set_cons_succ, i64_w]
          rfl
        refine pure_ (i := 6) (N := (some 25)) (v := ?_) (a' := ?_) #[true, true, true, true, true, true, true, false, false, false, false, false, false] rfl rfl (by kernel_rfl) (fun _ _ _ h => h) (Or.inl ⟨by rfl, ?_⟩) ?_ ?_
        rotate_left
        · intro w'
          go_simp
          with_reducible rfl
        rotate_left
        · simp only [Act.put, List.setIfInBounds_toArray, List.set_cons_zero, List.set_cons_succ, i64_w]
          rfl
        refine take_ (i := 7) (N := (some 26)) (v := ?_) (a' := ?_) #[true, true, true, true, true, true, true, true, false, false, false, false, false] rfl rfl (by kernel_rfl) (fun _ _ _ h => h) (Or.inl ⟨by rfl, ?_⟩) hHeld ?_ ?_
        rotate_left
        · rintro w' ⟨kk, s0⟩; obtain ⟨c0, c1, c2, c3, c4⟩ := HF.out w' s0.aft; have c5 : w'.cell? ⟨KR, 0, none⟩ = some (.bool true) := blk_cell s0.right 0
          go_simp
          with_reducible rfl
        rotate_left
        · simp only [Act.put, List.setIfInBounds_toArray, List.set_cons_zero, List.set_cons_succ, i64_w]
          rfl
        refine one_ (i := 8) (N := (some 27)) #[true, true, true, true, true, true, true, true, true, false, false, false, false] rfl rfl (by kernel_rfl) (by decide) (fun K hK => ?_)
        refine goes_ Try.func40 (by kernel_rfl) rfl #[.pointer (some ⟨B, 0, none⟩), .slice A3 qb c3, .agg #[.int .i64 d, .int .i64 n]] (by rfl) rfl rfl (by first | rfl | (simp only [List.map_toArray, List.map_cons, List.map_nil]; rfl)) ?_
        rw [← HQ.out]
        refine (does_c B b bb (posS b l i) A3 c3 d n _ HD.out.sc HP.out.1 HP.out.2 (by omega) HBY.out HBB.out (HCUT.out _ HD.out.aft).1 (HCUT.out _ HD.out.aft).2 HNE.out n0 n1 HOK.out).mono ?_
        rintro e' wA ⟨rfl, hs, ha⟩
        have HA := hid (HD.out.scan hs ha)
        clear hs ha
        refine ⟨_, rfl, ?_⟩
        refine hK.out _ _ ⟨_, HA.out⟩ (fun hHeld => ?_)
        clear hK K
        refine norm_ (a' := ?_) ?_ ?_
        rotate_left
        · show Act.put _ (some 27) _ = _
          simp only [Act.put, List.setIfInBounds_toArray, List.set_cons_zero, List.set_cons_succ, i64_w]
          rfl
        refine pure_ (i := 9) (N := (some 28)) (v := ?_) (a' := ?_) #[true, true, true, true, true, true, true, true, true, true, false, false, false] rfl rfl (by kernel_rfl) (fun _ _ _ h => h) (Or.inl ⟨by rfl, ?_⟩) ?_ ?_
        rotate_left
        · intro w'
          go_simp
          with_reducible rfl
        rotate_left
        · simp only [Act.put, List.setIfInBounds_toArray, List.set_cons_zero, List.set_cons_succ, i64_w]
          rfl
        refine take_ (i := 10) (N := (some 29)) (v := ?_) (a' := ?_) #[true, true, true, true, true, true, true, true, true, true, true, false, false] rfl rfl (by kernel_rfl) (fun _ _ _ h => h) (Or.inl ⟨by rfl, ?_⟩) hHeld ?_ ?_
        rotate_left
        · rintro w' ⟨kk, s0⟩; obtain ⟨c0, c1, c2, c3, c4⟩ := HF.out w' s0.aft; have c5 : w'.cell? ⟨KR, 0, none⟩ = some (.bool true) := blk_cell s0.right 0
          go_simp
          with_reducible rfl
        rotate_left
        · simp only [Act.put, List.setIfInBounds_toArray, List.set_cons_zero, List.set_cons_succ, i64_w]
          rfl
        refine pure_ (i := 11) (N := (some 30)) (v := ?_) (a' := ?_) #[true, true, true, true, true, true, true, true, true, true, true, true, false] rfl rfl (by kernel_rfl) (fun _ _ _ h => h) (Or.inl ⟨by rfl, ?_⟩) ?_ ?_
        rotate_left
        · intro w'
          go_simp
          with_reducible rfl
        rotate_left
        · simp only [Act.put, List.setIfInBounds_toArray, List.set_cons_zero, List.set_cons_succ, i64_w]
          rfl
        refine last_ (i := 12) (N := none) #[true, true, true, true, true, true, true, true, true, true, true, true, true] rfl rfl (by kernel_rfl) (by decide) (fun K hK => ?_)
        have c6_ : wA.cell? ⟨KR, 0, none⟩ = some (.bool true) := blk_cell HA.out.right 0
        have g6_ : wA.frozen? ⟨KR, 0, none⟩ = false := blk_frozen HA.out.right 0
        go_simp
        clear c6_ g6_
        refine hK.out _ _ ?_
        clear hK K
        refine done_ (by kernel_rfl) ?_
        go_wp2
        have HE := hid HA.out.store.drew
        refine start_ (n := 13) (S := fun W => ∃ k, Cl w B KR b k W) (ds := []) #[false, false, false, false, false, false, false, false, false, false, false, false, false] (by kernel_rfl) rfl rfl ⟨_, HE.out⟩ (fun hHeld => ?_)
        refine take_ (i := 0) (N := (some 32)) (v := ?_) (a' := ?_) #[true, false, false, false, false, false, false, false, false, false, false, false, false] rfl rfl (by kernel_rfl) (fun _ _ _ h => h) (Or.inl ⟨by rfl, ?_⟩) hHeld ?_ ?_
        rotate_left
        · rintro w' ⟨kk, s0⟩; obtain ⟨c0, c1, c2, c3, c4⟩ := HF.out w' s0.aft
          go_simp
          with_reducible rfl
        rotate_left
        · simp only [Act.put, List.setIfInBounds_toArray, List.set_cons_zero, List.set_cons_succ, i64_w]
          rfl
        refine pure_ (i := 1) (N := (some 33)) (v := ?_) (a' := ?_) #[true, true, false, false, false, false, false, false, false, false, false, false, false] rfl rfl (by kernel_rfl) (fun _ _ _ h => h) (Or.inl ⟨by rfl, ?_⟩) ?_ ?_
        rotate_left
        · intro w'
          go_simp
          with_reducible rfl
        rotate_left
        · simp only [Act.put, List.setIfInBounds_toArray, List.set_cons_zero, List.set_cons_succ, i64_w]
          rfl
        refine pure_ (i := 2) (N := (some 34)) (v := ?_) (a' := ?_) #[true, true, true, false, false, false, false, false, false, false, false, false, false] rfl rfl (by kernel_rfl) (fun _ _ _ h => h) (Or.inl ⟨by rfl, ?_⟩) ?_ ?_
        rotate_left
        · intro w'
          go_simp
          with_reducible rfl
        rotate_left
        · simp only [Act.put, List.setIfInBounds_toArray, List.set_cons_zero, List.set_cons_succ, i64_w]
          rfl
        refine take_ (i := 3) (N := (some 35)) (v := ?_) (a' := ?_) #[true, true, true, true, false, false, false, false, false, false, false, false, false] rfl rfl (by kernel_rfl) (fun _ _ _ h => h) (Or.inl ⟨by rfl, ?_⟩) hHeld ?_ ?_
        rotate_left
        · rintro w' ⟨kk, s0⟩; obtain ⟨c0, c1, c2, c3, c4⟩ := HF.out w' s0.aft
          go_simp
          with_reducible rfl
        rotate_left
        · simp only [Act.put, List.setIfInBounds_toArray, List.set_cons_zero, List.set_cons_succ, i64_w]
          rfl
        refine pure_ (i := 4) (N := (some 36)) (v := ?_) (a' := ?_) #[true, true, true, true, true, false, false, false, false, false, false, false, false] rfl rfl (by kernel_rfl) (fun _ _ _ h => h) (Or.inl ⟨by rfl, ?_⟩) ?_ ?_
        rotate_left
        · intro w'
          go_simp
          with_reducible rfl
        rotate_left
        · simp only [Act.put, List.setIfInBounds_toArray, List.set_cons_zero, List.set_cons_succ, i64_w]
          rfl
        refine pure_ (i := 5) (N := (some 37)) (v := ?_) (a' := ?_) #[true, true, true, true, true, true, false, false, false, false, false, false, false] rfl rfl (by kernel_rfl) (fun _ _ _ h => h) (Or.inl ⟨by rfl, ?_⟩) ?_ ?_
        rotate_left
        · intro w'
          go_simp
          with_reducible rfl
        rotate_left
        · simp only [Act.put, List.setIfInBounds_toArray, List.set_cons_zero, List.set_cons_succ, i64_w]
          rfl
        refine take_ (i := 6) (N := (some 38)) (v := ?_) (a' := ?_) #[true, true, true, true, true, true, true, false, false, false, false, false, false] rfl rfl (by kernel_rfl) (fun _ _ _ h => h) (Or.inl ⟨by rfl, ?_⟩) hHeld ?_ ?_
        rotate_left
        · rintro w' ⟨kk, s0⟩; obtain ⟨c0, c1, c2, c3, c4⟩ := HF.out w' s0.aft
          go_simp
          with_reducible rfl
        rotate_left
        · simp only [Act.put, List.setIfInBounds_toArray, List.set_cons_zero, List.set_cons_succ, i64_w]
          rfl
        refine one_ (i := 7) (N := (some 39)) #[true, true, true, true, true, true, true, true, false, false, false, false, false] rfl rfl (by kernel_rfl) (by decide) (fun K hK => ?_)
        refine goes_ Try.func38 (by kernel_rfl) rfl #[.slice A3 qb c3, .agg #[.int .i64 d, .int .i64 n]] (by rfl) rfl rfl (by first | rfl | (simp only [List.map_toArray, List.map_cons, List.map_nil]; rfl)) ?_
        rw [← HQ.out]
        refine (step_c A3 c3 bb d n _ (HCUT.out _ HE.out.aft).1 (HCUT.out _ HE.out.aft).2 HYB.out (by have := HLB.out; omega) n0 n1).mono ?_
        rintro e' wC ⟨rfl, hb⟩
        rw [HSN.out, HOK.out]
        have HG := hid (HE.out.quiet hb)
        clear hb
        refine ⟨_, rfl, ?_⟩
        refine hK.out _ _ ⟨_, HG.out⟩ (fun hHeld => ?_)
        clear hK K
        refine norm_ (a' := ?_) ?_ ?_
        rotate_left
        · show Act.put _ (some 39) _ = _
          simp only [Act.put, List.setIfInBounds_toArray, List.set_cons_zero, List.set_cons_succ, i64_w]
          rfl
        refine pure_ (i := 8) (N := (some 31)) (v := ?_) (a' := ?_) #[true, true, true, true, true, true, true, true, true, false, false, false, false] rfl rfl (by kernel_rfl) (fun _ _ _ h => h) (Or.inl ⟨by rfl, ?_⟩) ?_ ?_
        rotate_left
        · intro w'
          go_simp
          with_reducible rfl
        rotate_left
        · simp only [Act.put, List.setIfInBounds_toArray, List.set_cons_zero, List.set_cons_succ, i64_w]
          rfl
        refine pure_ (i := 9) (N := (some 40)) (v := ?_) (a' := ?_) #[true, true, true, true, true, true, true, true, true, true, false, false, false] rfl rfl (by kernel_rfl) (fun _ _ _ h => h) (Or.inl ⟨by rfl, ?_⟩) ?_ ?_
        rotate_left
        · intro w'
          go_simp
          with_reducible rfl
        rotate_left
        · simp only [Act.put, List.setIfInBounds_toArray, List.set_cons_zero, List.set_cons_succ, i64_w]
          rfl
        refine pure_ (i := 10) (N := (some 41)) (v := ?_) (a' := ?_) #[true, true, true, true, true, true, true, true, true, true, true, false, false] rfl rfl (by kernel_rfl) (fun _ _ _ h => h) (Or.inl ⟨by rfl, ?_⟩) ?_ ?_
        rotate_left
        · intro w'
          go_simp
          with_reducible rfl
        rotate_left
        · simp only [Act.put, List.setIfInBounds_toArray, List.set_cons_zero, List.set_cons_succ, i64_w]
          rfl
        refine pure_ (i := 11) (N := (some 8)) (v := ?_) (a' := ?_) #[true, true, true, true, true, true, true, true, true, true, true, true, false] rfl rfl (by kernel_rfl) (fun _ _ _ h => h) (Or.inl ⟨by rfl, ?_⟩) ?_ ?_
        rotate_left
        · intro w'
          go_simp
          with_reducible rfl
        rotate_left
        · simp only [Act.put, List.setIfInBounds_toArray, List.set_cons_zero, List.set_cons_succ, i64_w]
          rfl
        refine pure_ (i := 12) (N := (some 9)) (v := ?_) (a' := ?_) #[true, true, true, true, true, true, true, true, true, true, true, true, true] rfl rfl (by kernel_rfl) (fun _ _ _ h => h) (Or.inl ⟨by rfl, ?_⟩) ?_ ?_
        rotate_left
        · intro w'
          go_simp
          with_reducible rfl
        rotate_left
        · simp only [Act.put, List.setIfInBounds_toArray, List.set_cons_zero, List.set_cons_succ, i64_w]
          rfl
        refine done_ (by kernel_rfl) ?_
        go_wp2
        go_roundw
        case rel =>
          refine ⟨i + 1, by omega, by go_num, by rw [HKP.out.1], hid ?_⟩
          have h := HG.out
          rw [HSN.out, ← HKP.out.2, ← HKP.out.1] at h
          exact h
        case measure => simp [intOf]; omega
      · have him : i = m := by omega
        subst him
        have hxx : x = stepE bb d n ∧ x ≠ 0 := by
          rcases HXX.out with ⟨h1, _⟩ | ⟨_, h2, h3⟩
          · omega
          · exact ⟨h2.trans her, h3⟩
        obtain ⟨hx1, hx0⟩ := hxx
        have hbl : (bb.length : Int) ≤ b.length - posS b l i := by rw [hbb, List.length_drop]; omega
        have hbl2 : (b.length : Int) - posS b l i ≤ bb.length := by rw [hbb, List.length_drop]; omega
        have hmid : ∀ j k : Int, 0 ≤ j → 0 ≤ k → mid bb j k = mid b (posS b l i + j) k := fun j k hj hk => by rw [hbb]; exact mid_drop b _ j k hpos.1 hj hk
        obtain ⟨pp, hpp⟩ : ∃ p, posS b l i = p := ⟨_, rfl⟩
        rw [hpp] at hI hpos hbl hbl2 hmid ⊢
        clear hbb hst her k3 k4 HP HFF HF HXX HOKS hpp
        by_cases hs : (bb.length : Int) < need bb d n
        · have hE := stepE_s hs
          rw [hE] at hx1
          subst hx1
          clear hE
          by_cases g0 : d = 0
          · subst g0
            rw [need0] at hs
            have e2 : IntKind.i64.wrap (1 + n % 4) = 1 + n % 4 := IntWalk.i64_in _ (by omega)
            clear hmid
            go_wp2_with fail
            refine (number_no B b pp (1 + n % 4) _ hI.out.sc hpos.1 hpos.2 (by omega) (by omega)).mono ?_
            rintro e' wA ⟨rfl, hd⟩
            exact ⟨rfl, hI.out.fail (Aft.drawn hd)⟩
          by_cases g1 : d = 1
          · subst g1
            rw [need1] at hs
            clear hmid
            go_wp2_with fail
            refine (bytes_no B b pp n _ hI.out.sc hpos.1 hpos.2 (by omega) (by omega)).mono ?_
            rintro e' wA ⟨rfl, hd⟩
            exact ⟨rfl, hI.out.fail (Aft.drawn hd)⟩
          by_cases g2 : d = 2
          · subst g2
            rw [need2] at hs
            by_cases h0 : (bb.length : Int) = 0
            · clear hmid
              go_wp2_with fail
              refine (name_cut1 B b pp _ hI.out.sc hpos.1 (by omega) (by omega)).mono ?_
              rintro e' wA ⟨rfl, hd⟩
              exact ⟨rfl, hI.out.fail hd⟩
            · have hz : nameLen b pp = nameLen bb 0 := by
                unfold nameLen
                rw [hmid 0 1 (by omega) (by omega), Int.add_zero]
              have HZ := hid (And.intro hz hs)
              clear hmid hz hs
              go_wp2_with fail
              refine (name_cut2 B b pp _ hI.out.sc hpos.1 (by omega) (by rw [HZ.out.1]; have := HZ.out.2; omega) (by omega) HBY.out).mono ?_
              rintro e' wA ⟨rfl, hd⟩
              exact ⟨rfl, hI.out.fail hd⟩
          by_cases g3 : d = 3
          · subst g3
            rw [need3] at hs
            clear hmid
            go_wp2_with fail
            refine (float_cut8 B b pp _ hI.out.sc hpos.1 hpos.2 (by omega) (by omega)).mono ?_
            rintro e' wA ⟨rfl, hd⟩
            exact ⟨rfl, hI.out.fail hd⟩
          by_cases g4 : d = 4
          · subst g4
            rw [need4] at hs
            clear hmid
            go_wp2_with fail
            refine (count_cut B b pp n _ hI.out.sc hpos.1 hpos.2 (by omega) (by omega)).mono ?_
            rintro e' wA ⟨rfl, hd⟩
            exact ⟨rfl, hI.out.fail hd⟩
          rw [needx bb d n g0 g1 g2 g3 g4] at hs
          omega
        · cases hbd : badB bb d n
          · exact absurd (hx1.trans (stepE_k hs hbd)) hx0
          · have hE := stepE_b hs hbd
            rw [hE] at hx1
            subst hx1
            clear hE
            by_cases g2 : d = 2
            · subst g2
              rw [need2] at hs
              rw [bad2] at hbd
              have hz : nameLen b pp = nameLen bb 0 := by
                unfold nameLen
                rw [hmid 0 1 (by omega) (by omega), Int.add_zero]
              have hnl := nameLen_nn hyb 0
              have hnm : nameOf b pp = nameOf bb 0 := by
                unfold nameOf
                rw [hz, hmid (0 + 1) _ (by omega) hnl, show pp + (0 + 1) = pp + 1 by omega]
              have hbf : namedB (nameOf b pp) = false := by rw [hnm]; simpa using hbd
              have HZ := hid (And.intro hz (And.intro hs (And.intro hbf hnl)))
              clear hmid hz hs hbf hnm hbd hnl
              go_wp2_with fail
              refine (name_form B b pp _ hI.out.sc hpos.1 (by have h1 := HZ.out.2.1; have h2 := HZ.out.2.2.2; omega) (by rw [HZ.out.1]; have h1 := HZ.out.2.1; omega) (by rw [HZ.out.1]; exact HZ.out.2.2.2) (by omega) HBY.out HZ.out.2.2.1).mono ?_
              rintro e' wA ⟨rfl, hd⟩
              exact ⟨rfl, hI.out.fail hd⟩
            by_cases g4 : d = 4
            · subst g4
              rw [need4] at hs
              rw [bad4] at hbd
              have hlt4 := of_decide_eq_true hbd
              rw [hmid 0 2 (by omega) (by omega), Int.add_zero] at hlt4
              have HZ := hid hlt4
              clear hmid hbd hlt4
              go_wp2_with fail
              refine (count_form B b pp n _ hI.out.sc hpos.1 (by omega) (by omega) HBY.out HZ.out).mono ?_
              rintro e' wA ⟨rfl, hd⟩
              exact ⟨rfl, hI.out.fail hd⟩
            rw [bad_no g2 g4] at hbd
            cases hbd
    · have hil : i = l.length := by omega
      have him : i = m := by omega
      subst him
      have hx1 : x = (if posS b l i < b.length then 2 else 0) := by
        rcases HXX.out with ⟨_, h1⟩ | ⟨h2, _⟩
        · exact h1
        · omega
      have HX1 := hid hx1
      clear hx1 HXX
      go_wp2
      first | go_end0 | refine bodyPost_ret (results_none rfl _ _ _) rfl ?_
      exact .inl ⟨posS b l i, rfl, HP.out.1, HP.out.2, hI.out.sc, hI.out.errno, HX1.out.symm, hI.out.aft, hI.out.right⟩
end Go.Proofs.Ytmcfihpbiilbcaa.H
