/- ScanActs' walk. -/
import Derived.Test.YtmcfihpbiilbcaaActD
namespace Go.Proofs.Ytmcfihpbiilbcaa.H
open Go.RowKit Go.Proofs.YtmcfihpbiilbcaaW.PrintWords Go.Proofs.YtmcfihpbiilbcaaW.PrintLast Go.Proofs.YtmcfihpbiilbcaaW.PrintMore Go.Proofs.Ytmcfihpbiilbcaa.F
set_option linter.unusedVariables false
set_option linter.unusedSimpArgs false
theorem KA_mk (w : World) (a : Ac) : KA.K w a (aCells a) := ⟨[.int .i64 a.1], [.int .i64 a.2], rfl, rfl, rfl⟩
theorem rowA_lt {w : World} {A : Option Addr} {l : List Ac} (h : CA w A l) (h0 : 0 < l.length) {a : Addr} (ha : A = some a) : a.block < w.heap.size := by
  obtain ⟨ad, had, c0, _⟩ := act_cells h 0 h0
  subst had
  injection ha with ha
  subst ha
  have := World.block_lt_of_cell? _ _ c0
  rwa [add_block] at this
theorem rowB_lt {w : World} {A : Option Addr} {l : List Int} (h : CB w A l) (h0 : 0 < l.length) {a : Addr} (ha : A = some a) : a.block < w.heap.size := by
  obtain ⟨ad, had, h4⟩ := h.2.2 h0
  subst had
  injection ha with ha
  subst ha
  obtain ⟨cs, _, hK, hcc⟩ := h4 0 _ (List.getElem?_eq_getElem h0)
  have hK' : cs = [.int .u8 l[0]] := hK
  have := World.block_lt_of_cell? _ _ (hcc 0 (.int .u8 l[0]) (by rw [hK']; rfl))
  rwa [add_block] at this
/-- How far the second loop has come: k acts are right; what is wanted; up to where. -/
def Way (b : List Int) (l : List Ac) (i k : Nat) (want : Int) (u : Int) : Prop :=
  (∀ j, j < k → errS b l j = 0) ∧ k ≤ l.length ∧ (want = 0 ∧ k = i ∧ (u = i ∨ i = 0 ∧ u = l.length) ∨ want ≠ 0 ∧ i = k + 1 ∧ k < l.length ∧ errS b l k = want ∧ u = k)
theorem way_ok {b : List Int} {l : List Ac} {i : Nat} {u : Int} (hi : i < l.length) {k : Nat} (h : Way b l i k 0 u) (he : errS b l i = 0) : Way b l (i + 1) (i + 1) 0 ((i : Int) + 1) := by
  obtain ⟨h1, h2, h3 | h3⟩ := h
  · obtain ⟨_, rfl, _⟩ := h3
    refine ⟨fun j hj => ?_, by omega, .inl ⟨rfl, rfl, .inl (by omega)⟩⟩
    by_cases hjk : j < k
    · exact h1 j hjk
    · have : j = k := by omega
      rw [this]; exact he
  · exact absurd rfl h3.1
theorem way_no {b : List Int} {l : List Ac} {i : Nat} {u : Int} (hi : i < l.length) {k : Nat} (h : Way b l i k 0 u) {e : Int} (he : errS b l i = e) (h0 : e ≠ 0) : Way b l (i + 1) i e i := by
  obtain ⟨h1, h2, h3 | h3⟩ := h
  · obtain ⟨_, rfl, _⟩ := h3
    exact ⟨h1, h2, .inr ⟨h0, rfl, hi, he, rfl⟩⟩
  · exact absurd rfl h3.1
set_option maxRecDepth 100000 in
set_option maxHeartbeats 1000000 in
theorem acts_big (Ab Al : Option Addr) (cb cl : Nat) (b : List Int) (l : List Ac) (w : World) (hbig : (300 : Int) < (b.length : Int) ∨ ¬ (300 : Int) < (b.length : Int) ∧ (60 : Int) < (l.length : Int)) :
    Calls Try.prog 6 #[.slice Ab b.length cb, .slice Al l.length cl] w fun e w' => e = .returned (.bool true) ∧ Below w.heap.size w w' := by
  obtain ⟨W2, hW2⟩ : ∃ W, W = (w.alloc (.cells #[.slice Ab b.length cb] 22)).alloc (.cells #[.slice Al l.length cl] 42) := ⟨_, rfl⟩
  have d0 := blk_alloc (blk_new w (.cells #[.slice Ab b.length cb] 22)) (.cells #[.slice Al l.length cl] 42)
  have d1 := blk_new_at (w.alloc (.cells #[.slice Ab b.length cb] 22)) (.cells #[.slice Al l.length cl] 42) (w.heap.size + 1) (by simp)
  have hb := below_alloc (below_alloc (Below.refl w.heap.size w) (.cells #[.slice Ab b.length cb] 22)) (.cells #[.slice Al l.length cl] 42)
  rw [← hW2] at d0 d1 hb
  have HW := hid hW2
  have H0 := hid (And.intro hb (And.intro d0 d1))
  clear hb d0 d1 hW2
  rcases hbig with h1 | ⟨h1, h2⟩
  · go_enter Try.func6, Try.ntmps6
    go_wp2_with fail
    rw [← HW.out]
    refine (awake_c _).mono ?_
    rintro e w1 ⟨rfl, hb⟩
    have k0 : w1.cell? ⟨w.heap.size, 0, none⟩ = some (.slice Ab b.length cb) := blk_cell (blk_below H0.out.2.1 hb) 0
    have k1 : w1.cell? ⟨w.heap.size + 1, 0, none⟩ = some (.slice Al l.length cl) := blk_cell (blk_below H0.out.2.2 hb) 0
    have H1 := hid (below_step H0.out.1 hb)
    clear hb
    go_wp2_with fail
    refine (awake_c _).mono ?_
    rintro e w2 ⟨rfl, hb⟩
    have H2 := hid (below_step H1.out hb)
    clear hb
    go_wp2
    go_ret
    exact ⟨rfl, H2.out⟩
  · go_enter Try.func6, Try.ntmps6
    go_wp2_with fail
    rw [← HW.out]
    refine (awake_c _).mono ?_
    rintro e w1 ⟨rfl, hb⟩
    have k0 : w1.cell? ⟨w.heap.size, 0, none⟩ = some (.slice Ab b.length cb) := blk_cell (blk_below H0.out.2.1 hb) 0
    have k1 : w1.cell? ⟨w.heap.size + 1, 0, none⟩ = some (.slice Al l.length cl) := blk_cell (blk_below H0.out.2.2 hb) 0
    have H1 := hid (below_step H0.out.1 hb)
    clear hb
    go_wp2_with fail
    refine (awake_c _).mono ?_
    rintro e w2 ⟨rfl, hb⟩
    have H2 := hid (below_step H1.out hb)
    clear hb
    go_wp2
    go_ret
    exact ⟨rfl, H2.out⟩
set_option maxRecDepth 100000 in
set_option maxHeartbeats 4000000 in
theorem acts_small (Ab Al : Option Addr) (cb cl : Nat) (b : List Int) (l : List Ac) (w : World) (hCb : CB w Ab b) (hcb : b.length ≤ cb) (hby : Bytes b) (hCl : CA w Al l) (hcl : l.length ≤ cl) (n1 : ¬ (300 : Int) < (b.length : Int)) (n2 : ¬ (60 : Int) < (l.length : Int)) :
    Calls Try.prog 6 #[.slice Ab b.length cb, .slice Al l.length cl] w fun e w' => e = .returned (.bool true) ∧ Below w.heap.size w w' := by
  have hmf : ∀ (fn : Fn) (first cap : Array Value) (w : World), (Instr.makeFunc fn first cap).run Try.prog w = .ok (.func fn first cap) w := fun _ _ _ _ => rfl
  obtain ⟨W2, hW2⟩ : ∃ W, W = (w.alloc (.cells #[.slice Ab b.length cb] 22)).alloc (.cells #[.slice Al l.length cl] 42) := ⟨_, rfl⟩
  have d0 := blk_alloc (blk_new w (.cells #[.slice Ab b.length cb] 22)) (.cells #[.slice Al l.length cl] 42)
  have d1 := blk_new_at (w.alloc (.cells #[.slice Ab b.length cb] 22)) (.cells #[.slice Al l.length cl] 42) (w.heap.size + 1) (by simp)
  have hb := below_alloc (below_alloc (Below.refl w.heap.size w) (.cells #[.slice Ab b.length cb] 22)) (.cells #[.slice Al l.length cl] 42)
  rw [← hW2] at d0 d1 hb
  have HW := hid hW2
  have H0 := hid (And.intro hb (And.intro d0 d1))
  have HC := hid (And.intro hCb hCl)
  have HBY := hid hby
  clear hb d0 d1 hW2 hCb hCl hby
  go_enter Try.func6, Try.ntmps6
  go_wp2_with fail
  rw [← HW.out]
  refine (awake_c _).mono ?_
  rintro e w1 ⟨rfl, hb⟩
  have e0 := blk_below H0.out.2.1 hb
  have e1 := blk_below H0.out.2.2 hb
  have hB1 := below_step H0.out.1 hb
  have k0 : w1.cell? ⟨w.heap.size, 0, none⟩ = some (.slice Ab b.length cb) := blk_cell e0 0
  have k1 : w1.cell? ⟨w.heap.size + 1, 0, none⟩ = some (.slice Al l.length cl) := blk_cell e1 0
  have H1 := hid (And.intro hB1 (And.intro e0 e1))
  have hlt1 := blk_lt e1
  clear hb e0 e1 hB1 H0 HW
  go_wp2
  go_loopw [5] (fun s5 wx => ∃ (i : Nat), i ≤ l.length ∧ s5 = .int .i64 i ∧ wx = w1 ∧ Hid (∀ a ∈ l.take i, 0 ≤ a.2 ∧ a.2 ≤ 65535)) (fun s5 _ => l.length - (intOf s5).toNat)
  case atStart => exact ⟨0, by omega, rfl, rfl, hid (fun a ha => by simp at ha)⟩
  case round =>
    obtain ⟨i, hi, rfl, hw, hI⟩ := hrel
    have hw' := hw.symm
    clear hw
    subst hw'
    by_cases hlt : (i : Int) < (l.length : Int)
    · have hi1 : i < l.length := by omega
      obtain ⟨ld, rfl, a0, a1⟩ := act_cells (Kd.C_below HC.out.2 H1.out.1) i hi1
      have htk : ∀ a ∈ l.take (i + 1), a ∈ l.take i ∨ a = l[i] := by
        intro a ha
        rw [List.take_add_one, List.getElem?_eq_getElem hi1] at ha
        rcases List.mem_append.1 ha with h | h
        · exact .inl h
        · exact .inr (List.mem_singleton.1 h)
      generalize l[i] = E at *
      obtain ⟨d, n⟩ := E
      simp only at a0 a1
      have e3 : IntKind.i64.wrap ((i : Int) + 1) = (i : Int) + 1 := IntWalk.i64_in _ (by omega)
      have HT := hid htk
      clear htk
      by_cases h0 : n < 0
      · go_wp2
        go_ret
        exact ⟨rfl, H1.out.1⟩
      · by_cases h6 : 65535 < n
        · go_wp2
          go_ret
          exact ⟨rfl, H1.out.1⟩
        · go_wp2
          go_roundw
          case rel => exact ⟨i + 1, by omega, by go_num, by first | rfl | trivial, hid (fun a ha => (HT.out a ha).elim (hI.out a) (fun e => by rw [e]; exact ⟨by omega, by omega⟩))⟩
          case measure => simp [intOf]; omega
    · have hil : i = l.length := by omega
      subst hil
      have hn := hI.out
      rw [List.take_length] at hn
      have HN := hid hn
      clear hn hI
      go_wp2
      obtain ⟨w2, hw2⟩ : ∃ W, W = w1.alloc (.cells #[.int .i64 l.length] 3) := ⟨_, rfl⟩
      have hbk := blk_new w1 (.cells #[.int .i64 l.length] 3)
      have hB2 := below_alloc (Below.refl w1.heap.size w1) (.cells #[.int .i64 l.length] 3)
      rw [← hw2] at hbk hB2 ⊢
      have H2 := hid (And.intro hbk hB2)
      clear hbk hB2 hw2
      go_loopw [6, 7, 9, 10, 11] (fun s6 s7 s9 _ _ wx => ∃ (i k : Nat) (want uu : Int), i ≤ l.length ∧ s9 = .int .i64 i ∧ s6 = .int .i64 (posS b l k) ∧ s7 = .int .i64 want ∧ Hid (Way b l i k want uu ∧ wx.heap[w1.heap.size]? = some (.cells #[.int .i64 uu] 3 (0, 0)) ∧ Below w1.heap.size w1 wx)) (fun _ _ s9 _ _ _ => l.length - (intOf s9).toNat)
      case atStart => exact ⟨0, 0, 0, l.length, by omega, rfl, rfl, rfl, hid ⟨⟨fun j hj => by omega, by omega, .inl ⟨rfl, rfl, .inr ⟨rfl, rfl⟩⟩⟩, H2.out.1, H2.out.2⟩⟩
      case round =>
        obtain ⟨i, k, want, uu, hi, rfl, rfl, rfl, hI⟩ := hrel
        have c8 : wr.cell? ⟨w1.heap.size, 0, none⟩ = some (.int .i64 uu) := blk_cell hI.out.2.1 0
        have g8 : wr.frozen? ⟨w1.heap.size, 0, none⟩ = false := blk_frozen hI.out.2.1 0
        have r0 := blk_below H1.out.2.1 hI.out.2.2
        have r1 := blk_below H1.out.2.2 hI.out.2.2
        have j0 : wr.cell? ⟨w.heap.size, 0, none⟩ = some (.slice Ab b.length cb) := blk_cell r0 0
        have j1 : wr.cell? ⟨w.heap.size + 1, 0, none⟩ = some (.slice Al l.length cl) := blk_cell r1 0
        have HX := hid (And.intro r0 r1)
        have hBw := below_step H1.out.1 hI.out.2.2
        have HBW := hid hBw
        clear r0 r1 hBw
        by_cases hlt : (i : Int) < (l.length : Int)
        · have hi1 : i < l.length := by omega
          by_cases hw0 : want = 0
          · subst hw0
            have hki : k = i := by
              rcases hI.out.1.2.2 with h | h
              · exact h.2.1
              · exact absurd rfl h.1
            subst hki
            have hpos := pos_bd HBY.out HN.out k (by omega)
            have hst := posS_step b l k hi1
            have her := errS_at b l k hi1
            have hnn := HN.out _ (List.getElem_mem hi1)
            obtain ⟨ld, rfl, a0, a1⟩ := act_cells (Kd.C_below HC.out.2 H1.out.1) k hi1
            have hfact : ∀ W, Below w1.heap.size w1 W → W.cell? ⟨w.heap.size, 0, none⟩ = some (.slice Ab b.length cb) ∧ W.cell? ⟨w.heap.size + 1, 0, none⟩ = some (.slice (some ld) l.length cl) ∧ W.cell? (ld.add (k * 2)) = some (.int .i64 l[k].1) ∧ W.cell? ⟨(ld.add (k * 2)).block, (ld.add (k * 2)).off + 1, none⟩ = some (.int .i64 l[k].2) := fun W hb =>
              ⟨blk_cell (blk_below H1.out.2.1 hb) 0, blk_cell (blk_below H1.out.2.2 hb) 0, (hb.cell (World.block_lt_of_cell? _ _ a0)).trans a0, (hb.cell (World.block_lt_of_cell? _ _ a1)).trans a1⟩
            generalize l[k] = E at *
            obtain ⟨d, n⟩ := E
            simp only at hst her hnn a0 a1 hfact
            obtain ⟨n0, n1⟩ := hnn
            have HF := hid hfact
            obtain ⟨bb, hbb⟩ : ∃ bb, bb = b.drop (posS b l k).toNat := ⟨_, rfl⟩
            rw [← hbb] at hst her
            have hlb : (bb.length : Int) ≤ 300 := by rw [hbb, List.length_drop]; omega
            have hyb : Bytes bb := by rw [hbb]; exact fun x hx => HBY.out x (List.mem_of_mem_drop hx)
            obtain ⟨A3, c3, hcut, hC3, hc3⟩ := cutFrom (c := cb) (Kd.C_below HC.out.1 H1.out.1) hcb (posS b l k) hpos.1 hpos.2
            rw [← hbb] at hcut hC3 hc3
            have hcutA : ∀ W, Below w1.heap.size w1 W → CB W A3 bb ∧ bb.length ≤ c3 := fun W hb => ⟨Kd.C_below hC3 hb, hc3⟩
            have HCUT := hid hcutA
            have HLB := hid hlb
            have HYB := hid hyb
            have hp64 : IntKind.i64.wrap (posS b l k + stepN bb d n) = posS b l (k + 1) := by
              rw [← hst]
              have := pos_bd HBY.out HN.out (k + 1) (by omega)
              exact IntWalk.i64_in _ (by omega)
            have e3 : IntKind.i64.wrap ((k : Int) + 1) = (k : Int) + 1 := IntWalk.i64_in _ (by omega)
            have HD := hid (And.intro hI.out.2.2.drew (show wr.drew.heap[w1.heap.size]? = some (.cells #[.int .i64 uu] 3 (0, 0)) from hI.out.2.1))
            by_cases hE : stepE bb d n = 0
            · have hway := way_ok hi1 hI.out.1 (her.trans hE)
              have HWY := hid hway
              obtain ⟨N', hN'⟩ : ∃ N', stepN bb d n = N' := ⟨_, rfl⟩
              have HSN := hid hN'
              have HSE := hid hE
              rw [hN'] at hp64 hst
              obtain ⟨kp, hkp⟩ : ∃ kp, posS b l (k + 1) = kp := ⟨_, rfl⟩
              rw [hkp] at hp64 hst
              have HKP := hid hkp
              generalize hq : bb.length = qb at hcut
              have HQ := hid hq
              clear hway hE hN' hkp hq hfact hcutA hC3 hc3 hlb hyb hbb hst her hpos
              go_wp2
              refine start_ (n := 13) (S := fun W => Below w1.heap.size w1 W) (ds := []) #[false, false, false, false, false, false, false, false, false, false, false, false, false] (by kernel_rfl) rfl rfl HD.out.1 (fun hHeld => ?_)
              refine take_ (i := 0) (N := (some 60)) (v := ?_) (a' := ?_) #[true, false, false, false, false, false, false, false, false, false, false, false, false] rfl rfl (by kernel_rfl) (fun _ _ _ h => h) (Or.inl ⟨by rfl, ?_⟩) hHeld ?_ ?_
              rotate_left
              · rintro w' s0; obtain ⟨c0, c1, c2, c3⟩ := HF.out w' s0
                go_simp
                with_reducible rfl
              rotate_left
              · simp only [Act.put, List.setIfInBounds_toArray, List.set_cons_zero, List.set_cons_succ, i64_w]
                rfl
              refine pure_ (i := 1) (N := (some 61)) (v := ?_) (a' := ?_) #[true, true, false, false, false, false, false, false, false, false, false, false, false] rfl rfl (by kernel_rfl) (fun _ _ _ h => h) (Or.inl ⟨by rfl, ?_⟩) ?_ ?_
              rotate_left
              · intro w'
                go_simp
                with_reducible rfl
              rotate_left
              · simp only [Act.put, List.setIfInBounds_toArray, List.set_cons_zero, List.set_cons_succ, i64_w]
                rfl
              refine pure_ (i := 2) (N := (some 62)) (v := ?_) (a' := ?_) #[true, true, true, false, false, false, false, false, false, false, false, false, false] rfl rfl (by kernel_rfl) (fun _ _ _ h => h) (Or.inl ⟨by rfl, ?_⟩) ?_ ?_
              rotate_left
              · intro w'
                go_simp
                with_reducible rfl
              rotate_left
              · simp only [Act.put, List.setIfInBounds_toArray, List.set_cons_zero, List.set_cons_succ, i64_w]
                rfl
              refine take_ (i := 3) (N := (some 63)) (v := ?_) (a' := ?_) #[true, true, true, true, false, false, false, false, false, false, false, false, false] rfl rfl (by kernel_rfl) (fun _ _ _ h => h) (Or.inl ⟨by rfl, ?_⟩) hHeld ?_ ?_
              rotate_left
              · rintro w' s0; obtain ⟨c0, c1, c2, c3⟩ := HF.out w' s0
                go_simp
                with_reducible rfl
              rotate_left
              · simp only [Act.put, List.setIfInBounds_toArray, List.set_cons_zero, List.set_cons_succ, i64_w]
                rfl
              refine pure_ (i := 4) (N := (some 64)) (v := ?_) (a' := ?_) #[true, true, true, true, true, false, false, false, false, false, false, false, false] rfl rfl (by kernel_rfl) (fun _ _ _ h => h) (Or.inl ⟨by rfl, ?_⟩) ?_ ?_
              rotate_left
              · intro w'
                go_simp
                with_reducible rfl
              rotate_left
              · simp only [Act.put, List.setIfInBounds_toArray, List.set_cons_zero, List.set_cons_succ, i64_w]
                rfl
              refine pure_ (i := 5) (N := (some 65)) (v := ?_) (a' := ?_) #[true, true, true, true, true, true, false, false, false, false, false, false, false] rfl rfl (by kernel_rfl) (fun _ _ _ h => h) (Or.inl ⟨by rfl, ?_⟩) ?_ ?_
              rotate_left
              · intro w'
                go_simp
                with_reducible rfl
              rotate_left
              · simp only [Act.put, List.setIfInBounds_toArray, List.set_cons_zero, List.set_cons_succ, i64_w]
                rfl
              refine take_ (i := 6) (N := (some 66)) (v := ?_) (a' := ?_) #[true, true, true, true, true, true, true, false, false, false, false, false, false] rfl rfl (by kernel_rfl) (fun _ _ _ h => h) (Or.inl ⟨by rfl, ?_⟩) hHeld ?_ ?_
              rotate_left
              · rintro w' s0; obtain ⟨c0, c1, c2, c3⟩ := HF.out w' s0
                go_simp
                with_reducible rfl
              rotate_left
              · simp only [Act.put, List.setIfInBounds_toArray, List.set_cons_zero, List.set_cons_succ, i64_w]
                rfl
              refine one_ (i := 7) (N := (some 67)) #[true, true, true, true, true, true, true, true, false, false, false, false, false] rfl rfl (by kernel_rfl) (by decide) (fun K hK => ?_)
              refine goes_ Try.func38 (by kernel_rfl) rfl #[.slice A3 qb c3, .agg #[.int .i64 d, .int .i64 n]] (by rfl) rfl rfl (by first | rfl | (simp only [List.map_toArray, List.map_cons, List.map_nil]; rfl)) ?_
              rw [← HQ.out]
              refine (step_c A3 c3 bb d n _ (HCUT.out _ HD.out.1).1 (HCUT.out _ HD.out.1).2 HYB.out (by have := HLB.out; omega) n0 n1).mono ?_
              rintro e' wC ⟨rfl, hb⟩
              rw [HSN.out, HSE.out]
              have HG := hid (And.intro (below_step HD.out.1 hb) (blk_below HD.out.2 hb))
              clear hb
              refine ⟨_, rfl, ?_⟩
              refine hK.out _ _ HG.out.1 (fun hHeld => ?_)
              clear hK K
              refine norm_ (a' := ?_) ?_ ?_
              rotate_left
              · show Act.put _ (some 67) _ = _
                simp only [Act.put, List.setIfInBounds_toArray, List.set_cons_zero, List.set_cons_succ, i64_w]
                rfl
              refine pure_ (i := 8) (N := (some 59)) (v := ?_) (a' := ?_) #[true, true, true, true, true, true, true, true, true, false, false, false, false] rfl rfl (by kernel_rfl) (fun _ _ _ h => h) (Or.inl ⟨by rfl, ?_⟩) ?_ ?_
              rotate_left
              · intro w'
                go_simp
                with_reducible rfl
              rotate_left
              · simp only [Act.put, List.setIfInBounds_toArray, List.set_cons_zero, List.set_cons_succ, i64_w]
                rfl
              refine pure_ (i := 9) (N := (some 68)) (v := ?_) (a' := ?_) #[true, true, true, true, true, true, true, true, true, true, false, false, false] rfl rfl (by kernel_rfl) (fun _ _ _ h => h) (Or.inl ⟨by rfl, ?_⟩) ?_ ?_
              rotate_left
              · intro w'
                go_simp
                with_reducible rfl
              rotate_left
              · simp only [Act.put, List.setIfInBounds_toArray, List.set_cons_zero, List.set_cons_succ, i64_w]
                rfl
              refine pure_ (i := 10) (N := (some 69)) (v := ?_) (a' := ?_) #[true, true, true, true, true, true, true, true, true, true, true, false, false] rfl rfl (by kernel_rfl) (fun _ _ _ h => h) (Or.inl ⟨by rfl, ?_⟩) ?_ ?_
              rotate_left
              · intro w'
                go_simp
                with_reducible rfl
              rotate_left
              · simp only [Act.put, List.setIfInBounds_toArray, List.set_cons_zero, List.set_cons_succ, i64_w]
                rfl
              refine pure_ (i := 11) (N := (some 10)) (v := ?_) (a' := ?_) #[true, true, true, true, true, true, true, true, true, true, true, true, false] rfl rfl (by kernel_rfl) (fun _ _ _ h => h) (Or.inl ⟨by rfl, ?_⟩) ?_ ?_
              rotate_left
              · intro w'
                go_simp
                with_reducible rfl
              rotate_left
              · simp only [Act.put, List.setIfInBounds_toArray, List.set_cons_zero, List.set_cons_succ, i64_w]
                rfl
              refine pure_ (i := 12) (N := (some 11)) (v := ?_) (a' := ?_) #[true, true, true, true, true, true, true, true, true, true, true, true, true] rfl rfl (by kernel_rfl) (fun _ _ _ h => h) (Or.inl ⟨by rfl, ?_⟩) ?_ ?_
              rotate_left
              · intro w'
                go_simp
                with_reducible rfl
              rotate_left
              · simp only [Act.put, List.setIfInBounds_toArray, List.set_cons_zero, List.set_cons_succ, i64_w]
                rfl
              refine done_ (by kernel_rfl) ?_
              have c9 : wC.cell? ⟨w1.heap.size, 0, none⟩ = some (.int .i64 uu) := blk_cell HG.out.2 0
              have g9 : wC.frozen? ⟨w1.heap.size, 0, none⟩ = false := blk_frozen HG.out.2 0
              go_wp2
              go_roundw
              case rel => exact ⟨k + 1, k + 1, 0, (k : Int) + 1, by omega, by go_num, by rw [HKP.out], rfl, hid ⟨HWY.out, blk_set (blk_set HG.out.2 0 _) 0 _, (HG.out.1.setCell (p := ⟨w1.heap.size, 0, none⟩) (Nat.le_refl _) _).setCell (p := ⟨w1.heap.size, 0, none⟩) (Nat.le_refl _) _⟩⟩
              case measure => simp [intOf]; omega
            · obtain ⟨ee, hee⟩ : ∃ ee, stepE bb d n = ee := ⟨_, rfl⟩
              rw [hee] at hE her
              have hway := way_no hi1 hI.out.1 her hE
              have HWY := hid hway
              obtain ⟨N', hN'⟩ : ∃ N', stepN bb d n = N' := ⟨_, rfl⟩
              have HSN := hid hN'
              have HSE := hid hee
              generalize hq : bb.length = qb at hcut
              have HQ := hid hq
              clear hway hee hN' hq hfact hcutA hC3 hc3 hlb hyb hbb hst her hpos hp64
              go_wp2
              refine start_ (n := 13) (S := fun W => Below w1.heap.size w1 W) (ds := []) #[false, false, false, false, false, false, false, false, false, false, false, false, false] (by kernel_rfl) rfl rfl HD.out.1 (fun hHeld => ?_)
              refine take_ (i := 0) (N := (some 60)) (v := ?_) (a' := ?_) #[true, false, false, false, false, false, false, false, false, false, false, false, false] rfl rfl (by kernel_rfl) (fun _ _ _ h => h) (Or.inl ⟨by rfl, ?_⟩) hHeld ?_ ?_
              rotate_left
              · rintro w' s0; obtain ⟨c0, c1, c2, c3⟩ := HF.out w' s0
                go_simp
                with_reducible rfl
              rotate_left
              · simp only [Act.put, List.setIfInBounds_toArray, List.set_cons_zero, List.set_cons_succ, i64_w]
                rfl
              refine pure_ (i := 1) (N := (some 61)) (v := ?_) (a' := ?_) #[true, true, false, false, false, false, false, false, false, false, false, false, false] rfl rfl (by kernel_rfl) (fun _ _ _ h => h) (Or.inl ⟨by rfl, ?_⟩) ?_ ?_
              rotate_left
              · intro w'
                go_simp
                with_reducible rfl
              rotate_left
              · simp only [Act.put, List.setIfInBounds_toArray, List.set_cons_zero, List.set_cons_succ, i64_w]
                rfl
              refine pure_ (i := 2) (N := (some 62)) (v := ?_) (a' := ?_) #[true, true, true, false, false, false, false, false, false, false, false, false, false] rfl rfl (by kernel_rfl) (fun _ _ _ h => h) (Or.inl ⟨by rfl, ?_⟩) ?_ ?_
              rotate_left
              · intro w'
                go_simp
                with_reducible rfl
              rotate_left
              · simp only [Act.put, List.setIfInBounds_toArray, List.set_cons_zero, List.set_cons_succ, i64_w]
                rfl
              refine take_ (i := 3) (N := (some 63)) (v := ?_) (a' := ?_) #[true, true, true, true, false, false, false, false, false, false, false, false, false] rfl rfl (by kernel_rfl) (fun _ _ _ h => h) (Or.inl ⟨by rfl, ?_⟩) hHeld ?_ ?_
              rotate_left
              · rintro w' s0; obtain ⟨c0, c1, c2, c3⟩ := HF.out w' s0
                go_simp
                with_reducible rfl
              rotate_left
              · simp only [Act.put, List.setIfInBounds_toArray, List.set_cons_zero, List.set_cons_succ, i64_w]
                rfl
              refine pure_ (i := 4) (N := (some 64)) (v := ?_) (a' := ?_) #[true, true, true, true, true, false, false, false, false, false, false, false, false] rfl rfl (by kernel_rfl) (fun _ _ _ h => h) (Or.inl ⟨by rfl, ?_⟩) ?_ ?_
              rotate_left
              · intro w'
                go_simp
                with_reducible rfl
              rotate_left
              · simp only [Act.put, List.setIfInBounds_toArray, List.set_cons_zero, List.set_cons_succ, i64_w]
                rfl
              refine pure_ (i := 5) (N := (some 65)) (v := ?_) (a' := ?_) #[true, true, true, true, true, true, false, false, false, false, false, false, false] rfl rfl (by kernel_rfl) (fun _ _ _ h => h) (Or.inl ⟨by rfl, ?_⟩) ?_ ?_
              rotate_left
              · intro w'
                go_simp
                with_reducible rfl
              rotate_left
              · simp only [Act.put, List.setIfInBounds_toArray, List.set_cons_zero, List.set_cons_succ, i64_w]
                rfl
              refine take_ (i := 6) (N := (some 66)) (v := ?_) (a' := ?_) #[true, true, true, true, true, true, true, false, false, false, false, false, false] rfl rfl (by kernel_rfl) (fun _ _ _ h => h) (Or.inl ⟨by rfl, ?_⟩) hHeld ?_ ?_
              rotate_left
              · rintro w' s0; obtain ⟨c0, c1, c2, c3⟩ := HF.out w' s0
                go_simp
                with_reducible rfl
              rotate_left
              · simp only [Act.put, List.setIfInBounds_toArray, List.set_cons_zero, List.set_cons_succ, i64_w]
                rfl
              refine one_ (i := 7) (N := (some 67)) #[true, true, true, true, true, true, true, true, false, false, false, false, false] rfl rfl (by kernel_rfl) (by decide) (fun K hK => ?_)
              refine goes_ Try.func38 (by kernel_rfl) rfl #[.slice A3 qb c3, .agg #[.int .i64 d, .int .i64 n]] (by rfl) rfl rfl (by first | rfl | (simp only [List.map_toArray, List.map_cons, List.map_nil]; rfl)) ?_
              rw [← HQ.out]
              refine (step_c A3 c3 bb d n _ (HCUT.out _ HD.out.1).1 (HCUT.out _ HD.out.1).2 HYB.out (by have := HLB.out; omega) n0 n1).mono ?_
              rintro e' wC ⟨rfl, hb⟩
              rw [HSN.out, HSE.out]
              have HG := hid (And.intro (below_step HD.out.1 hb) (blk_below HD.out.2 hb))
              clear hb
              refine ⟨_, rfl, ?_⟩
              refine hK.out _ _ HG.out.1 (fun hHeld => ?_)
              clear hK K
              refine norm_ (a' := ?_) ?_ ?_
              rotate_left
              · show Act.put _ (some 67) _ = _
                simp only [Act.put, List.setIfInBounds_toArray, List.set_cons_zero, List.set_cons_succ, i64_w]
                rfl
              refine pure_ (i := 8) (N := (some 59)) (v := ?_) (a' := ?_) #[true, true, true, true, true, true, true, true, true, false, false, false, false] rfl rfl (by kernel_rfl) (fun _ _ _ h => h) (Or.inl ⟨by rfl, ?_⟩) ?_ ?_
              rotate_left
              · intro w'
                go_simp
                with_reducible rfl
              rotate_left
              · simp only [Act.put, List.setIfInBounds_toArray, List.set_cons_zero, List.set_cons_succ, i64_w]
                rfl
              refine pure_ (i := 9) (N := (some 68)) (v := ?_) (a' := ?_) #[true, true, true, true, true, true, true, true, true, true, false, false, false] rfl rfl (by kernel_rfl) (fun _ _ _ h => h) (Or.inl ⟨by rfl, ?_⟩) ?_ ?_
              rotate_left
              · intro w'
                go_simp
                with_reducible rfl
              rotate_left
              · simp only [Act.put, List.setIfInBounds_toArray, List.set_cons_zero, List.set_cons_succ, i64_w]
                rfl
              refine pure_ (i := 10) (N := (some 69)) (v := ?_) (a' := ?_) #[true, true, true, true, true, true, true, true, true, true, true, false, false] rfl rfl (by kernel_rfl) (fun _ _ _ h => h) (Or.inl ⟨by rfl, ?_⟩) ?_ ?_
              rotate_left
              · intro w'
                go_simp
                with_reducible rfl
              rotate_left
              · simp only [Act.put, List.setIfInBounds_toArray, List.set_cons_zero, List.set_cons_succ, i64_w]
                rfl
              refine pure_ (i := 11) (N := (some 10)) (v := ?_) (a' := ?_) #[true, true, true, true, true, true, true, true, true, true, true, true, false] rfl rfl (by kernel_rfl) (fun _ _ _ h => h) (Or.inl ⟨by rfl, ?_⟩) ?_ ?_
              rotate_left
              · intro w'
                go_simp
                with_reducible rfl
              rotate_left
              · simp only [Act.put, List.setIfInBounds_toArray, List.set_cons_zero, List.set_cons_succ, i64_w]
                rfl
              refine pure_ (i := 12) (N := (some 11)) (v := ?_) (a' := ?_) #[true, true, true, true, true, true, true, true, true, true, true, true, true] rfl rfl (by kernel_rfl) (fun _ _ _ h => h) (Or.inl ⟨by rfl, ?_⟩) ?_ ?_
              rotate_left
              · intro w'
                go_simp
                with_reducible rfl
              rotate_left
              · simp only [Act.put, List.setIfInBounds_toArray, List.set_cons_zero, List.set_cons_succ, i64_w]
                rfl
              refine done_ (by kernel_rfl) ?_
              have c9 : wC.cell? ⟨w1.heap.size, 0, none⟩ = some (.int .i64 uu) := blk_cell HG.out.2 0
              have g9 : wC.frozen? ⟨w1.heap.size, 0, none⟩ = false := blk_frozen HG.out.2 0
              go_wp2
              go_roundw
              case rel => exact ⟨k + 1, k, ee, k, by omega, by go_num, rfl, rfl, hid ⟨HWY.out, blk_set HG.out.2 0 _, HG.out.1.setCell (p := ⟨w1.heap.size, 0, none⟩) (Nat.le_refl _) _⟩⟩
              case measure => simp [intOf]; omega
          · have hm : ∃ m : Nat, uu = m ∧ m ≤ l.length ∧ (∀ j, j < m → errS b l j = 0) ∧ (m = l.length ∧ want = (if posS b l m < b.length then 2 else 0) ∨ m < l.length ∧ want = errS b l m ∧ want ≠ 0) := by
              obtain ⟨h1, h2, h3 | ⟨h3, h4, h5, h6, h7⟩⟩ := hI.out.1
              · exact absurd h3.1 hw0
              · exact ⟨k, h7, h2, h1, .inr ⟨h5, h6.symm, h3⟩⟩
            have HM := hid hm
            clear hm
            have hnl : 0 < l.length → ∀ a, Al = some a → a.block ≠ wr.heap.size := fun h0 a ha => by
              have h := rowA_lt HC.out.2 h0 ha
              have := HBW.out.size
              omega
            have hnb : 0 < b.length → ∀ a, Ab = some a → a.block ≠ wr.heap.size := fun h0 a ha => by
              have h := rowB_lt HC.out.1 h0 ha
              have := HBW.out.size
              omega
            have HNE := hid (And.intro hnl hnb)
            have hlt3 := blk_lt hI.out.2.1
            have hz1 : ¬ w.heap.size = wr.heap.size := by omega
            have hz2 : ¬ wr.heap.size = w.heap.size := by omega
            have hz3 : w.heap.size < wr.heap.size := by omega
            clear hnl hnb
            go_wp2_with fail
            obtain ⟨W3, hW3⟩ : ∃ W, W = wr.alloc (.cells #[.bool true] 4) := ⟨_, rfl⟩
            have q0 := blk_new wr (.cells #[.bool true] 4)
            have q1 := blk_alloc HX.out.1 (.cells #[.bool true] 4)
            have q2 := blk_alloc HX.out.2 (.cells #[.bool true] 4)
            have q3 := blk_alloc hI.out.2.1 (.cells #[.bool true] 4)
            have q4 := below_alloc HBW.out (.cells #[.bool true] 4)
            have q5 : W3.heap.size = wr.heap.size + 1 := by rw [hW3]; simp
            rw [← hW3] at q0 q1 q2 q3 q4 ⊢
            have HQ := hid (And.intro q0 (And.intro q1 (And.intro q2 (And.intro q3 q4))))
            clear q0 q1 q2 q3 q4 hW3 c8 g8 j0 j1 hI HX HBW
            obtain ⟨m, hum, hml, hok, hx⟩ := HM.out
            refine (try_c 39 enter_39 #[.pointer (some ⟨w.heap.size + 1, 0, none⟩), .pointer (some ⟨w1.heap.size, 0, none⟩), .pointer (some ⟨w.heap.size, 0, none⟩), .pointer (some ⟨wr.heap.size, 0, none⟩)] Ab cb b W3 (Kd.C_below HC.out.1 HQ.out.2.2.2.2) hcb (by omega) (ActPost W3 wr.heap.size want) (fun v1 B hF => read39 W3 v1 B (w.heap.size + 1) w1.heap.size w.heap.size wr.heap.size b l uu want Al Ab cl cb hF HQ.out.2.2.1 HQ.out.2.2.2.1 HQ.out.2.1 HQ.out.1 (by omega) (by omega) (by omega) (Kd.C_below HC.out.2 HQ.out.2.2.2.2) (Kd.C_below HC.out.1 HQ.out.2.2.2.2) hcb HNE.out.1 HNE.out.2 HBY.out (by omega) (by omega) HN.out m hum hml hok hx)).mono ?_
            rintro e w4 ⟨y, v2, rfl, ⟨hyx, hA, hR2⟩, ha⟩
            have z1 : y = want := hyx
            have z2 : w4.heap[wr.heap.size]? = some (.cells #[.bool true] 4 (0, 0)) := (ha.block _ (blk_lt hR2) (by omega)).trans hR2
            have z3 := HQ.out.2.2.2.2.size
            have z4 : Below w.heap.size w v2 := Aft.below HQ.out.2.2.2.2 hA (by omega) z3
            have z5 : Below w.heap.size w w4 := Aft.below z4 ha (by omega) z4.size
            have z6 : w4.cell? ⟨wr.heap.size, 0, none⟩ = some (.bool true) := blk_cell z2 0
            have HZ := hid z5
            subst z1
            clear z2 z3 z4 z5 hA hR2 ha HQ HNE hok hx hyx
            go_wp2
            go_ret
            exact ⟨rfl, HZ.out⟩
        · have hil : i = l.length := by omega
          subst hil
          by_cases hw0 : want = 0
          · subst hw0
            have hki : k = l.length ∧ uu = l.length := by
              rcases hI.out.1.2.2 with h | h
              · rcases h.2.2 with g | g
                · exact ⟨h.2.1, g⟩
                · exact ⟨h.2.1, g.2⟩
              · exact absurd rfl h.1
            obtain ⟨rfl, hu⟩ := hki
            by_cases hpl : posS b l l.length < (b.length : Int)
            · have hm : ∃ m : Nat, uu = m ∧ m ≤ l.length ∧ (∀ j, j < m → errS b l j = 0) ∧ (m = l.length ∧ (2 : Int) = (if posS b l m < b.length then 2 else 0) ∨ m < l.length ∧ (2 : Int) = errS b l m ∧ (2 : Int) ≠ 0) :=
                ⟨l.length, hu, Nat.le_refl _, hI.out.1.1, .inl ⟨rfl, by rw [if_pos hpl]⟩⟩
              have HM := hid hm
              clear hm
              have hnl : 0 < l.length → ∀ a, Al = some a → a.block ≠ wr.heap.size := fun h0 a ha => by
                have h := rowA_lt HC.out.2 h0 ha
                have := HBW.out.size
                omega
              have hnb : 0 < b.length → ∀ a, Ab = some a → a.block ≠ wr.heap.size := fun h0 a ha => by
                have h := rowB_lt HC.out.1 h0 ha
                have := HBW.out.size
                omega
              have HNE := hid (And.intro hnl hnb)
              have hlt3 := blk_lt hI.out.2.1
              have hz1 : ¬ w.heap.size = wr.heap.size := by omega
              have hz2 : ¬ wr.heap.size = w.heap.size := by omega
              have hz3 : w.heap.size < wr.heap.size := by omega
              clear hnl hnb
              go_wp2_with fail
              obtain ⟨W3, hW3⟩ : ∃ W, W = wr.alloc (.cells #[.bool true] 4) := ⟨_, rfl⟩
              have q0 := blk_new wr (.cells #[.bool true] 4)
              have q1 := blk_alloc HX.out.1 (.cells #[.bool true] 4)
              have q2 := blk_alloc HX.out.2 (.cells #[.bool true] 4)
              have q3 := blk_alloc hI.out.2.1 (.cells #[.bool true] 4)
              have q4 := below_alloc HBW.out (.cells #[.bool true] 4)
              have q5 : W3.heap.size = wr.heap.size + 1 := by rw [hW3]; simp
              rw [← hW3] at q0 q1 q2 q3 q4 ⊢
              have HQ := hid (And.intro q0 (And.intro q1 (And.intro q2 (And.intro q3 q4))))
              clear q0 q1 q2 q3 q4 hW3 c8 g8 j0 j1 hI HX HBW
              obtain ⟨m, hum, hml, hok, hx⟩ := HM.out
              refine (try_c 39 enter_39 #[.pointer (some ⟨w.heap.size + 1, 0, none⟩), .pointer (some ⟨w1.heap.size, 0, none⟩), .pointer (some ⟨w.heap.size, 0, none⟩), .pointer (some ⟨wr.heap.size, 0, none⟩)] Ab cb b W3 (Kd.C_below HC.out.1 HQ.out.2.2.2.2) hcb (by omega) (ActPost W3 wr.heap.size 2) (fun v1 B hF => read39 W3 v1 B (w.heap.size + 1) w1.heap.size w.heap.size wr.heap.size b l uu 2 Al Ab cl cb hF HQ.out.2.2.1 HQ.out.2.2.2.1 HQ.out.2.1 HQ.out.1 (by omega) (by omega) (by omega) (Kd.C_below HC.out.2 HQ.out.2.2.2.2) (Kd.C_below HC.out.1 HQ.out.2.2.2.2) hcb HNE.out.1 HNE.out.2 HBY.out (by omega) (by omega) HN.out m hum hml hok hx)).mono ?_
              rintro e w4 ⟨y, v2, rfl, ⟨hyx, hA, hR2⟩, ha⟩
              have z1 : y = 2 := hyx
              have z2 : w4.heap[wr.heap.size]? = some (.cells #[.bool true] 4 (0, 0)) := (ha.block _ (blk_lt hR2) (by omega)).trans hR2
              have z3 := HQ.out.2.2.2.2.size
              have z4 : Below w.heap.size w v2 := Aft.below HQ.out.2.2.2.2 hA (by omega) z3
              have z5 : Below w.heap.size w w4 := Aft.below z4 ha (by omega) z4.size
              have z6 : w4.cell? ⟨wr.heap.size, 0, none⟩ = some (.bool true) := blk_cell z2 0
              have HZ := hid z5
              subst z1
              clear z2 z3 z4 z5 hA hR2 ha HQ HNE hok hx hyx
              go_wp2
              go_ret
              exact ⟨rfl, HZ.out⟩
            · have hm : ∃ m : Nat, uu = m ∧ m ≤ l.length ∧ (∀ j, j < m → errS b l j = 0) ∧ (m = l.length ∧ (0 : Int) = (if posS b l m < b.length then 2 else 0) ∨ m < l.length ∧ (0 : Int) = errS b l m ∧ (0 : Int) ≠ 0) :=
                ⟨l.length, hu, Nat.le_refl _, hI.out.1.1, .inl ⟨rfl, by rw [if_neg hpl]⟩⟩
              have HM := hid hm
              clear hm
              have hnl : 0 < l.length → ∀ a, Al = some a → a.block ≠ wr.heap.size := fun h0 a ha => by
                have h := rowA_lt HC.out.2 h0 ha
                have := HBW.out.size
                omega
              have hnb : 0 < b.length → ∀ a, Ab = some a → a.block ≠ wr.heap.size := fun h0 a ha => by
                have h := rowB_lt HC.out.1 h0 ha
                have := HBW.out.size
                omega
              have HNE := hid (And.intro hnl hnb)
              have hlt3 := blk_lt hI.out.2.1
              have hz1 : ¬ w.heap.size = wr.heap.size := by omega
              have hz2 : ¬ wr.heap.size = w.heap.size := by omega
              have hz3 : w.heap.size < wr.heap.size := by omega
              clear hnl hnb
              go_wp2_with fail
              obtain ⟨W3, hW3⟩ : ∃ W, W = wr.alloc (.cells #[.bool true] 4) := ⟨_, rfl⟩
              have q0 := blk_new wr (.cells #[.bool true] 4)
              have q1 := blk_alloc HX.out.1 (.cells #[.bool true] 4)
              have q2 := blk_alloc HX.out.2 (.cells #[.bool true] 4)
              have q3 := blk_alloc hI.out.2.1 (.cells #[.bool true] 4)
              have q4 := below_alloc HBW.out (.cells #[.bool true] 4)
              have q5 : W3.heap.size = wr.heap.size + 1 := by rw [hW3]; simp
              rw [← hW3] at q0 q1 q2 q3 q4 ⊢
              have HQ := hid (And.intro q0 (And.intro q1 (And.intro q2 (And.intro q3 q4))))
              clear q0 q1 q2 q3 q4 hW3 c8 g8 j0 j1 hI HX HBW
              obtain ⟨m, hum, hml, hok, hx⟩ := HM.out
              refine (try_c 39 enter_39 #[.pointer (some ⟨w.heap.size + 1, 0, none⟩), .pointer (some ⟨w1.heap.size, 0, none⟩), .pointer (some ⟨w.heap.size, 0, none⟩), .pointer (some ⟨wr.heap.size, 0, none⟩)] Ab cb b W3 (Kd.C_below HC.out.1 HQ.out.2.2.2.2) hcb (by omega) (ActPost W3 wr.heap.size 0) (fun v1 B hF => read39 W3 v1 B (w.heap.size + 1) w1.heap.size w.heap.size wr.heap.size b l uu 0 Al Ab cl cb hF HQ.out.2.2.1 HQ.out.2.2.2.1 HQ.out.2.1 HQ.out.1 (by omega) (by omega) (by omega) (Kd.C_below HC.out.2 HQ.out.2.2.2.2) (Kd.C_below HC.out.1 HQ.out.2.2.2.2) hcb HNE.out.1 HNE.out.2 HBY.out (by omega) (by omega) HN.out m hum hml hok hx)).mono ?_
              rintro e w4 ⟨y, v2, rfl, ⟨hyx, hA, hR2⟩, ha⟩
              have z1 : y = 0 := hyx
              have z2 : w4.heap[wr.heap.size]? = some (.cells #[.bool true] 4 (0, 0)) := (ha.block _ (blk_lt hR2) (by omega)).trans hR2
              have z3 := HQ.out.2.2.2.2.size
              have z4 : Below w.heap.size w v2 := Aft.below HQ.out.2.2.2.2 hA (by omega) z3
              have z5 : Below w.heap.size w w4 := Aft.below z4 ha (by omega) z4.size
              have z6 : w4.cell? ⟨wr.heap.size, 0, none⟩ = some (.bool true) := blk_cell z2 0
              have HZ := hid z5
              subst z1
              clear z2 z3 z4 z5 hA hR2 ha HQ HNE hok hx hyx
              go_wp2
              go_ret
              exact ⟨rfl, HZ.out⟩
          · have hm : ∃ m : Nat, uu = m ∧ m ≤ l.length ∧ (∀ j, j < m → errS b l j = 0) ∧ (m = l.length ∧ want = (if posS b l m < b.length then 2 else 0) ∨ m < l.length ∧ want = errS b l m ∧ want ≠ 0) := by
              obtain ⟨h1, h2, h3 | ⟨h3, h4, h5, h6, h7⟩⟩ := hI.out.1
              · exact absurd h3.1 hw0
              · exact ⟨k, h7, h2, h1, .inr ⟨h5, h6.symm, h3⟩⟩
            have HM := hid hm
            clear hm
            have hnl : 0 < l.length → ∀ a, Al = some a → a.block ≠ wr.heap.size := fun h0 a ha => by
              have h := rowA_lt HC.out.2 h0 ha
              have := HBW.out.size
              omega
            have hnb : 0 < b.length → ∀ a, Ab = some a → a.block ≠ wr.heap.size := fun h0 a ha => by
              have h := rowB_lt HC.out.1 h0 ha
              have := HBW.out.size
              omega
            have HNE := hid (And.intro hnl hnb)
            have hlt3 := blk_lt hI.out.2.1
            have hz1 : ¬ w.heap.size = wr.heap.size := by omega
            have hz2 : ¬ wr.heap.size = w.heap.size := by omega
            have hz3 : w.heap.size < wr.heap.size := by omega
            clear hnl hnb
            go_wp2_with fail
            obtain ⟨W3, hW3⟩ : ∃ W, W = wr.alloc (.cells #[.bool true] 4) := ⟨_, rfl⟩
            have q0 := blk_new wr (.cells #[.bool true] 4)
            have q1 := blk_alloc HX.out.1 (.cells #[.bool true] 4)
            have q2 := blk_alloc HX.out.2 (.cells #[.bool true] 4)
            have q3 := blk_alloc hI.out.2.1 (.cells #[.bool true] 4)
            have q4 := below_alloc HBW.out (.cells #[.bool true] 4)
            have q5 : W3.heap.size = wr.heap.size + 1 := by rw [hW3]; simp
            rw [← hW3] at q0 q1 q2 q3 q4 ⊢
            have HQ := hid (And.intro q0 (And.intro q1 (And.intro q2 (And.intro q3 q4))))
            clear q0 q1 q2 q3 q4 hW3 c8 g8 j0 j1 hI HX HBW
            obtain ⟨m, hum, hml, hok, hx⟩ := HM.out
            refine (try_c 39 enter_39 #[.pointer (some ⟨w.heap.size + 1, 0, none⟩), .pointer (some ⟨w1.heap.size, 0, none⟩), .pointer (some ⟨w.heap.size, 0, none⟩), .pointer (some ⟨wr.heap.size, 0, none⟩)] Ab cb b W3 (Kd.C_below HC.out.1 HQ.out.2.2.2.2) hcb (by omega) (ActPost W3 wr.heap.size want) (fun v1 B hF => read39 W3 v1 B (w.heap.size + 1) w1.heap.size w.heap.size wr.heap.size b l uu want Al Ab cl cb hF HQ.out.2.2.1 HQ.out.2.2.2.1 HQ.out.2.1 HQ.out.1 (by omega) (by omega) (by omega) (Kd.C_below HC.out.2 HQ.out.2.2.2.2) (Kd.C_below HC.out.1 HQ.out.2.2.2.2) hcb HNE.out.1 HNE.out.2 HBY.out (by omega) (by omega) HN.out m hum hml hok hx)).mono ?_
            rintro e w4 ⟨y, v2, rfl, ⟨hyx, hA, hR2⟩, ha⟩
            have z1 : y = want := hyx
            have z2 : w4.heap[wr.heap.size]? = some (.cells #[.bool true] 4 (0, 0)) := (ha.block _ (blk_lt hR2) (by omega)).trans hR2
            have z3 := HQ.out.2.2.2.2.size
            have z4 : Below w.heap.size w v2 := Aft.below HQ.out.2.2.2.2 hA (by omega) z3
            have z5 : Below w.heap.size w w4 := Aft.below z4 ha (by omega) z4.size
            have z6 : w4.cell? ⟨wr.heap.size, 0, none⟩ = some (.bool true) := blk_cell z2 0
            have HZ := hid z5
            subst z1
            clear z2 z3 z4 z5 hA hR2 ha HQ HNE hok hx hyx
            go_wp2
            go_ret
            exact ⟨rfl, HZ.out⟩
theorem acts_c (Ab Al : Option Addr) (cb cl : Nat) (b : List Int) (l : List Ac) (w : World) (hCb : CB w Ab b) (hcb : b.length ≤ cb) (hby : Bytes b) (hCl : CA w Al l) (hcl : l.length ≤ cl) :
    Calls Try.prog 6 #[.slice Ab b.length cb, .slice Al l.length cl] w fun e w' => e = .returned (.bool true) ∧ Below w.heap.size w w' := by
  by_cases n1 : (300 : Int) < (b.length : Int)
  · exact acts_big Ab Al cb cl b l w (.inl n1)
  · by_cases n2 : (60 : Int) < (l.length : Int)
    · exact acts_big Ab Al cb cl b l w (.inr ⟨n1, n2⟩)
    · exact acts_small Ab Al cb cl b l w hCb hcb hby hCl hcl n1 n2
end Go.Proofs.Ytmcfihpbiilbcaa.H
