/- weight.Write. -/
import Derived.Test.YtmcfihpbiilbcaaWgC
import Derived.Test.YtmcfihpbiilbcaaImgB
namespace Go.Proofs.Ytmcfihpbiilbcaa.H
open Go.RowKit Go.Proofs.YtmcfihpbiilbcaaW.PrintWords Go.Proofs.YtmcfihpbiilbcaaW.PrintLast Go.Proofs.YtmcfihpbiilbcaaW.PrintMore Go.Proofs.Ytmcfihpbiilbcaa.E
set_option linter.unusedVariables false
set_option linter.unusedSimpArgs false
def inB (n : Int) : Bool := decide (0 ≤ n ∧ n ≤ 65535)
theorem in_c (n : Int) (w : World) : Calls Try.prog 96 #[.int .i64 n] w fun e w' => e = .returned (.bool (inB n)) ∧ w' = w := by
  unfold inB
  by_cases h0 : 0 ≤ n
  · by_cases h1 : n ≤ 65535
    · rw [decide_eq_true ⟨h0, h1⟩]
      go_enter Try.func96, Try.ntmps96
      go_wp2
      go_ret
      exact ⟨rfl, rfl⟩
    · rw [decide_eq_false (fun h => h1 h.2)]
      go_enter Try.func96, Try.ntmps96
      go_wp2
      go_ret
      exact ⟨rfl, rfl⟩
  · rw [decide_eq_false (fun h => h0 h.1)]
    go_enter Try.func96, Try.ntmps96
    go_wp2
    go_ret
    exact ⟨rfl, rfl⟩
def eB (e : Edge) : Bool := namedB e.1 && inB e.2.1 && inB e.2.2.1
def nmS (s : ByteArray) : List Int := (s.size : Int) % 256 :: bytesOf s
def fpS (b : Nat) : List Int := fourS ((b : Int) % 4294967296) ++ fourS ((b : Int) / 4294967296)
def eS (e : Edge) : List Int := nmS e.1 ++ putS e.2.1 2 ++ putS e.2.2.1 2 ++ fpS e.2.2.2
/-- A profile's beginning, up to k edges. -/
def pS (l : List Edge) (k : Nat) : List Int := [83, 80, 80, 49] ++ putS l.length 2 ++ ((l.take k).map eS).flatten
/-- A profile's bytes. -/
def profS (l : List Edge) : List Int := pS l l.length
def wB (l : List Edge) : Bool := decide (l.length ≤ 2000) && l.all eB
theorem pS_step (l : List Edge) (k : Nat) (h : k < l.length) : pS l (k + 1) = pS l k ++ nmS l[k].1 ++ putS l[k].2.1 2 ++ putS l[k].2.2.1 2 ++ fpS l[k].2.2.2 := by
  unfold pS
  rw [List.take_add_one, List.map_append, List.flatten_append, List.getElem?_eq_getElem h]
  simp [eS]
theorem fpS_len (b : Nat) : (fpS b).length = 8 := rfl
theorem putS2_len (n : Int) : (putS n 2).length = 2 := rfl
theorem nmS_len {s : ByteArray} (h : namedB s = true) : (nmS s).length ≤ 33 ∧ s.size ≤ 32 := by
  have hs : s.size ≤ 32 := by unfold namedB at h; simp at h; omega
  unfold nmS
  rw [List.length_cons, bytesOf_length]
  omega
theorem pS_len (l : List Edge) (hl : ∀ e ∈ l, eB e = true) : ∀ k, k ≤ l.length → (pS l k).length ≤ 6 + 45 * k := by
  intro k
  induction k with
  | zero => intro _; unfold pS; simp [putS2_len]
  | succ k ih =>
    intro hk
    rw [pS_step l k (by omega)]
    have h1 := hl l[k] (List.getElem_mem (by omega))
    have h2 : namedB l[k].1 = true := by unfold eB at h1; simp only [Bool.and_eq_true] at h1; exact h1.1.1
    have h3 := (nmS_len h2).1
    have h4 := ih (by omega)
    simp only [List.length_append, putS2_len, fpS_len]
    omega
theorem pS_len' (l : List Edge) (k : Nat) (hk : k ≤ l.length) (hl : ∀ e ∈ l.take k, eB e = true) : (pS l k).length ≤ 6 + 45 * k := by
  have h := pS_len (l.take k) hl k (by rw [List.length_take]; omega)
  unfold pS at h ⊢
  rw [List.take_take, Nat.min_self] at h
  simp only [List.length_append, putS2_len] at h ⊢
  exact h
/-- What writing edges answers. -/
def WPost (w : World) (l : List Edge) (e : Ending) (w' : World) : Prop :=
  ((wB l = true ∧ ∃ v, e = .returned (.tuple #[v, .int .i64 0]) ∧ RB w' w.heap.size v (profS l)) ∨ (wB l = false ∧ e = .returned (.tuple #[.slice none 0 0, .int .i64 4]))) ∧ Below w.heap.size w w'
theorem wB_bad {l : List Edge} (k : Nat) (h : k < l.length) (hb : eB l[k] = false) : wB l = false := by
  unfold wB
  have : l.all eB = false := by
    rw [List.all_eq_false]
    exact ⟨l[k], List.getElem_mem h, by rw [hb]; decide⟩
  rw [this, Bool.and_false]
theorem wB_ok {l : List Edge} (h1 : l.length ≤ 2000) (hl : ∀ e ∈ l, eB e = true) : wB l = true := by
  unfold wB
  rw [decide_eq_true h1, Bool.true_and, List.all_eq_true]
  exact hl
set_option maxRecDepth 100000 in
set_option maxHeartbeats 1000000 in
theorem wwrite_c (A : Option Addr) (c : Nat) (l : List Edge) (w : World) (hC : CE w A l) (hc : l.length ≤ c) (hl : ∀ e ∈ l, e.2.2.2 < 18446744073709551616 ∧ e.1.size ≤ 140737488351232) :
    Calls Try.prog 58 #[.slice A l.length c] w (WPost w l) := by
  have HC := hid hC
  have HL := hid hl
  have kc := const_c
  clear hC hl
  by_cases hbig : (2000 : Int) < (l.length : Int)
  · have hw : wB l = false := by unfold wB; rw [decide_eq_false (by omega)]; rfl
    have HW := hid hw
    clear hw
    go_enter Try.func58, Try.ntmps58
    go_wp2
    go_ret2
    exact ⟨.inr ⟨HW.out, rfl⟩, Below.refl _ _⟩
  go_enter Try.func58, Try.ntmps58
  go_wp2_with fail
  refine (sput_c (l.length : Int) 2 (by omega) (by omega) _).mono ?_
  rintro e' w2 ⟨A2, c2, rfl, hc2, hC2, hb2⟩
  have hpl : (putS (l.length : Int) 2).length = 2 := rfl
  obtain ⟨ad2, rfl⟩ := C_some hC2 (by omega)
  have hK2 : CB w2 (some ⟨w.heap.size, 0, none⟩) [83, 80, 80, 49] := const_4 (blk_below (blk_new w _) hb2)
  have hB2 : Below w.heap.size w w2 := below_step (below_alloc (Below.refl _ _) _) hb2
  have H2 := hid (And.intro hK2 (And.intro hC2 hB2))
  have HPL := hid hpl
  clear hC2 hb2 hK2 hB2 hpl
  go_wp2_with (at_builtin; refine grow_c rfl (.tmp 11) (.tmp 14) rfl ⟨w.heap.size, 0, none⟩ ad2 [83, 80, 80, 49] (putS (l.length : Int) 2) c2 rfl rfl H2.out.1 H2.out.2.1 (by decide) (by have := HPL.out; omega) (by have := HPL.out; simp only [List.length_cons, List.length_nil]; omega) ?_; intro v4 w4 hr hb; have H4 := hid (And.intro hr hb); clear hr hb)
  have hR4 := Kd.R_lower H4.out.1 H2.out.2.2.size
  have H5 := hid (And.intro hR4 (below_step H2.out.2.2 H4.out.2))
  clear hR4 H4 H2
  go_loopw [4, 18] (fun s4 s18 wx => ∃ (k : Nat), k ≤ l.length ∧ s18 = .int .i64 k ∧ Hid (RB wx w.heap.size s4 (pS l k) ∧ Below w.heap.size w wx ∧ ∀ e ∈ l.take k, eB e = true)) (fun _ s18 _ => l.length - (intOf s18).toNat)
  case atStart => exact ⟨0, by omega, rfl, hid ⟨by simpa [pS] using H5.out.1, H5.out.2, by simp⟩⟩
  case round =>
    obtain ⟨k, hk, rfl, hI⟩ := hrel
    by_cases hlt : (k : Int) < (l.length : Int)
    · have hk1 : k < l.length := by omega
      obtain ⟨ad, rfl, c0, c1, c2, c3⟩ := edge_cells (Kd.C_below HC.out hI.out.2.1) k hk1
      have hst := store_edge wr (.string l[k].1) (.int .i64 l[k].2.1) (.int .i64 l[k].2.2.1) l[k].2.2.2
      have hx := HL.out _ (List.getElem_mem hk1)
      have hstep := pS_step l k hk1
      have hlen := pS_len' l k hk hI.out.2.2
      have hbad := fun h => wB_bad k hk1 h
      have hall : eB l[k] = true → ∀ e ∈ l.take (k + 1), eB e = true := by
        intro h e he
        rw [List.take_add_one, List.getElem?_eq_getElem hk1] at he
        rcases List.mem_append.1 he with he | he
        · exact hI.out.2.2 e he
        · simp at he; subst he; exact h
      obtain ⟨E, hE⟩ : ∃ E, E = l[k] := ⟨_, rfl⟩
      rw [← hE] at c0 c1 c2 c3 hst hx hstep hbad hall
      obtain ⟨O, hO⟩ : ∃ O, O = pS l k := ⟨_, rfl⟩
      have hRO := hI.out.1
      rw [← hO] at hRO hstep hlen
      obtain ⟨nm, fr, tq, b⟩ := E
      have HX := hid (And.intro hx (And.intro hstep (And.intro hlen (And.intro hbad hall))))
      obtain ⟨W, hW⟩ : ∃ W, W = wr.alloc (.cells #[.string nm, .int .i64 fr, .int .i64 tq, .float .f64 b] 73) := ⟨_, rfl⟩
      have hB := below_alloc hI.out.2.1 (.cells #[.string nm, .int .i64 fr, .int .i64 tq, .float .f64 b] 73)
      have hN := blk_new wr (.cells #[.string nm, .int .i64 fr, .int .i64 tq, .float .f64 b] 73)
      have hR := Kd.R_below hRO (below_alloc (Below.refl wr.heap.size wr) (.cells #[.string nm, .int .i64 fr, .int .i64 tq, .float .f64 b] 73))
      rw [← hW] at hB hN hR
      have H6 := hid (And.intro hR (And.intro hB hN))
      have HWW := hid hW
      clear hx hstep hlen hbad hall hE hO hRO hI hB hN hR hW
      have e3 : IntKind.i64.wrap ((k : Int) + 1) = (k : Int) + 1 := IntWalk.i64_in _ (by omega)
      go_wp2_with fail
      rw [← HWW.out]
      clear hst c0 c1 c2 c3 HWW
      rcases Bool.eq_false_or_eq_true (namedB nm) with hn | hn
      · have hnl := nmS_len hn
        have HN := hid (And.intro hn hnl)
        have hkn := named_c nm W HX.out.1.2
        rw [hn] at hkn
        clear hn hnl
        refine hkn.mono ?_
        clear hkn
        rintro e' w7 ⟨rfl, hb⟩
        have hN7 := blk_below H6.out.2.2 hb
        have c0 : w7.cell? ⟨wr.heap.size, 0, none⟩ = some (.string nm) := blk_cell hN7 0
        have c1 : w7.cell? ⟨wr.heap.size, 1, none⟩ = some (.int .i64 fr) := blk_cell hN7 1
        have c2 : w7.cell? ⟨wr.heap.size, 2, none⟩ = some (.int .i64 tq) := blk_cell hN7 2
        have H7 := hid (And.intro (Kd.R_below H6.out.1 hb) (And.intro (below_step H6.out.2.1 hb) hN7))
        clear hN7 hb H6
        go_wp2_with fail
        rcases Bool.eq_false_or_eq_true (inB fr) with hf | hf
        · have hkn := in_c fr w7
          rw [hf] at hkn
          have HF := hid hf
          clear hf
          refine hkn.mono ?_
          clear hkn
          rintro e' w8 ⟨rfl, rfl⟩
          go_wp2_with fail
          rcases Bool.eq_false_or_eq_true (inB tq) with ht | ht
          · have hkn := in_c tq w8
            rw [ht] at hkn
            have HT := hid ht
            clear ht
            refine hkn.mono ?_
            clear hkn
            rintro e' w9 ⟨rfl, rfl⟩
            go_wp2_with fail
            refine (putName_c nm HX.out.1.2 _).mono ?_
            rintro e' w10 ⟨v10, rfl, hR, hb⟩
            obtain ⟨A10, c10, rfl, hc10, hC10⟩ := Kd.R_reads hR
            obtain ⟨pn, hpn⟩ : ∃ pn, pn = ((nm.size : Int) % 256 :: bytesOf nm) := ⟨_, rfl⟩
            rw [← hpn] at hc10 hC10 ⊢
            have hpl : pn.length ≤ 33 := by rw [hpn]; exact HN.out.2.1
            have hN10 := blk_below H7.out.2.2 hb
            have H10 := hid (And.intro (Kd.R_below H7.out.1 hb) (And.intro hC10 (And.intro (below_step H7.out.2.1 hb) hN10)))
            have HP := hid (And.intro hpn hpl)
            have hl10 : O.length + pn.length ≤ 140737488355328 := by have := HX.out.2.2.1; omega
            clear hR hC10 hb hN10 hpn hpl H7 c0 c1 c2
            go_wp2_with (at_builtin; refine app_c (w0 := w) w.heap.size rfl (.tmp 38) (.tmp 41) rfl _ (O) (pn) A10 c10 rfl rfl H10.out.1 H10.out.2.1 H10.out.2.2.1 H10.out.2.2.1.size hl10 ?_; intro vN wN hr hb hg hat; have hN := blk_grown H10.out.2.2.2 hg (fun e => by have h1 := Kd.R_types H10.out.1 H10.out.2.2.2 (by simp [Kd.int, Kd.scalar]); exact h1.1 _ e.symm |>.2 rfl); have c1 : wN.cell? ⟨wr.heap.size, 1, none⟩ = some (.int .i64 fr) := blk_cell hN 1; have H11 := hid (And.intro hr (And.intro hb hN)); clear hr hb hg hat hN hl10)
            refine (sput_c fr 2 (by omega) (by omega) _).mono ?_
            rintro e' wM ⟨A12, c12, rfl, hcx, hCx, hb⟩
            have hN := blk_below H11.out.2.2 hb
            have H12 := hid (And.intro (Kd.R_below H11.out.1 hb) (And.intro hCx (And.intro (below_step H11.out.2.1 hb) hN)))
            have hlx : (O ++ pn).length + (putS fr 2).length ≤ 140737488355328 := by
              have h1 := HX.out.2.2.1
              have h2 := HP.out.2
              simp only [List.length_append, putS2_len]
              omega
            clear hCx hb hN H11 c1
            go_wp2_with (at_builtin; refine app_c (w0 := w) w.heap.size rfl (.tmp 43) (.tmp 46) rfl _ (O ++ pn) (putS fr 2) A12 c12 rfl rfl H12.out.1 H12.out.2.1 H12.out.2.2.1 H12.out.2.2.1.size hlx ?_; intro vN wN hr hb hg hat; have hN := blk_grown H12.out.2.2.2 hg (fun e => by have h1 := Kd.R_types H12.out.1 H12.out.2.2.2 (by simp [Kd.int, Kd.scalar]); exact h1.1 _ e.symm |>.2 rfl); have c2 : wN.cell? ⟨wr.heap.size, 2, none⟩ = some (.int .i64 tq) := blk_cell hN 2; have H13 := hid (And.intro hr (And.intro hb hN)); clear hr hb hg hat hN hlx)
            refine (sput_c tq 2 (by omega) (by omega) _).mono ?_
            rintro e' wM ⟨A14, c14, rfl, hcx, hCx, hb⟩
            have hN := blk_below H13.out.2.2 hb
            have H14 := hid (And.intro (Kd.R_below H13.out.1 hb) (And.intro hCx (And.intro (below_step H13.out.2.1 hb) hN)))
            have hlx : (O ++ pn ++ putS fr 2).length + (putS tq 2).length ≤ 140737488355328 := by
              have h1 := HX.out.2.2.1
              have h2 := HP.out.2
              simp only [List.length_append, putS2_len]
              omega
            clear hCx hb hN H13 c2
            go_wp2_with (at_builtin; refine app_c (w0 := w) w.heap.size rfl (.tmp 48) (.tmp 51) rfl _ (O ++ pn ++ putS fr 2) (putS tq 2) A14 c14 rfl rfl H14.out.1 H14.out.2.1 H14.out.2.2.1 H14.out.2.2.1.size hlx ?_; intro vN wN hr hb hg hat; have hN := blk_grown H14.out.2.2.2 hg (fun e => by have h1 := Kd.R_types H14.out.1 H14.out.2.2.2 (by simp [Kd.int, Kd.scalar]); exact h1.1 _ e.symm |>.2 rfl); have c3 : wN.cell? ⟨wr.heap.size, 3, none⟩ = some (.float .f64 b) := blk_cell hN 3; have H15 := hid (And.intro hr (And.intro hb hN)); clear hr hb hg hat hN hlx)
            refine (putfloat_c b HX.out.1.1 _).mono ?_
            rintro e' wM ⟨vM, rfl, hR, hb⟩
            obtain ⟨pf, hpf⟩ : ∃ pf, pf = fpS b := ⟨_, rfl⟩
            have hR' : RB wM wN.heap.size vM pf := by rw [hpf]; exact hR
            have hpl : pf.length = 8 := by rw [hpf]; rfl
            obtain ⟨A16, c16, rfl, hc16, hC16⟩ := Kd.R_reads hR'
            have hN := blk_below H15.out.2.2 hb
            have H16 := hid (And.intro (Kd.R_below H15.out.1 hb) (And.intro hC16 (And.intro (below_step H15.out.2.1 hb) hN)))
            have hlx : (O ++ pn ++ putS fr 2 ++ putS tq 2).length + pf.length ≤ 140737488355328 := by
              have h1 := HX.out.2.2.1
              have h2 := HP.out.2
              simp only [List.length_append, putS2_len]
              omega
            have HPF := hid hpf
            clear hR hR' hb hN hC16 hpf hpl H15 c3
            go_wp2_with (at_builtin; refine app_c (w0 := w) w.heap.size rfl (.tmp 53) (.tmp 56) rfl _ (O ++ pn ++ putS fr 2 ++ putS tq 2) (pf) A16 c16 rfl rfl H16.out.1 H16.out.2.1 H16.out.2.2.1 H16.out.2.2.1.size hlx ?_; intro vN wN hr hb hg hat; have hN := blk_grown H16.out.2.2.2 hg (fun e => by have h1 := Kd.R_types H16.out.1 H16.out.2.2.2 (by simp [Kd.int, Kd.scalar]); exact h1.1 _ e.symm |>.2 rfl); have H17 := hid (And.intro hr (And.intro hb hN)); clear hr hb hg hat hN hlx)
            go_roundw
            case rel =>
              refine ⟨k + 1, by omega, by go_num, hid ⟨?_, H17.out.2.1, HX.out.2.2.2.2 ?_⟩⟩
              · have h := H17.out.1
                rw [HP.out.1, HPF.out] at h
                have hs := HX.out.2.1
                rw [hs]
                exact h
              · unfold eB
                simp only [HN.out.1, HF.out, HT.out, Bool.and_self]
            case measure => simp [intOf]; omega
          · have hkn := in_c tq w8
            have hw := HX.out.2.2.2.1 (by unfold eB; simp [ht])
            rw [ht] at hkn
            have HW := hid (And.intro hw H7.out.2.1)
            clear ht hw
            refine hkn.mono ?_
            clear hkn
            rintro e' w9 ⟨rfl, rfl⟩
            go_wp2
            go_ret2
            exact ⟨.inr ⟨HW.out.1, rfl⟩, HW.out.2⟩
        · have hkn := in_c fr w7
          have hw := HX.out.2.2.2.1 (by unfold eB; simp [hf])
          rw [hf] at hkn
          have HW := hid (And.intro hw H7.out.2.1)
          clear hf hw
          refine hkn.mono ?_
          clear hkn
          rintro e' w9 ⟨rfl, rfl⟩
          go_wp2
          go_ret2
          exact ⟨.inr ⟨HW.out.1, rfl⟩, HW.out.2⟩
      · have hkn := named_c nm W HX.out.1.2
        have hw := HX.out.2.2.2.1 (by unfold eB; simp [hn])
        rw [hn] at hkn
        have HW := hid hw
        clear hn hw
        refine hkn.mono ?_
        clear hkn
        rintro e' w9 ⟨rfl, hb⟩
        have HB := hid (below_step H6.out.2.1 hb)
        clear hb
        go_wp2
        go_ret2
        exact ⟨.inr ⟨HW.out, rfl⟩, HB.out⟩
    · have hk1 : k = l.length := by omega
      subst hk1
      have hw : wB l = true := wB_ok (by omega) (by have := hI.out.2.2; rw [List.take_length] at this; exact this)
      have HW := hid hw
      clear hw
      go_wp2
      go_ret2
      exact ⟨.inl ⟨HW.out, _, rfl, hI.out.1⟩, hI.out.2.1⟩
end Go.Proofs.Ytmcfihpbiilbcaa.H
