/- WeightWrites' walk. -/
import Derived.Test.YtmcfihpbiilbcaaWgL
import Derived.Test.YtmcfihpbiilbcaaImgG
namespace Go.Proofs.Ytmcfihpbiilbcaa.H
open Go.RowKit Go.Proofs.YtmcfihpbiilbcaaW.PrintWords Go.Proofs.YtmcfihpbiilbcaaW.PrintLast Go.Proofs.YtmcfihpbiilbcaaW.PrintMore Go.Proofs.Ytmcfihpbiilbcaa.E
set_option linter.unusedVariables false
set_option linter.unusedSimpArgs false
def okK (l : List Edge) (k : Nat) : Bool := decide (l.length ≤ 2000) && (l.take k).all eB
theorem okK_step (l : List Edge) (k : Nat) (h : k < l.length) : okK l (k + 1) = (okK l k && eB l[k]) := by
  unfold okK
  rw [List.take_add_one, List.getElem?_eq_getElem h]
  simp only [List.all_append, Option.toList_some, List.all_cons, List.all_nil, Bool.and_true, Bool.and_assoc]
theorem okK_all (l : List Edge) : okK l l.length = wB l := by unfold okK wB; rw [List.take_length]
/-- What the law has gathered: a row; if all edges may be written so far, it is their bytes. -/
def Gath (l : List Edge) (k : Nat) (ok : Bool) (O : List Int) : Prop := ok = okK l k ∧ O.length ≤ 6 + 45 * k ∧ ((∀ e ∈ l.take k, eB e = true) → O = pS l k)
theorem gath0 (l : List Edge) (n : Int) (hn : n = l.length) : Gath l 0 (decide ((l.length : Int) ≤ 2000)) ([83, 80, 80, 49] ++ putS n 2) := by
  refine ⟨?_, by simp [putS2_len], fun _ => by rw [hn]; unfold pS; simp⟩
  unfold okK
  simp
  omega
theorem gath_no (l : List Edge) (k : Nat) (h : k < l.length) (ok : Bool) (O : List Int) (hg : Gath l k ok O) (hb : eB l[k] = false) : Gath l (k + 1) false O := by
  refine ⟨by rw [okK_step l k h, hb, Bool.and_false], by have := hg.2.1; omega, fun ha => ?_⟩
  have := ha l[k] (by rw [List.take_add_one, List.getElem?_eq_getElem h]; exact List.mem_append_right _ (List.mem_singleton.2 rfl))
  rw [hb] at this
  cases this
theorem eS_len {e : Edge} (h : eB e = true) : (eS e).length ≤ 45 := by
  have h2 := (nmS_len (eB_spec h).1).1
  unfold eS
  simp only [List.length_append, putS2_len, fpS_len]
  omega
theorem gath_yes (l : List Edge) (k : Nat) (h : k < l.length) (ok : Bool) (O : List Int) (hg : Gath l k ok O) (hb : eB l[k] = true) : Gath l (k + 1) ok (O ++ eS l[k]) := by
  refine ⟨by rw [okK_step l k h, hb, Bool.and_true]; exact hg.1, by have := hg.2.1; have := eS_len hb; rw [List.length_append]; omega, fun ha => ?_⟩
  rw [pS_step l k h, hg.2.2 (fun e he => ha e (by rw [List.take_add_one]; exact List.mem_append_left _ he))]
  unfold eS
  simp only [List.append_assoc]
theorem gath_end {l : List Edge} {ok : Bool} {O : List Int} (hg : Gath l l.length ok O) : ok = wB l ∧ (wB l = true → O = profS l) := by
  refine ⟨by rw [hg.1, okK_all], fun hw => hg.2.2 ?_⟩
  rw [List.take_length]
  unfold wB at hw
  simp only [Bool.and_eq_true, List.all_eq_true] at hw
  exact hw.2
theorem same_self (O : List Int) (h : O.length ≤ 4611686018427387904) (A3 A7 : Option Addr) (c3 c7 : Nat) (w : World) (h3 : CB w A3 O) (g3 : O.length ≤ c3) (h7 : CB w A7 O) (g7 : O.length ≤ c7) : Calls Try.prog 32 #[.slice A3 O.length c3, .slice A7 O.length c7] w fun e w' => e = .returned (.bool true) ∧ Drawn0 w w' :=
  spliceref01_Same.calls (O.length + 1) A3 c3 O A7 c7 O true w h3 g3 h7 g7 (by rw [refSame_k _ _ h _ (by omega)]; simp)
theorem prof_len {l : List Edge} (h : wB l = true) : (profS l).length ≤ 4611686018427387904 := by
  unfold wB at h
  simp only [Bool.and_eq_true, List.all_eq_true, decide_eq_true_eq] at h
  have := pS_len l h.2 l.length (Nat.le_refl _)
  unfold profS
  omega
set_option maxRecDepth 100000 in
set_option maxHeartbeats 1000000 in
theorem wwrites_c (A : Option Addr) (c : Nat) (l : List Edge) (w : World) (hC : CE w A l) (hc : l.length ≤ c) (hl : ∀ e ∈ l, e.2.2.2 < 18446744073709551616 ∧ e.1.size ≤ 140737488351232) :
    Calls Try.prog 12 #[.slice A l.length c] w fun e w' => e = .returned (.bool true) ∧ Below w.heap.size w w' := by
  have HC := hid hC
  have HL := hid hl
  clear hC hl
  by_cases hbig : (2100 : Int) < (l.length : Int)
  · go_enter Try.func12, Try.ntmps12
    go_wp2_with fail
    refine (awake24_c _).mono ?_
    rintro e w1 ⟨rfl, hb⟩
    have H1 := hid hb
    clear hb
    go_wp2_with fail
    refine (awake24_c _).mono ?_
    rintro e w2 ⟨rfl, hb⟩
    have H2 := hid (below_step H1.out hb)
    clear hb
    go_wp2
    go_ret
    exact ⟨rfl, H2.out⟩
  have e2 : IntKind.u32.wrap (l.length : Int) = (l.length : Int) := by rw [IntKind.wrap_u32]; omega
  go_enter Try.func12, Try.ntmps12
  go_wp2_with fail
  refine (awake24_c _).mono ?_
  rintro e w1 ⟨rfl, hb⟩
  have H1 := hid hb
  clear hb
  go_wp2_with fail
  refine (wwrite_c A c l w1 (Kd.C_below HC.out H1.out) hc HL.out).mono ?_
  rintro e w2 ⟨hp_, hb⟩
  obtain ⟨Q, hQ⟩ : ∃ Q, Q = profS l := ⟨_, rfl⟩
  have hBw : ∃ v x, e = .returned (.tuple #[v, .int .i64 x]) ∧ ((wB l = true ∧ x = 0 ∧ ∃ A c, v = .slice A Q.length c ∧ Q.length ≤ c ∧ CB w2 A Q) ∨ (wB l = false ∧ x = 4 ∧ v = .slice none 0 0)) := by
    rw [← hQ] at hp_
    rcases hp_ with ⟨h1, v, rfl, hR⟩ | ⟨h1, rfl⟩
    · obtain ⟨A3, c3, rfl, h3, h4⟩ := Kd.R_reads hR
      exact ⟨_, 0, rfl, .inl ⟨h1, rfl, A3, c3, rfl, h3, h4⟩⟩
    · exact ⟨_, 4, rfl, .inr ⟨h1, rfl, rfl⟩⟩
  obtain ⟨v, x, rfl, hv⟩ := hBw
  have HV := hid hv
  have H2 := hid (below_step H1.out hb)
  have kc := const_at w2 w2.heap.size rfl
  have HQQ := hid hQ
  clear hp_ hb hv H1 hQ
  go_wp2_with fail
  refine (rput_c (l.length : Int) (by omega) (by omega) _).mono ?_
  rintro e w4 ⟨A4, c4, rfl, hc4, hC4, hb⟩
  have hK := const_4 (blk_below (blk_new w2 (.cells #[.int .u8 83, .int .u8 80, .int .u8 80, .int .u8 49] 5 (4, 5))) hb)
  have hC2 : CB w4 (some A4) (putS (l.length : Int) 2) := Kd.C_take hC4 (m := 2) (by exact (by decide : 2 ≤ 4))
  have hB4 := below_step (below_alloc H2.out (.cells #[.int .u8 83, .int .u8 80, .int .u8 80, .int .u8 49] 5 (4, 5))) hb
  have hb2 : Below w2.heap.size w2 w4 := below_step (below_alloc (Below.refl _ _) (.cells #[.int .u8 83, .int .u8 80, .int .u8 80, .int .u8 49] 5 (4, 5))) hb
  have H4 := hid (And.intro hK (And.intro hC2 (And.intro hB4 hb2)))
  have hc42 : 2 ≤ c4 := by rw [putS4_len] at hc4; omega
  clear hK hC2 hB4 hb2 hb hC4 kc hc4
  go_wp2_with (at_builtin; refine grow_c rfl (.tmp 22) (.tmp 27) rfl ⟨w2.heap.size, 0, none⟩ A4 [83, 80, 80, 49] (putS (l.length : Int) 2) c4 rfl rfl H4.out.1 H4.out.2.1 (by decide) (by rw [putS2_len]; decide) (by rw [putS2_len]; decide) ?_; intro v5 w5 hr hb; have H5 := hid (And.intro (Kd.R_lower hr H4.out.2.2.2.size) (And.intro (below_step H4.out.2.2.1 hb) (below_step H4.out.2.2.2 hb))); clear hr hb)
  have hG := gath0 l l.length rfl
  obtain ⟨O0, hO0⟩ : ∃ O, O = [83, 80, 80, 49] ++ putS (l.length : Int) 2 := ⟨_, rfl⟩
  have hR5 := H5.out.1
  rw [← hO0] at hG hR5
  have H6 := hid (And.intro hG hR5)
  clear hG hR5 hO0
  go_loopw [5, 6, 7] (fun s5 s6 s7 wx => ∃ (k : Nat) (ok : Bool) (O : List Int), k ≤ l.length ∧ s7 = .int .i64 k ∧ s6 = .bool ok ∧ Hid (Gath l k ok O ∧ RB wx w2.heap.size s5 O ∧ Below w.heap.size w wx ∧ Below w2.heap.size w2 wx)) (fun _ _ s7 _ => l.length - (intOf s7).toNat)
  case atStart => exact ⟨0, _, O0, by omega, rfl, rfl, hid ⟨H6.out.1, H6.out.2, H5.out.2.1, H5.out.2.2⟩⟩
  case round =>
    obtain ⟨k, ok, O, hk, rfl, rfl, hI⟩ := hrel
    by_cases hlt : (k : Int) < (l.length : Int)
    · have hk1 : k < l.length := by omega
      obtain ⟨ad, rfl, c0, c1, c2, c3⟩ := edge_cells (Kd.C_below HC.out hI.out.2.2.1) k hk1
      have e3 : IntKind.i64.wrap ((k : Int) + 1) = (k : Int) + 1 := IntWalk.i64_in _ (by omega)
      cases hE : eB l[k] with
      | false =>
        have hg := gath_no l k hk1 ok O hI.out.1 hE
        have HG := hid hg
        have hm := may24_c l[k].1 l[k].2.1 l[k].2.2.1 l[k].2.2.2 false hE
        have HMy := hid hm
        clear hg hE hm
        go_wp2_with fail
        refine (HMy.out _).mono ?_
        rintro e w7 ⟨rfl, hb⟩
        have H7 := hid (And.intro (Kd.R_below hI.out.2.1 hb) (And.intro (below_step hI.out.2.2.1 hb) (below_step hI.out.2.2.2 hb)))
        clear hb c0 c1 c2 c3
        go_wp2
        go_roundw
        case rel => exact ⟨k + 1, false, O, by omega, by go_num, rfl, hid ⟨HG.out, H7.out.1, H7.out.2.1, H7.out.2.2⟩⟩
        case measure => simp [intOf]; omega
      | true =>
        have hg := gath_yes l k hk1 ok O hI.out.1 hE
        have hle := eS_len hE
        have hb64 := (HL.out _ (List.getElem_mem hk1)).1
        have hm := may24_c l[k].1 l[k].2.1 l[k].2.2.1 l[k].2.2.2 true hE
        have hp := put24_c l[k].1 l[k].2.1 l[k].2.2.1 l[k].2.2.2 hE hb64
        obtain ⟨ES, hES⟩ : ∃ ES, ES = eS l[k] := ⟨_, rfl⟩
        have hp' : ∀ w, Calls Try.prog 60 #[.agg #[.string l[k].1, .int .i64 l[k].2.1, .int .i64 l[k].2.2.1, .float .f64 l[k].2.2.2]] w fun e w' => ∃ v, e = .returned v ∧ RB w' w.heap.size v ES ∧ Below w.heap.size w w' := by rw [hES]; exact hp
        rw [← hES] at hg hle
        have HG := hid (And.intro hg hle)
        have HMy := hid hm
        have HPt := hid hp'
        have HOl := hid hI.out.1.2.1
        clear hg hE hm hp hp' hES hle hb64
        go_wp2_with fail
        refine (HMy.out _).mono ?_
        rintro e w7 ⟨rfl, hb⟩
        have H7 := hid (And.intro (Kd.R_below hI.out.2.1 hb) (And.intro (below_step hI.out.2.2.1 hb) (below_step hI.out.2.2.2 hb)))
        have q0 := (hb.cell (World.block_lt_of_cell? _ _ c0)).trans c0
        have q1 := (hb.cell (World.block_lt_of_cell? _ _ c1)).trans c1
        have q2 := (hb.cell (World.block_lt_of_cell? _ _ c2)).trans c2
        have q3 := (hb.cell (World.block_lt_of_cell? _ _ c3)).trans c3
        clear hb c0 c1 c2 c3
        go_wp2_with fail
        refine (HPt.out _).mono ?_
        rintro e w8 ⟨v8, rfl, hR, hb⟩
        obtain ⟨A8, c8, rfl, hc8, hC8⟩ := Kd.R_reads hR
        have H8 := hid (And.intro (Kd.R_below H7.out.1 hb) (And.intro hC8 (And.intro (below_step H7.out.2.1 hb) (below_step H7.out.2.2 hb))))
        have hlx : O.length + ES.length ≤ 140737488355328 := by have h1 := HOl.out; have h2 := HG.out.2; omega
        clear hb hR hC8 q0 q1 q2 q3
        go_wp2_with (at_builtin; refine app_c (w0 := w2) w2.heap.size rfl (.tmp 44) (.tmp 49) rfl _ O ES A8 c8 rfl rfl H8.out.1 H8.out.2.1 H8.out.2.2.2 H8.out.2.2.2.size hlx ?_; intro vN wN hr hb hg hat; have H9 := hid (And.intro hr hb); clear hr hb hg hat hlx)
        go_roundw
        case rel => exact ⟨k + 1, ok, O ++ ES, by omega, by go_num, rfl, hid ⟨HG.out.1, H9.out.1, H2.out.trans (H9.out.2.mono H2.out.size), H9.out.2⟩⟩
        case measure => simp [intOf]; omega
    · have hk1 : k = l.length := by omega
      subst hk1
      obtain ⟨hok, hO⟩ := gath_end hI.out.1
      obtain ⟨A7, c7, rfl, hc7, hC7⟩ := Kd.R_reads hI.out.2.1
      rcases HV.out with ⟨g1, rfl, A3, c3, rfl, h3, h4⟩ | ⟨g1, rfl, rfl⟩
      · have hz := prof_len g1
        rw [g1] at hok
        subst hok
        have hOQ : O = Q := by rw [HQQ.out]; exact hO g1
        rw [← HQQ.out] at hz
        clear HQQ
        subst hOQ
        have HQ := hid (And.intro (Kd.C_below h4 hI.out.2.2.2) (And.intro hC7 hI.out.2.2.1))
        clear hO h4 hC7 hI g1
        go_wp2_with fail
        refine (same_self O hz A3 A7 c3 c7 wr HQ.out.1 h3 HQ.out.2.1 hc7).mono ?_
        rintro e w9 ⟨rfl, ⟨nd, rfl⟩⟩
        have H9 := hid (pw_below_drewN HQ.out.2.2 nd)
        go_wp2
        go_ret
        exact ⟨rfl, H9.out⟩
      · rw [g1] at hok
        subst hok
        have HQ := hid hI.out.2.2.1
        clear hO hI g1 hC7
        go_wp2
        go_ret
        exact ⟨rfl, HQ.out⟩
end Go.Proofs.Ytmcfihpbiilbcaa.H
