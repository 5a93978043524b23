/- weight.Read's reader on a profile's bytes. -/
import Derived.Test.YtmcfihpbiilbcaaWgE
import Derived.Test.YtmcfihpbiilbcaaImgF
namespace Go.Proofs.Ytmcfihpbiilbcaa.H
open Go.RowKit Go.Proofs.YtmcfihpbiilbcaaW.PrintWords Go.Proofs.YtmcfihpbiilbcaaW.PrintLast Go.Proofs.YtmcfihpbiilbcaaW.PrintMore Go.Proofs.Ytmcfihpbiilbcaa.E
set_option linter.unusedVariables false
set_option linter.unusedSimpArgs false
theorem enter_97 (args : Array Value) (w : World) : (callFunc 97 args).run Try.prog w = .ok (.enter 97 args) w := Go.MuLone.run_callFunc_enter Try.func97 (by kernel_rfl) rfl args w
theorem info73 : (Try.prog.info? 73).map (fun i => (i.zero, i.size, i.bytes)) = some (some (.agg #[.string ⟨#[]⟩, .int .i64 0, .int .i64 0, .float .f64 0]), 4, 40) := by kernel_rfl
theorem KE_M {w : World} {base : Nat} {ok : Nat → Prop} {nm : ByteArray} {fr tq : Int} {f : Nat} : KE.M w base ok (nm, fr, tq, f) [.string nm, .int .i64 fr, .int .i64 tq, .float .f64 f] :=
  ⟨[.string nm], [.int .i64 fr, .int .i64 tq, .float .f64 f], rfl, rfl, [.int .i64 fr], [.int .i64 tq, .float .f64 f], rfl, rfl, [.int .i64 tq], [.float .f64 f], rfl, rfl, rfl⟩
abbrev RE (w : World) (base : Nat) (v : Value) (l : List Edge) : Prop := Kd.R KE 73 w base (fun _ => True) v l
def ProfPost (w : World) (N n0 : Nat) (L : List Edge) (w2 : World) (x : Int) : Prop := x = 0 ∧ Below n0 w w2 ∧ w2.heap[w.heap.size]? = some (.cells #[.int .i64 0] 25 (0, 0)) ∧ ∃ v, w2.heap[N]? = some (.cells #[v] 69 (0, 0)) ∧ RE w2 n0 v L
set_option maxRecDepth 100000 in
set_option maxHeartbeats 2000000 in
theorem read97 (w w1 : World) (B N n0 : Nat) (L : List Edge) (hF : Fresh w w1 B (profS L)) (hN : w.heap[N]? = some (.cells #[.slice none 0 0] 69 (0, 0))) (hle : n0 ≤ N) (hL : ∀ e ∈ L, eB e = true ∧ e.2.2.2 < 18446744073709551616) (h2 : L.length ≤ 2000) :
    Calls Try.prog 97 (#[.pointer (some ⟨B, 0, none⟩)] ++ #[.pointer (some ⟨N, 0, none⟩)]) w1 (ReadPost w (profS L) B (ProfPost w N n0 L)) := by
  have HS := hid (St.start (t := 69) hF hN hle)
  clear hF hN
  have hby := profS_bytes L hL h2
  obtain ⟨dm, dc, dl, d0⟩ := dec0 L h2
  have hpl := pS_len L (fun e he => (hL e he).1) L.length (Nat.le_refl _)
  have hl : (profS L).length ≤ 140737488351232 := by unfold profS; omega
  have hmg : ((strOfNums (mid (profS L) 0 4)).toList == [83, 80, 80, 49]) = true := by rw [magicP_q (profS L) hby]; exact decide_eq_true dm
  have HMG := hid (And.intro dm hmg)
  have HDC := hid (And.intro dc d0)
  have HL := hid hL
  clear dm dc d0 hpl hmg hL
  go_enter Try.func97, Try.ntmps97
  go_wp2_with fail
  refine (bytes_c B (profS L) 0 4 _ HS.out.sc (Int.le_refl 0) (by omega) (by omega) hl).mono ?_
  rintro e w2 ⟨v, rfl, hR, hw⟩
  rw [Int.zero_add] at hw
  obtain ⟨A2, c2, rfl, hc2, hC2⟩ := Kd.R_reads hR
  have hstr := Kd.C_string (c := c2) Try.underlying22 Try.underlying5 Try.underlying9 hC2
  have H2 := hid (HS.out.scan hw)
  clear hw hR hC2 HS
  go_wp2_with fail
  rw [HMG.out.2]
  refine (must_c _ _).mono ?_
  rintro e w3 ⟨rfl, rfl⟩
  clear hstr
  go_wp2_with fail
  refine (count_c B (profS L) 4 2000 _ H2.out.sc (by omega) (by omega) hl hby (by rw [HDC.out.1]; omega)).mono ?_
  rintro e w4 ⟨rfl, hw⟩
  rw [HDC.out.1]
  have H4 := hid (H2.out.scan hw)
  clear hw H2
  go_wp2
  go_loopw [11] (fun s11 wx => ∃ (k : Nat) (v : Value) (i : Int), k ≤ L.length ∧ s11 = .int .i64 k ∧ Hid (i = ((pS L k).length : Int) ∧ St w B N n0 69 wx (profS L) i #[v] ∧ RE wx n0 v (L.take k))) (fun s11 _ => L.length - (intOf s11).toNat)
  case atStart => exact ⟨0, _, 6, by omega, rfl, hid ⟨HDC.out.2.symm, H4.out, by rw [List.take_zero]; exact Kd.R_nil _ _ _ _ _⟩⟩
  case round =>
    obtain ⟨k, v, i, hk, rfl, hI⟩ := hrel
    by_cases hlt : (k : Int) < (L.length : Int)
    · have hk1 : k < L.length := by omega
      obtain ⟨n, hn⟩ : ∃ n : Int, n = (L[k].1.size : Int) := ⟨_, rfl⟩
      have hE := HL.out _ (List.getElem_mem hk1)
      have hd := dec L k hk1 hE.1 hE.2 i n hI.out.1 hn
      have hls := pS_len_step L k hk1
      have htk : L.take k ++ [L[k]] = L.take (k + 1) := by rw [List.take_add_one, List.getElem?_eq_getElem hk1]; rfl
      rw [← hI.out.1, ← hn] at hls
      have hnb := (eB_spec hE.1).1
      generalize L[k] = E at *
      obtain ⟨nm, fr, tq, f⟩ := E
      obtain ⟨q1, q2, q3, q4, q5, q6⟩ := hd
      have hi0 : 0 ≤ i := by rw [hI.out.1]; omega
      have hn0 : 0 ≤ n := by rw [hn]; omega
      have HX := hid (And.intro q1 (And.intro q2 (And.intro q3 (And.intro q4 (And.intro q5 (And.intro hnb q6))))))
      obtain ⟨T6, hT6⟩ : ∃ T, T = L.take (k + 1) := ⟨_, rfl⟩
      rw [← hT6] at htk
      have HT := hid (And.intro htk hT6)
      have HLS := hid hls
      have HD := hid (And.intro hI.out.2.1.drew (Kd.R_drew hI.out.2.2))
      have i3 : IntKind.i64.wrap ((k : Int) + 1) = (k : Int) + 1 := IntWalk.i64_in _ (by omega)
      clear q1 q2 q3 q4 q5 q6 hnb hls htk hT6 hE hn hI
      go_wp2
      refine start_ (n := 13) (S := fun W => W.cell? ⟨N, 0, none⟩ = some v) (ds := [12]) #[false, false, false, false, false, false, false, false, false, false, false, false, false] (by kernel_rfl) rfl rfl (blk_cell HD.out.1.var 0) (fun hHeld => ?_)
      refine take_ (i := 0) (N := (some 13)) (v := ?_) (a' := ?_) #[true, false, false, false, false, false, false, false, false, false, false, false, false] rfl rfl (by kernel_rfl) (fun _ _ _ h => h) (Or.inl ⟨by rfl, ?_⟩) hHeld ?_ ?_
      rotate_left
      · rintro w' s0
        go_simp
        with_reducible rfl
      rotate_left
      · simp only [Act.put, List.setIfInBounds_toArray, List.set_cons_zero, List.set_cons_succ, i64_w]
        rfl
      refine pure_ (i := 1) (N := (some 14)) (v := ?_) (a' := ?_) #[true, true, false, false, false, false, false, false, false, false, false, false, false] rfl rfl (by kernel_rfl) (fun _ _ _ h => h) (Or.inl ⟨by rfl, ?_⟩) ?_ ?_
      rotate_left
      · intro w'
        go_simp
        with_reducible rfl
      rotate_left
      · simp only [Act.put, List.setIfInBounds_toArray, List.set_cons_zero, List.set_cons_succ, i64_w]
        rfl
      refine pure_ (i := 3) (N := (some 16)) (v := ?_) (a' := ?_) #[true, true, false, true, false, false, false, false, false, false, false, false, false] rfl rfl (by kernel_rfl) (fun _ _ _ h => h) (Or.inl ⟨by rfl, ?_⟩) ?_ ?_
      rotate_left
      · intro w'
        go_simp
        with_reducible rfl
      rotate_left
      · simp only [Act.put, List.setIfInBounds_toArray, List.set_cons_zero, List.set_cons_succ, i64_w]
        rfl
      refine pure_ (i := 5) (N := (some 18)) (v := ?_) (a' := ?_) #[true, true, false, true, false, true, false, false, false, false, false, false, false] rfl rfl (by kernel_rfl) (fun _ _ _ h => h) (Or.inl ⟨by rfl, ?_⟩) ?_ ?_
      rotate_left
      · intro w'
        go_simp
        with_reducible rfl
      rotate_left
      · simp only [Act.put, List.setIfInBounds_toArray, List.set_cons_zero, List.set_cons_succ, i64_w]
        rfl
      refine pure_ (i := 7) (N := (some 20)) (v := ?_) (a' := ?_) #[true, true, false, true, false, true, false, true, false, false, false, false, false] rfl rfl (by kernel_rfl) (fun _ _ _ h => h) (Or.inl ⟨by rfl, ?_⟩) ?_ ?_
      rotate_left
      · intro w'
        go_simp
        with_reducible rfl
      rotate_left
      · simp only [Act.put, List.setIfInBounds_toArray, List.set_cons_zero, List.set_cons_succ, i64_w]
        rfl
      refine one_ (i := 2) (N := (some 15)) #[true, true, true, true, false, true, false, true, false, false, false, false, false] rfl rfl (by kernel_rfl) (by decide) (fun K hK => ?_)
      refine goes_ Try.func42 (by kernel_rfl) rfl #[.pointer (some ⟨B, 0, none⟩)] (by rfl) rfl rfl (by first | rfl | (simp only [List.map_toArray, List.map_cons, List.map_nil]; rfl)) ?_
      refine (name_c B (profS L) i _ HD.out.1.sc (by omega) (by have := HX.out.2.2.2.2.2.2; omega) (by rw [HX.out.1]; have := HX.out.2.2.2.2.2.2; omega) (by rw [HX.out.1]; omega) hl hby (by rw [HX.out.2.1]; exact HX.out.2.2.2.2.2.1)).mono ?_
      rintro e' wA ⟨rfl, hw⟩
      have HD2 := hid (And.intro (HD.out.1.scan hw) (Kd.R_below (Kd.R_set HD.out.2 (g := B) (t := 106) HD.out.1.scb (by simp [KE, Kd.pair, Kd.int, Kd.scalar, Kd.string]) 1 _) (by simpa using hw)))
      clear hw HD
      rw [HX.out.2.1]
      refine ⟨_, rfl, ?_⟩
      refine hK.out _ _ (blk_cell HD2.out.1.var 0) (fun hHeld => ?_)
      clear hK K
      refine norm_ (a' := ?_) ?_ ?_
      rotate_left
      · show Act.put _ (some 15) _ = _
        simp only [Act.put, List.setIfInBounds_toArray, List.set_cons_zero, List.set_cons_succ, i64_w]
        rfl
      refine one_ (i := 4) (N := (some 17)) #[true, true, true, true, true, true, false, true, false, false, false, false, false] rfl rfl (by kernel_rfl) (by decide) (fun K hK => ?_)
      refine goes_ Try.func41 (by kernel_rfl) rfl #[.pointer (some ⟨B, 0, none⟩), .int .i64 2] (by rfl) rfl rfl (by first | rfl | (simp only [List.map_toArray, List.map_cons, List.map_nil]; rfl)) ?_
      refine (number_c B (profS L) (i + 1 + n) 2 _ (by have h := HD2.out.1.drew.sc; rw [HX.out.1] at h; exact h) (by omega) (by have := HX.out.2.2.2.2.2.2; omega) (by omega) hl hby).mono ?_
      rintro e' wA ⟨rfl, hw⟩
      have HD4 := hid (And.intro (HD2.out.1.scan hw) (Kd.R_below (Kd.R_set HD2.out.2 (g := B) (t := 106) HD2.out.1.scb (by simp [KE, Kd.pair, Kd.int, Kd.scalar, Kd.string]) 1 _) (by simpa using hw)))
      clear hw HD2
      rw [HX.out.2.2.1]
      refine ⟨_, rfl, ?_⟩
      refine hK.out _ _ (blk_cell HD4.out.1.var 0) (fun hHeld => ?_)
      clear hK K
      refine norm_ (a' := ?_) ?_ ?_
      rotate_left
      · show Act.put _ (some 17) _ = _
        simp only [Act.put, List.setIfInBounds_toArray, List.set_cons_zero, List.set_cons_succ, i64_w]
        rfl
      refine one_ (i := 6) (N := (some 19)) #[true, true, true, true, true, true, true, true, false, false, false, false, false] rfl rfl (by kernel_rfl) (by decide) (fun K hK => ?_)
      refine goes_ Try.func41 (by kernel_rfl) rfl #[.pointer (some ⟨B, 0, none⟩), .int .i64 2] (by rfl) rfl rfl (by first | rfl | (simp only [List.map_toArray, List.map_cons, List.map_nil]; rfl)) ?_
      refine (number_c B (profS L) (i + 1 + n + 2) 2 _ HD4.out.1.sc (by omega) (by have := HX.out.2.2.2.2.2.2; omega) (by omega) hl hby).mono ?_
      rintro e' wA ⟨rfl, hw⟩
      have HD6 := hid (And.intro (HD4.out.1.scan hw) (Kd.R_below (Kd.R_set HD4.out.2 (g := B) (t := 106) HD4.out.1.scb (by simp [KE, Kd.pair, Kd.int, Kd.scalar, Kd.string]) 1 _) (by simpa using hw)))
      clear hw HD4
      rw [HX.out.2.2.2.1]
      refine ⟨_, rfl, ?_⟩
      refine hK.out _ _ (blk_cell HD6.out.1.var 0) (fun hHeld => ?_)
      clear hK K
      refine norm_ (a' := ?_) ?_ ?_
      rotate_left
      · show Act.put _ (some 19) _ = _
        simp only [Act.put, List.setIfInBounds_toArray, List.set_cons_zero, List.set_cons_succ, i64_w]
        rfl
      refine one_ (i := 8) (N := (some 21)) #[true, true, true, true, true, true, true, true, true, false, false, false, false] rfl rfl (by kernel_rfl) (by decide) (fun K hK => ?_)
      refine goes_ Try.func43 (by kernel_rfl) rfl #[.pointer (some ⟨B, 0, none⟩)] (by rfl) rfl rfl (by first | rfl | (simp only [List.map_toArray, List.map_cons, List.map_nil]; rfl)) ?_
      refine (float_c B (profS L) (i + 1 + n + 2 + 2) _ HD6.out.1.sc (by omega) (by have := HX.out.2.2.2.2.2.2; omega) hl hby).mono ?_
      rintro e' wA ⟨rfl, hw⟩
      have HD8 := hid (And.intro (HD6.out.1.scan hw) (Kd.R_below (Kd.R_set HD6.out.2 (g := B) (t := 106) HD6.out.1.scb (by simp [KE, Kd.pair, Kd.int, Kd.scalar, Kd.string]) 1 _) (by simpa using hw)))
      clear hw HD6
      rw [HX.out.2.2.2.2.1]
      refine ⟨_, rfl, ?_⟩
      refine hK.out _ _ (blk_cell HD8.out.1.var 0) (fun hHeld => ?_)
      clear hK K
      refine norm_ (a' := ?_) ?_ ?_
      rotate_left
      · show Act.put _ (some 21) _ = _
        simp only [Act.put, List.setIfInBounds_toArray, List.set_cons_zero, List.set_cons_succ, i64_w]
        rfl
      refine pure_ (i := 9) (N := (some 22)) (v := ?_) (a' := ?_) #[true, true, true, true, true, true, true, true, true, true, false, false, false] rfl rfl (by kernel_rfl) (fun _ _ _ h => h) (Or.inl ⟨by rfl, ?_⟩) ?_ ?_
      rotate_left
      · intro w'
        go_simp
        with_reducible rfl
      rotate_left
      · simp only [Act.put, List.setIfInBounds_toArray, List.set_cons_zero, List.set_cons_succ, i64_w]
        rfl
      refine one_ (i := 10) (N := (some 23)) #[true, true, true, true, true, true, true, true, true, true, true, false, false] rfl rfl (by kernel_rfl) (by decide) (fun K hK => ?_)
      go_simp
      have HD10 := hid (And.intro (HD8.out.1.mem (below_alloc (Below.refl _ _) (.cells #[.string nm, .int .i64 fr, .int .i64 tq, .float .f64 f] 73))) (Kd.R_alloc HD8.out.2 (.cells #[.string nm, .int .i64 fr, .int .i64 tq, .float .f64 f] 73)))
      refine hK.out _ _ (blk_cell HD10.out.1.var 0) (fun hHeld => ?_)
      clear hK K
      refine one_ (i := 11) (N := (some 24)) #[true, true, true, true, true, true, true, true, true, true, true, true, false] rfl rfl (by kernel_rfl) (by decide) (fun K hK => ?_)
      refine Kd.R_append_step KE (w0 := w) n0 (by rfl) (.tmp 13) (.tmp 23) 69 73 (.agg #[.string ⟨#[]⟩, .int .i64 0, .int .i64 0, .float .f64 0]) 40 (by rfl) Try.underlying69 info73 rfl (by decide) (by decide) v (L.take k) (nm, fr, tq, f) [.string nm, .int .i64 fr, .int .i64 tq, .float .f64 f] (fun _ => True) (fun _ => False) (by rfl) (by rfl) KE_M (fun _ h => h.elim) (fun _ _ => trivial) HD8.out.2 HD8.out.1.below (HD8.out.1.base) (by rw [List.length_take]; omega) ?_
      intro v6 w6 hr hb hg hat
      rw [HT.out.1] at hr
      obtain ⟨A6, c6, rfl, _, _⟩ := Kd.R_reads hr
      have HW6 := hid (And.intro (HD8.out.1.row hg (fun k' hk' => by obtain ⟨inner, ho⟩ := Kd.R_own HD8.out.2; exact ⟨Kd.R_base HD8.out.2 k' hk', own_typed ho k' hk'⟩) (e := 73) (by decide) (by decide) (by decide) (by decide)) hr)
      clear hr hb hg hat
      refine hK.out _ _ (blk_cell HW6.out.1.var 0) (fun hHeld => ?_)
      clear hK K
      refine norm_ (a' := ?_) ?_ ?_
      rotate_left
      · show Act.put _ (some 24) _ = _
        simp only [Act.put, List.setIfInBounds_toArray, List.set_cons_zero, List.set_cons_succ, i64_w]
        rfl
      refine last_ (i := 12) (N := none) #[true, true, true, true, true, true, true, true, true, true, true, true, true] rfl rfl (by kernel_rfl) (by decide) (fun K hK => ?_)
      have c6_ : w6.cell? ⟨N, 0, none⟩ = some v := blk_cell HW6.out.1.var 0
      have g6_ : w6.frozen? ⟨N, 0, none⟩ = false := blk_frozen HW6.out.1.var 0
      go_simp
      clear c6_ g6_
      refine hK.out _ _ ?_
      clear hK K
      refine done_ (by kernel_rfl) ?_
      go_wp2
      go_roundw
      case rel =>
        refine ⟨k + 1, .slice A6 T6.length c6, i + 1 + n + 2 + 2 + 8, by omega, by go_num, hid ⟨HLS.out.symm, ?_, ?_⟩⟩
        · exact HW6.out.1.put (by decide) 0 _
        · rw [← HT.out.2]
          exact Kd.R_set HW6.out.2 HW6.out.1.var (by simp [KE, Kd.pair, Kd.int, Kd.scalar, Kd.string]) 0 _
      case measure => simp [intOf]; omega
    · obtain rfl : k = L.length := by omega
      go_wp2
      first | go_end0 | refine bodyPost_ret (results_none rfl _ _ _) rfl ?_
      have hi : i = ((profS L).length : Int) := hI.out.1
      refine .inl ⟨i, rfl, by omega, by omega, hI.out.2.1.sc, hI.out.2.1.errno, by rw [if_neg (by omega)], hI.out.2.1.below, hI.out.2.1.errno, v, hI.out.2.1.var, ?_⟩
      have h := hI.out.2.2
      rw [List.take_length] at h
      exact h
end Go.Proofs.Ytmcfihpbiilbcaa.H
