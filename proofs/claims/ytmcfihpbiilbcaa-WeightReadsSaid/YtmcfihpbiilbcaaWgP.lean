/- weight.Read's reader on whatever bytes. -/
import Derived.Test.YtmcfihpbiilbcaaWgN
import Derived.Test.YtmcfihpbiilbcaaWgG
namespace Go.Proofs.Ytmcfihpbiilbcaa.H
open Go.RowKit Go.Proofs.YtmcfihpbiilbcaaW.PrintWords Go.Proofs.YtmcfihpbiilbcaaW.PrintLast Go.Proofs.YtmcfihpbiilbcaaW.PrintMore Go.Proofs.Ytmcfihpbiilbcaa.E
set_option linter.unusedVariables false
set_option linter.unusedSimpArgs false
/-- What reading whatever bytes leaves: a failure, or edges whose bytes these are. -/
def AnyPost (w : World) (N n0 : Nat) (l : List Int) (w2 : World) (x : Int) : Prop :=
  Below n0 w w2 ∧ w2.heap[w.heap.size]? = some (.cells #[.int .i64 0] 25 (0, 0)) ∧ ((x = 2 ∨ x = 4) ∨ x = 0 ∧ ∃ L v, l = profS L ∧ L.length ≤ 2000 ∧ (∀ e ∈ L, eB e = true ∧ e.2.2.2 < 18446744073709551616) ∧ w2.heap[N]? = some (.cells #[v] 69 (0, 0)) ∧ RE w2 n0 v L)
theorem AnyPost.fail {w w2 : World} {B N n0 : Nat} {l : List Int} {x : Int} (h : w2.heap[w.heap.size]? = some (.cells #[.int .i64 0] 25 (0, 0)) ∧ Below n0 w w2) (hx : x = 2 ∨ x = 4) : ReadPost w l B (AnyPost w N n0 l) (.panicked (fail_ x)) w2 :=
  .inr ⟨x, rfl, h.1, h.2, h.1, .inl hx⟩
set_option maxRecDepth 100000 in
set_option maxHeartbeats 4000000 in
theorem read97_any (w w1 : World) (B N n0 : Nat) (l : List Int) (hF : Fresh w w1 B l) (hN : w.heap[N]? = some (.cells #[.slice none 0 0] 69 (0, 0))) (hle : n0 ≤ N) (hby : Bytes l) (hl : l.length ≤ 140737488351232) :
    Calls Try.prog 97 (#[.pointer (some ⟨B, 0, none⟩)] ++ #[.pointer (some ⟨N, 0, none⟩)]) w1 (ReadPost w l B (AnyPost w N n0 l)) := by
  have HS := hid (St.start (t := 69) hF hN hle)
  clear hF hN
  by_cases a0 : (l.length : Int) < 4
  · go_enter Try.func97, Try.ntmps97
    go_wp2_with fail
    refine (bytes_no B l 0 4 _ HS.out.sc (Int.le_refl 0) (by omega) hl (by omega)).mono ?_
    rintro e w2 ⟨rfl, hd⟩
    exact ⟨rfl, AnyPost.fail (HS.out.fail (Aft.drawn hd)) (.inl rfl)⟩
  have hmq := magicP_q l hby
  by_cases hM : mid l 0 4 = [83, 80, 80, 49]
  rotate_left
  · rw [decide_eq_false hM] at hmq
    have HMG := hid hmq
    clear hmq hM
    go_enter Try.func97, Try.ntmps97
    go_wp2_with fail
    refine (bytes_c B l 0 4 _ HS.out.sc (Int.le_refl 0) (by omega) (by omega) hl).mono ?_
    rintro e w2 ⟨v, rfl, hR, hw⟩
    rw [Int.zero_add] at hw
    obtain ⟨A2, c2, rfl, hc2, hC2⟩ := Kd.R_reads hR
    have hstr := Kd.C_string (c := c2) Try.underlying22 Try.underlying5 Try.underlying9 hC2
    have H2 := hid (HS.out.scan hw)
    clear hw hR hC2 HS
    go_wp2_with fail
    rw [HMG.out]
    refine (must_no _ _).mono ?_
    rintro e w3 ⟨rfl, rfl⟩
    exact ⟨rfl, AnyPost.fail (H2.out.fail (Aft.drawn (Drawn0.refl _))) (.inr rfl)⟩
  rw [decide_eq_true hM] at hmq
  have HMG := hid (And.intro hM hmq)
  clear hmq hM
  go_enter Try.func97, Try.ntmps97
  go_wp2_with fail
  refine (bytes_c B l 0 4 _ HS.out.sc (Int.le_refl 0) (by omega) (by omega) hl).mono ?_
  rintro e w2 ⟨v, rfl, hR, hw⟩
  rw [Int.zero_add] at hw
  obtain ⟨A2, c2, rfl, hc2, hC2⟩ := Kd.R_reads hR
  have hstr := Kd.C_string (c := c2) Try.underlying22 Try.underlying5 Try.underlying9 hC2
  have H2 := hid (HS.out.scan hw)
  clear hw hR hC2 HS
  go_wp2_with fail
  rw [HMG.out.2]
  refine (must_c _ _).mono ?_
  rintro e w3 ⟨rfl, rfl⟩
  clear hstr
  by_cases a1 : (l.length : Int) < 6
  · go_wp2_with fail
    refine (count_cut B l 4 2000 _ H2.out.sc (by omega) (by omega) (by omega) hl).mono ?_
    rintro e w4 ⟨rfl, hd⟩
    exact ⟨rfl, AnyPost.fail (H2.out.fail hd) (.inl rfl)⟩
  have hwr := wordOf_range (hby.mid 4 2)
  by_cases a2 : 2000 < wordOf (mid l 4 2)
  · go_wp2_with fail
    refine (count_form B l 4 2000 _ H2.out.sc (by omega) (by omega) hl hby a2).mono ?_
    rintro e w4 ⟨rfl, hd⟩
    exact ⟨rfl, AnyPost.fail (H2.out.fail hd) (.inr rfl)⟩
  obtain ⟨n, hn⟩ : ∃ n : Nat, wordOf (mid l 4 2) = n := ⟨(wordOf (mid l 4 2)).toNat, by omega⟩
  have hn2 : n ≤ 2000 := by omega
  have hp0 := pre0 hby (by omega) HMG.out.1
  rw [hn] at hp0
  have HP0 := hid hp0
  have HNN := hid hn
  clear hp0 hwr
  go_wp2_with fail
  refine (count_c B l 4 2000 _ H2.out.sc (by omega) (by omega) hl hby (by omega)).mono ?_
  rintro e w4 ⟨rfl, hw⟩
  rw [HNN.out]
  have H4 := hid (H2.out.scan hw)
  clear hw H2 hn HNN a2
  go_wp2
  go_loopw [11] (fun s11 wx => ∃ (k : Nat) (L : List Edge) (v : Value) (i : Int), k ≤ n ∧ L.length = k ∧ s11 = .int .i64 k ∧ Hid (Pre l n L i ∧ St w B N n0 69 wx l i #[v] ∧ RE wx n0 v L)) (fun s11 _ => n - (intOf s11).toNat)
  case atStart => exact ⟨0, [], _, 6, by omega, rfl, rfl, hid ⟨HP0.out, H4.out, Kd.R_nil _ _ _ _ _⟩⟩
  case round =>
    obtain ⟨k, L, v, i, hk, hLk, rfl, hI⟩ := hrel
    by_cases hlt : (k : Int) < (n : Int)
    · obtain ⟨hi0, hi1, _, _⟩ := hI.out.1
      have HP := hid hI.out.1
      have HD := hid (And.intro hI.out.2.1.drew (Kd.R_drew hI.out.2.2))
      have i3 : IntKind.i64.wrap ((k : Int) + 1) = (k : Int) + 1 := IntWalk.i64_in _ (by omega)
      clear hI
      obtain ⟨z, hz⟩ : ∃ z : Int, nameLen l i = z := ⟨_, rfl⟩
      have hzr := wordOf_range (hby.mid i 1)
      have hz0 : 0 ≤ z := by rw [← hz]; exact hzr.1
      have HZ := hid hz
      clear hzr hz
      by_cases b0 : i = l.length
      · go_wp2
        refine start_ (n := 13) (S := fun W => W.cell? ⟨N, 0, none⟩ = some v) (ds := [12]) #[false, false, false, false, false, false, false, false, false, false, false, false, false] (by kernel_rfl) rfl rfl (blk_cell HD.out.1.var 0) (fun hHeld => ?_)
        refine take_ (i := 0) (N := (some 13)) (v := ?_) (a' := ?_) #[true, false, false, false, false, false, false, false, false, false, false, false, false] rfl rfl (by kernel_rfl) (fun _ _ _ h => h) (Or.inl ⟨by rfl, ?_⟩) hHeld ?_ ?_
        rotate_left
        · rintro w' s0
          go_simp
          with_reducible rfl
        rotate_left
        · simp only [Act.put, List.setIfInBounds_toArray, List.set_cons_zero, List.set_cons_succ, i64_w]
          rfl
        refine pure_ (i := 1) (N := (some 14)) (v := ?_) (a' := ?_) #[true, true, false, false, false, false, false, false, false, false, false, false, false] rfl rfl (by kernel_rfl) (fun _ _ _ h => h) (Or.inl ⟨by rfl, ?_⟩) ?_ ?_
        rotate_left
        · intro w'
          go_simp
          with_reducible rfl
        rotate_left
        · simp only [Act.put, List.setIfInBounds_toArray, List.set_cons_zero, List.set_cons_succ, i64_w]
          rfl
        refine pure_ (i := 3) (N := (some 16)) (v := ?_) (a' := ?_) #[true, true, false, true, false, false, false, false, false, false, false, false, false] rfl rfl (by kernel_rfl) (fun _ _ _ h => h) (Or.inl ⟨by rfl, ?_⟩) ?_ ?_
        rotate_left
        · intro w'
          go_simp
          with_reducible rfl
        rotate_left
        · simp only [Act.put, List.setIfInBounds_toArray, List.set_cons_zero, List.set_cons_succ, i64_w]
          rfl
        refine pure_ (i := 5) (N := (some 18)) (v := ?_) (a' := ?_) #[true, true, false, true, false, true, false, false, false, false, false, false, false] rfl rfl (by kernel_rfl) (fun _ _ _ h => h) (Or.inl ⟨by rfl, ?_⟩) ?_ ?_
        rotate_left
        · intro w'
          go_simp
          with_reducible rfl
        rotate_left
        · simp only [Act.put, List.setIfInBounds_toArray, List.set_cons_zero, List.set_cons_succ, i64_w]
          rfl
        refine pure_ (i := 7) (N := (some 20)) (v := ?_) (a' := ?_) #[true, true, false, true, false, true, false, true, false, false, false, false, false] rfl rfl (by kernel_rfl) (fun _ _ _ h => h) (Or.inl ⟨by rfl, ?_⟩) ?_ ?_
        rotate_left
        · intro w'
          go_simp
          with_reducible rfl
        rotate_left
        · simp only [Act.put, List.setIfInBounds_toArray, List.set_cons_zero, List.set_cons_succ, i64_w]
          rfl
        refine one_ (i := 2) (N := (some 15)) #[true, true, true, true, false, true, false, true, false, false, false, false, false] rfl rfl (by kernel_rfl) (by decide) (fun K hK => ?_)
        refine dies_ Try.func42 (by kernel_rfl) rfl #[.pointer (some ⟨B, 0, none⟩)] (by rfl) rfl rfl (by first | rfl | (simp only [List.map_toArray, List.map_cons, List.map_nil]; rfl)) ?_
        refine (name_cut1 B l i _ HD.out.1.sc (by omega) (by omega) hl).mono ?_
        rintro e' wA ⟨rfl, hd⟩
        refine ⟨_, rfl, ?_⟩
        exact ⟨rfl, AnyPost.fail (HD.out.1.fail hd) (.inl rfl)⟩
      by_cases b1 : (l.length : Int) < i + 1 + z
      · go_wp2
        refine start_ (n := 13) (S := fun W => W.cell? ⟨N, 0, none⟩ = some v) (ds := [12]) #[false, false, false, false, false, false, false, false, false, false, false, false, false] (by kernel_rfl) rfl rfl (blk_cell HD.out.1.var 0) (fun hHeld => ?_)
        refine take_ (i := 0) (N := (some 13)) (v := ?_) (a' := ?_) #[true, false, false, false, false, false, false, false, false, false, false, false, false] rfl rfl (by kernel_rfl) (fun _ _ _ h => h) (Or.inl ⟨by rfl, ?_⟩) hHeld ?_ ?_
        rotate_left
        · rintro w' s0
          go_simp
          with_reducible rfl
        rotate_left
        · simp only [Act.put, List.setIfInBounds_toArray, List.set_cons_zero, List.set_cons_succ, i64_w]
          rfl
        refine pure_ (i := 1) (N := (some 14)) (v := ?_) (a' := ?_) #[true, true, false, false, false, false, false, false, false, false, false, false, false] rfl rfl (by kernel_rfl) (fun _ _ _ h => h) (Or.inl ⟨by rfl, ?_⟩) ?_ ?_
        rotate_left
        · intro w'
          go_simp
          with_reducible rfl
        rotate_left
        · simp only [Act.put, List.setIfInBounds_toArray, List.set_cons_zero, List.set_cons_succ, i64_w]
          rfl
        refine pure_ (i := 3) (N := (some 16)) (v := ?_) (a' := ?_) #[true, true, false, true, false, false, false, false, false, false, false, false, false] rfl rfl (by kernel_rfl) (fun _ _ _ h => h) (Or.inl ⟨by rfl, ?_⟩) ?_ ?_
        rotate_left
        · intro w'
          go_simp
          with_reducible rfl
        rotate_left
        · simp only [Act.put, List.setIfInBounds_toArray, List.set_cons_zero, List.set_cons_succ, i64_w]
          rfl
        refine pure_ (i := 5) (N := (some 18)) (v := ?_) (a' := ?_) #[true, true, false, true, false, true, false, false, false, false, false, false, false] rfl rfl (by kernel_rfl) (fun _ _ _ h => h) (Or.inl ⟨by rfl, ?_⟩) ?_ ?_
        rotate_left
        · intro w'
          go_simp
          with_reducible rfl
        rotate_left
        · simp only [Act.put, List.setIfInBounds_toArray, List.set_cons_zero, List.set_cons_succ, i64_w]
          rfl
        refine pure_ (i := 7) (N := (some 20)) (v := ?_) (a' := ?_) #[true, true, false, true, false, true, false, true, false, false, false, false, false] rfl rfl (by kernel_rfl) (fun _ _ _ h => h) (Or.inl ⟨by rfl, ?_⟩) ?_ ?_
        rotate_left
        · intro w'
          go_simp
          with_reducible rfl
        rotate_left
        · simp only [Act.put, List.setIfInBounds_toArray, List.set_cons_zero, List.set_cons_succ, i64_w]
          rfl
        refine one_ (i := 2) (N := (some 15)) #[true, true, true, true, false, true, false, true, false, false, false, false, false] rfl rfl (by kernel_rfl) (by decide) (fun K hK => ?_)
        refine dies_ Try.func42 (by kernel_rfl) rfl #[.pointer (some ⟨B, 0, none⟩)] (by rfl) rfl rfl (by first | rfl | (simp only [List.map_toArray, List.map_cons, List.map_nil]; rfl)) ?_
        refine (name_cut2 B l i _ HD.out.1.sc (by omega) (by omega) (by rw [HZ.out]; omega) hl hby).mono ?_
        rintro e' wA ⟨rfl, hd⟩
        refine ⟨_, rfl, ?_⟩
        exact ⟨rfl, AnyPost.fail (HD.out.1.fail hd) (.inl rfl)⟩
      obtain ⟨nm, hnm⟩ : ∃ s, nameOf l i = s := ⟨_, rfl⟩
      obtain ⟨fr, hfr⟩ : ∃ s, wordOf (mid l (i + 1 + z) 2) = s := ⟨_, rfl⟩
      obtain ⟨tq, htq⟩ : ∃ s, wordOf (mid l (i + 1 + z + 2) 2) = s := ⟨_, rfl⟩
      obtain ⟨f, hf⟩ : ∃ s, (floatOf l (i + 1 + z + 2 + 2)).toNat = s := ⟨_, rfl⟩
      cases hnb : namedB nm
      · have hff : namedB (nameOf l i) = false := by rw [hnm]; exact hnb
        have HF := hid hff
        have HX := hid (And.intro HZ.out (And.intro hnm (And.intro hfr htq)))
        clear hnm hfr htq hf hff hnb
        go_wp2
        refine start_ (n := 13) (S := fun W => W.cell? ⟨N, 0, none⟩ = some v) (ds := [12]) #[false, false, false, false, false, false, false, false, false, false, false, false, false] (by kernel_rfl) rfl rfl (blk_cell HD.out.1.var 0) (fun hHeld => ?_)
        refine take_ (i := 0) (N := (some 13)) (v := ?_) (a' := ?_) #[true, false, false, false, false, false, false, false, false, false, false, false, false] rfl rfl (by kernel_rfl) (fun _ _ _ h => h) (Or.inl ⟨by rfl, ?_⟩) hHeld ?_ ?_
        rotate_left
        · rintro w' s0
          go_simp
          with_reducible rfl
        rotate_left
        · simp only [Act.put, List.setIfInBounds_toArray, List.set_cons_zero, List.set_cons_succ, i64_w]
          rfl
        refine pure_ (i := 1) (N := (some 14)) (v := ?_) (a' := ?_) #[true, true, false, false, false, false, false, false, false, false, false, false, false] rfl rfl (by kernel_rfl) (fun _ _ _ h => h) (Or.inl ⟨by rfl, ?_⟩) ?_ ?_
        rotate_left
        · intro w'
          go_simp
          with_reducible rfl
        rotate_left
        · simp only [Act.put, List.setIfInBounds_toArray, List.set_cons_zero, List.set_cons_succ, i64_w]
          rfl
        refine pure_ (i := 3) (N := (some 16)) (v := ?_) (a' := ?_) #[true, true, false, true, false, false, false, false, false, false, false, false, false] rfl rfl (by kernel_rfl) (fun _ _ _ h => h) (Or.inl ⟨by rfl, ?_⟩) ?_ ?_
        rotate_left
        · intro w'
          go_simp
          with_reducible rfl
        rotate_left
        · simp only [Act.put, List.setIfInBounds_toArray, List.set_cons_zero, List.set_cons_succ, i64_w]
          rfl
        refine pure_ (i := 5) (N := (some 18)) (v := ?_) (a' := ?_) #[true, true, false, true, false, true, false, false, false, false, false, false, false] rfl rfl (by kernel_rfl) (fun _ _ _ h => h) (Or.inl ⟨by rfl, ?_⟩) ?_ ?_
        rotate_left
        · intro w'
          go_simp
          with_reducible rfl
        rotate_left
        · simp only [Act.put, List.setIfInBounds_toArray, List.set_cons_zero, List.set_cons_succ, i64_w]
          rfl
        refine pure_ (i := 7) (N := (some 20)) (v := ?_) (a' := ?_) #[true, true, false, true, false, true, false, true, false, false, false, false, false] rfl rfl (by kernel_rfl) (fun _ _ _ h => h) (Or.inl ⟨by rfl, ?_⟩) ?_ ?_
        rotate_left
        · intro w'
          go_simp
          with_reducible rfl
        rotate_left
        · simp only [Act.put, List.setIfInBounds_toArray, List.set_cons_zero, List.set_cons_succ, i64_w]
          rfl
        refine one_ (i := 2) (N := (some 15)) #[true, true, true, true, false, true, false, true, false, false, false, false, false] rfl rfl (by kernel_rfl) (by decide) (fun K hK => ?_)
        refine dies_ Try.func42 (by kernel_rfl) rfl #[.pointer (some ⟨B, 0, none⟩)] (by rfl) rfl rfl (by first | rfl | (simp only [List.map_toArray, List.map_cons, List.map_nil]; rfl)) ?_
        refine (name_form B l i _ HD.out.1.sc (by omega) (by omega) (by rw [HX.out.1]; omega) (by rw [HX.out.1]; omega) hl hby HF.out).mono ?_
        rintro e' wA ⟨rfl, hd⟩
        refine ⟨_, rfl, ?_⟩
        exact ⟨rfl, AnyPost.fail (HD.out.1.fail hd) (.inr rfl)⟩
      have HX := hid (And.intro HZ.out (And.intro hnm (And.intro hfr (And.intro htq (And.intro hf hnb)))))
      clear hnm hfr htq hf hnb HZ
      by_cases b2 : (l.length : Int) < i + 1 + z + 2
      · go_wp2
        refine start_ (n := 13) (S := fun W => W.cell? ⟨N, 0, none⟩ = some v) (ds := [12]) #[false, false, false, false, false, false, false, false, false, false, false, false, false] (by kernel_rfl) rfl rfl (blk_cell HD.out.1.var 0) (fun hHeld => ?_)
        refine take_ (i := 0) (N := (some 13)) (v := ?_) (a' := ?_) #[true, false, false, false, false, false, false, false, false, false, false, false, false] rfl rfl (by kernel_rfl) (fun _ _ _ h => h) (Or.inl ⟨by rfl, ?_⟩) hHeld ?_ ?_
        rotate_left
        · rintro w' s0
          go_simp
          with_reducible rfl
        rotate_left
        · simp only [Act.put, List.setIfInBounds_toArray, List.set_cons_zero, List.set_cons_succ, i64_w]
          rfl
        refine pure_ (i := 1) (N := (some 14)) (v := ?_) (a' := ?_) #[true, true, false, false, false, false, false, false, false, false, false, false, false] rfl rfl (by kernel_rfl) (fun _ _ _ h => h) (Or.inl ⟨by rfl, ?_⟩) ?_ ?_
        rotate_left
        · intro w'
          go_simp
          with_reducible rfl
        rotate_left
        · simp only [Act.put, List.setIfInBounds_toArray, List.set_cons_zero, List.set_cons_succ, i64_w]
          rfl
        refine pure_ (i := 3) (N := (some 16)) (v := ?_) (a' := ?_) #[true, true, false, true, false, false, false, false, false, false, false, false, false] rfl rfl (by kernel_rfl) (fun _ _ _ h => h) (Or.inl ⟨by rfl, ?_⟩) ?_ ?_
        rotate_left
        · intro w'
          go_simp
          with_reducible rfl
        rotate_left
        · simp only [Act.put, List.setIfInBounds_toArray, List.set_cons_zero, List.set_cons_succ, i64_w]
          rfl
        refine pure_ (i := 5) (N := (some 18)) (v := ?_) (a' := ?_) #[true, true, false, true, false, true, false, false, false, false, false, false, false] rfl rfl (by kernel_rfl) (fun _ _ _ h => h) (Or.inl ⟨by rfl, ?_⟩) ?_ ?_
        rotate_left
        · intro w'
          go_simp
          with_reducible rfl
        rotate_left
        · simp only [Act.put, List.setIfInBounds_toArray, List.set_cons_zero, List.set_cons_succ, i64_w]
          rfl
        refine pure_ (i := 7) (N := (some 20)) (v := ?_) (a' := ?_) #[true, true, false, true, false, true, false, true, false, false, false, false, false] rfl rfl (by kernel_rfl) (fun _ _ _ h => h) (Or.inl ⟨by rfl, ?_⟩) ?_ ?_
        rotate_left
        · intro w'
          go_simp
          with_reducible rfl
        rotate_left
        · simp only [Act.put, List.setIfInBounds_toArray, List.set_cons_zero, List.set_cons_succ, i64_w]
          rfl
        refine one_ (i := 2) (N := (some 15)) #[true, true, true, true, false, true, false, true, false, false, false, false, false] rfl rfl (by kernel_rfl) (by decide) (fun K hK => ?_)
        refine goes_ Try.func42 (by kernel_rfl) rfl #[.pointer (some ⟨B, 0, none⟩)] (by rfl) rfl rfl (by first | rfl | (simp only [List.map_toArray, List.map_cons, List.map_nil]; rfl)) ?_
        refine (name_c B l i _ HD.out.1.sc (by omega) (by omega) (by rw [HX.out.1]; omega) (by rw [HX.out.1]; omega) hl hby (by rw [HX.out.2.1]; exact HX.out.2.2.2.2.2)).mono ?_
        rintro e' wA ⟨rfl, hw⟩
        have HD2 := hid (And.intro (HD.out.1.scan hw) (Kd.R_below (Kd.R_set HD.out.2 (g := B) (t := 106) HD.out.1.scb (by simp [KE, Kd.pair, Kd.int, Kd.scalar, Kd.string]) 1 _) (by simpa using hw)))
        clear hw HD
        rw [HX.out.2.1]
        refine ⟨_, rfl, ?_⟩
        refine hK.out _ _ (blk_cell HD2.out.1.var 0) (fun hHeld => ?_)
        clear hK K
        refine norm_ (a' := ?_) ?_ ?_
        rotate_left
        · show Act.put _ (some 15) _ = _
          simp only [Act.put, List.setIfInBounds_toArray, List.set_cons_zero, List.set_cons_succ, i64_w]
          rfl
        refine one_ (i := 4) (N := (some 17)) #[true, true, true, true, true, true, false, true, false, false, false, false, false] rfl rfl (by kernel_rfl) (by decide) (fun K hK => ?_)
        refine dies_ Try.func41 (by kernel_rfl) rfl #[.pointer (some ⟨B, 0, none⟩), .int .i64 2] (by rfl) rfl rfl (by first | rfl | (simp only [List.map_toArray, List.map_cons, List.map_nil]; rfl)) ?_
        refine (number_no B l (i + 1 + z) 2 _ (by have h := HD2.out.1.drew.sc; rw [HX.out.1] at h; exact h) (by omega) (by omega) hl (by omega)).mono ?_
        rintro e' wA ⟨rfl, hd⟩
        refine ⟨_, rfl, ?_⟩
        exact ⟨rfl, AnyPost.fail (HD2.out.1.fail (Aft.drawn hd)) (.inl rfl)⟩
      by_cases b3 : (l.length : Int) < i + 1 + z + 2 + 2
      · go_wp2
        refine start_ (n := 13) (S := fun W => W.cell? ⟨N, 0, none⟩ = some v) (ds := [12]) #[false, false, false, false, false, false, false, false, false, false, false, false, false] (by kernel_rfl) rfl rfl (blk_cell HD.out.1.var 0) (fun hHeld => ?_)
        refine take_ (i := 0) (N := (some 13)) (v := ?_) (a' := ?_) #[true, false, false, false, false, false, false, false, false, false, false, false, false] rfl rfl (by kernel_rfl) (fun _ _ _ h => h) (Or.inl ⟨by rfl, ?_⟩) hHeld ?_ ?_
        rotate_left
        · rintro w' s0
          go_simp
          with_reducible rfl
        rotate_left
        · simp only [Act.put, List.setIfInBounds_toArray, List.set_cons_zero, List.set_cons_succ, i64_w]
          rfl
        refine pure_ (i := 1) (N := (some 14)) (v := ?_) (a' := ?_) #[true, true, false, false, false, false, false, false, false, false, false, false, false] rfl rfl (by kernel_rfl) (fun _ _ _ h => h) (Or.inl ⟨by rfl, ?_⟩) ?_ ?_
        rotate_left
        · intro w'
          go_simp
          with_reducible rfl
        rotate_left
        · simp only [Act.put, List.setIfInBounds_toArray, List.set_cons_zero, List.set_cons_succ, i64_w]
          rfl
        refine pure_ (i := 3) (N := (some 16)) (v := ?_) (a' := ?_) #[true, true, false, true, false, false, false, false, false, false, false, false, false] rfl rfl (by kernel_rfl) (fun _ _ _ h => h) (Or.inl ⟨by rfl, ?_⟩) ?_ ?_
        rotate_left
        · intro w'
          go_simp
          with_reducible rfl
        rotate_left
        · simp only [Act.put, List.setIfInBounds_toArray, List.set_cons_zero, List.set_cons_succ, i64_w]
          rfl
        refine pure_ (i := 5) (N := (some 18)) (v := ?_) (a' := ?_) #[true, true, false, true, false, true, false, false, false, false, false, false, false] rfl rfl (by kernel_rfl) (fun _ _ _ h => h) (Or.inl ⟨by rfl, ?_⟩) ?_ ?_
        rotate_left
        · intro w'
          go_simp
          with_reducible rfl
        rotate_left
        · simp only [Act.put, List.setIfInBounds_toArray, List.set_cons_zero, List.set_cons_succ, i64_w]
          rfl
        refine pure_ (i := 7) (N := (some 20)) (v := ?_) (a' := ?_) #[true, true, false, true, false, true, false, true, false, false, false, false, false] rfl rfl (by kernel_rfl) (fun _ _ _ h => h) (Or.inl ⟨by rfl, ?_⟩) ?_ ?_
        rotate_left
        · intro w'
          go_simp
          with_reducible rfl
        rotate_left
        · simp only [Act.put, List.setIfInBounds_toArray, List.set_cons_zero, List.set_cons_succ, i64_w]
          rfl
        refine one_ (i := 2) (N := (some 15)) #[true, true, true, true, false, true, false, true, false, false, false, false, false] rfl rfl (by kernel_rfl) (by decide) (fun K hK => ?_)
        refine goes_ Try.func42 (by kernel_rfl) rfl #[.pointer (some ⟨B, 0, none⟩)] (by rfl) rfl rfl (by first | rfl | (simp only [List.map_toArray, List.map_cons, List.map_nil]; rfl)) ?_
        refine (name_c B l i _ HD.out.1.sc (by omega) (by omega) (by rw [HX.out.1]; omega) (by rw [HX.out.1]; omega) hl hby (by rw [HX.out.2.1]; exact HX.out.2.2.2.2.2)).mono ?_
        rintro e' wA ⟨rfl, hw⟩
        have HD2 := hid (And.intro (HD.out.1.scan hw) (Kd.R_below (Kd.R_set HD.out.2 (g := B) (t := 106) HD.out.1.scb (by simp [KE, Kd.pair, Kd.int, Kd.scalar, Kd.string]) 1 _) (by simpa using hw)))
        clear hw HD
        rw [HX.out.2.1]
        refine ⟨_, rfl, ?_⟩
        refine hK.out _ _ (blk_cell HD2.out.1.var 0) (fun hHeld => ?_)
        clear hK K
        refine norm_ (a' := ?_) ?_ ?_
        rotate_left
        · show Act.put _ (some 15) _ = _
          simp only [Act.put, List.setIfInBounds_toArray, List.set_cons_zero, List.set_cons_succ, i64_w]
          rfl
        refine one_ (i := 4) (N := (some 17)) #[true, true, true, true, true, true, false, true, false, false, false, false, false] rfl rfl (by kernel_rfl) (by decide) (fun K hK => ?_)
        refine goes_ Try.func41 (by kernel_rfl) rfl #[.pointer (some ⟨B, 0, none⟩), .int .i64 2] (by rfl) rfl rfl (by first | rfl | (simp only [List.map_toArray, List.map_cons, List.map_nil]; rfl)) ?_
        refine (number_c B l (i + 1 + z) 2 _ (by have h := HD2.out.1.drew.sc; rw [HX.out.1] at h; exact h) (by omega) (by omega) (by omega) hl hby).mono ?_
        rintro e' wA ⟨rfl, hw⟩
        have HD4 := hid (And.intro (HD2.out.1.scan hw) (Kd.R_below (Kd.R_set HD2.out.2 (g := B) (t := 106) HD2.out.1.scb (by simp [KE, Kd.pair, Kd.int, Kd.scalar, Kd.string]) 1 _) (by simpa using hw)))
        clear hw HD2
        rw [HX.out.2.2.1]
        refine ⟨_, rfl, ?_⟩
        refine hK.out _ _ (blk_cell HD4.out.1.var 0) (fun hHeld => ?_)
        clear hK K
        refine norm_ (a' := ?_) ?_ ?_
        rotate_left
        · show Act.put _ (some 17) _ = _
          simp only [Act.put, List.setIfInBounds_toArray, List.set_cons_zero, List.set_cons_succ, i64_w]
          rfl
        refine one_ (i := 6) (N := (some 19)) #[true, true, true, true, true, true, true, true, false, false, false, false, false] rfl rfl (by kernel_rfl) (by decide) (fun K hK => ?_)
        refine dies_ Try.func41 (by kernel_rfl) rfl #[.pointer (some ⟨B, 0, none⟩), .int .i64 2] (by rfl) rfl rfl (by first | rfl | (simp only [List.map_toArray, List.map_cons, List.map_nil]; rfl)) ?_
        refine (number_no B l (i + 1 + z + 2) 2 _ HD4.out.1.sc (by omega) (by omega) hl (by omega)).mono ?_
        rintro e' wA ⟨rfl, hd⟩
        refine ⟨_, rfl, ?_⟩
        exact ⟨rfl, AnyPost.fail (HD4.out.1.fail (Aft.drawn hd)) (.inl rfl)⟩
      by_cases b4 : (l.length : Int) < i + 1 + z + 2 + 2 + 8
      · go_wp2
        refine start_ (n := 13) (S := fun W => W.cell? ⟨N, 0, none⟩ = some v) (ds := [12]) #[false, false, false, false, false, false, false, false, false, false, false, false, false] (by kernel_rfl) rfl rfl (blk_cell HD.out.1.var 0) (fun hHeld => ?_)
        refine take_ (i := 0) (N := (some 13)) (v := ?_) (a' := ?_) #[true, false, false, false, false, false, false, false, false, false, false, false, false] rfl rfl (by kernel_rfl) (fun _ _ _ h => h) (Or.inl ⟨by rfl, ?_⟩) hHeld ?_ ?_
        rotate_left
        · rintro w' s0
          go_simp
          with_reducible rfl
        rotate_left
        · simp only [Act.put, List.setIfInBounds_toArray, List.set_cons_zero, List.set_cons_succ, i64_w]
          rfl
        refine pure_ (i := 1) (N := (some 14)) (v := ?_) (a' := ?_) #[true, true, false, false, false, false, false, false, false, false, false, false, false] rfl rfl (by kernel_rfl) (fun _ _ _ h => h) (Or.inl ⟨by rfl, ?_⟩) ?_ ?_
        rotate_left
        · intro w'
          go_simp
          with_reducible rfl
        rotate_left
        · simp only [Act.put, List.setIfInBounds_toArray, List.set_cons_zero, List.set_cons_succ, i64_w]
          rfl
        refine pure_ (i := 3) (N := (some 16)) (v := ?_) (a' := ?_) #[true, true, false, true, false, false, false, false, false, false, false, false, false] rfl rfl (by kernel_rfl) (fun _ _ _ h => h) (Or.inl ⟨by rfl, ?_⟩) ?_ ?_
        rotate_left
        · intro w'
          go_simp
          with_reducible rfl
        rotate_left
        · simp only [Act.put, List.setIfInBounds_toArray, List.set_cons_zero, List.set_cons_succ, i64_w]
          rfl
        refine pure_ (i := 5) (N := (some 18)) (v := ?_) (a' := ?_) #[true, true, false, true, false, true, false, false, false, false, false, false, false] rfl rfl (by kernel_rfl) (fun _ _ _ h => h) (Or.inl ⟨by rfl, ?_⟩) ?_ ?_
        rotate_left
        · intro w'
          go_simp
          with_reducible rfl
        rotate_left
        · simp only [Act.put, List.setIfInBounds_toArray, List.set_cons_zero, List.set_cons_succ, i64_w]
          rfl
        refine pure_ (i := 7) (N := (some 20)) (v := ?_) (a' := ?_) #[true, true, false, true, false, true, false, true, false, false, false, false, false] rfl rfl (by kernel_rfl) (fun _ _ _ h => h) (Or.inl ⟨by rfl, ?_⟩) ?_ ?_
        rotate_left
        · intro w'
          go_simp
          with_reducible rfl
        rotate_left
        · simp only [Act.put, List.setIfInBounds_toArray, List.set_cons_zero, List.set_cons_succ, i64_w]
          rfl
        refine one_ (i := 2) (N := (some 15)) #[true, true, true, true, false, true, false, true, false, false, false, false, false] rfl rfl (by kernel_rfl) (by decide) (fun K hK => ?_)
        refine goes_ Try.func42 (by kernel_rfl) rfl #[.pointer (some ⟨B, 0, none⟩)] (by rfl) rfl rfl (by first | rfl | (simp only [List.map_toArray, List.map_cons, List.map_nil]; rfl)) ?_
        refine (name_c B l i _ HD.out.1.sc (by omega) (by omega) (by rw [HX.out.1]; omega) (by rw [HX.out.1]; omega) hl hby (by rw [HX.out.2.1]; exact HX.out.2.2.2.2.2)).mono ?_
        rintro e' wA ⟨rfl, hw⟩
        have HD2 := hid (And.intro (HD.out.1.scan hw) (Kd.R_below (Kd.R_set HD.out.2 (g := B) (t := 106) HD.out.1.scb (by simp [KE, Kd.pair, Kd.int, Kd.scalar, Kd.string]) 1 _) (by simpa using hw)))
        clear hw HD
        rw [HX.out.2.1]
        refine ⟨_, rfl, ?_⟩
        refine hK.out _ _ (blk_cell HD2.out.1.var 0) (fun hHeld => ?_)
        clear hK K
        refine norm_ (a' := ?_) ?_ ?_
        rotate_left
        · show Act.put _ (some 15) _ = _
          simp only [Act.put, List.setIfInBounds_toArray, List.set_cons_zero, List.set_cons_succ, i64_w]
          rfl
        refine one_ (i := 4) (N := (some 17)) #[true, true, true, true, true, true, false, true, false, false, false, false, false] rfl rfl (by kernel_rfl) (by decide) (fun K hK => ?_)
        refine goes_ Try.func41 (by kernel_rfl) rfl #[.pointer (some ⟨B, 0, none⟩), .int .i64 2] (by rfl) rfl rfl (by first | rfl | (simp only [List.map_toArray, List.map_cons, List.map_nil]; rfl)) ?_
        refine (number_c B l (i + 1 + z) 2 _ (by have h := HD2.out.1.drew.sc; rw [HX.out.1] at h; exact h) (by omega) (by omega) (by omega) hl hby).mono ?_
        rintro e' wA ⟨rfl, hw⟩
        have HD4 := hid (And.intro (HD2.out.1.scan hw) (Kd.R_below (Kd.R_set HD2.out.2 (g := B) (t := 106) HD2.out.1.scb (by simp [KE, Kd.pair, Kd.int, Kd.scalar, Kd.string]) 1 _) (by simpa using hw)))
        clear hw HD2
        rw [HX.out.2.2.1]
        refine ⟨_, rfl, ?_⟩
        refine hK.out _ _ (blk_cell HD4.out.1.var 0) (fun hHeld => ?_)
        clear hK K
        refine norm_ (a' := ?_) ?_ ?_
        rotate_left
        · show Act.put _ (some 17) _ = _
          simp only [Act.put, List.setIfInBounds_toArray, List.set_cons_zero, List.set_cons_succ, i64_w]
          rfl
        refine one_ (i := 6) (N := (some 19)) #[true, true, true, true, true, true, true, true, false, false, false, false, false] rfl rfl (by kernel_rfl) (by decide) (fun K hK => ?_)
        refine goes_ Try.func41 (by kernel_rfl) rfl #[.pointer (some ⟨B, 0, none⟩), .int .i64 2] (by rfl) rfl rfl (by first | rfl | (simp only [List.map_toArray, List.map_cons, List.map_nil]; rfl)) ?_
        refine (number_c B l (i + 1 + z + 2) 2 _ HD4.out.1.sc (by omega) (by omega) (by omega) hl hby).mono ?_
        rintro e' wA ⟨rfl, hw⟩
        have HD6 := hid (And.intro (HD4.out.1.scan hw) (Kd.R_below (Kd.R_set HD4.out.2 (g := B) (t := 106) HD4.out.1.scb (by simp [KE, Kd.pair, Kd.int, Kd.scalar, Kd.string]) 1 _) (by simpa using hw)))
        clear hw HD4
        rw [HX.out.2.2.2.1]
        refine ⟨_, rfl, ?_⟩
        refine hK.out _ _ (blk_cell HD6.out.1.var 0) (fun hHeld => ?_)
        clear hK K
        refine norm_ (a' := ?_) ?_ ?_
        rotate_left
        · show Act.put _ (some 19) _ = _
          simp only [Act.put, List.setIfInBounds_toArray, List.set_cons_zero, List.set_cons_succ, i64_w]
          rfl
        refine one_ (i := 8) (N := (some 21)) #[true, true, true, true, true, true, true, true, true, false, false, false, false] rfl rfl (by kernel_rfl) (by decide) (fun K hK => ?_)
        refine dies_ Try.func43 (by kernel_rfl) rfl #[.pointer (some ⟨B, 0, none⟩)] (by rfl) rfl rfl (by first | rfl | (simp only [List.map_toArray, List.map_cons, List.map_nil]; rfl)) ?_
        refine (float_cut B l (i + 1 + z + 2 + 2) _ HD6.out.1.sc (by omega) (by omega) (by omega) hl).mono ?_
        rintro e' wA ⟨rfl, hd⟩
        refine ⟨_, rfl, ?_⟩
        exact ⟨rfl, AnyPost.fail (HD6.out.1.fail hd) (.inl rfl)⟩
      have hps := pre_step HP.out hby z HX.out.1.symm (by omega) (by rw [HX.out.2.1]; exact HX.out.2.2.2.2.2)
      rw [HX.out.2.1, HX.out.2.2.1, HX.out.2.2.2.1, HX.out.2.2.2.2.1] at hps
      obtain ⟨T6, hT6⟩ : ∃ T, L ++ [(nm, fr, tq, f)] = T := ⟨_, rfl⟩
      have hTl : T6.length = k + 1 := by rw [← hT6]; simp; exact hLk
      rw [hT6] at hps
      have HT := hid hT6
      have HPS := hid hps
      have HTL := hid hTl
      clear hT6 hps HP hTl
      go_wp2
      refine start_ (n := 13) (S := fun W => W.cell? ⟨N, 0, none⟩ = some v) (ds := [12]) #[false, false, false, false, false, false, false, false, false, false, false, false, false] (by kernel_rfl) rfl rfl (blk_cell HD.out.1.var 0) (fun hHeld => ?_)
      refine take_ (i := 0) (N := (some 13)) (v := ?_) (a' := ?_) #[true, false, false, false, false, false, false, false, false, false, false, false, false] rfl rfl (by kernel_rfl) (fun _ _ _ h => h) (Or.inl ⟨by rfl, ?_⟩) hHeld ?_ ?_
      rotate_left
      · rintro w' s0
        go_simp
        with_reducible rfl
      rotate_left
      · simp only [Act.put, List.setIfInBounds_toArray, List.set_cons_zero, List.set_cons_succ, i64_w]
        rfl
      refine pure_ (i := 1) (N := (some 14)) (v := ?_) (a' := ?_) #[true, true, false, false, false, false, false, false, false, false, false, false, false] rfl rfl (by kernel_rfl) (fun _ _ _ h => h) (Or.inl ⟨by rfl, ?_⟩) ?_ ?_
      rotate_left
      · intro w'
        go_simp
        with_reducible rfl
      rotate_left
      · simp only [Act.put, List.setIfInBounds_toArray, List.set_cons_zero, List.set_cons_succ, i64_w]
        rfl
      refine pure_ (i := 3) (N := (some 16)) (v := ?_) (a' := ?_) #[true, true, false, true, false, false, false, false, false, false, false, false, false] rfl rfl (by kernel_rfl) (fun _ _ _ h => h) (Or.inl ⟨by rfl, ?_⟩) ?_ ?_
      rotate_left
      · intro w'
        go_simp
        with_reducible rfl
      rotate_left
      · simp only [Act.put, List.setIfInBounds_toArray, List.set_cons_zero, List.set_cons_succ, i64_w]
        rfl
      refine pure_ (i := 5) (N := (some 18)) (v := ?_) (a' := ?_) #[true, true, false, true, false, true, false, false, false, false, false, false, false] rfl rfl (by kernel_rfl) (fun _ _ _ h => h) (Or.inl ⟨by rfl, ?_⟩) ?_ ?_
      rotate_left
      · intro w'
        go_simp
        with_reducible rfl
      rotate_left
      · simp only [Act.put, List.setIfInBounds_toArray, List.set_cons_zero, List.set_cons_succ, i64_w]
        rfl
      refine pure_ (i := 7) (N := (some 20)) (v := ?_) (a' := ?_) #[true, true, false, true, false, true, false, true, false, false, false, false, false] rfl rfl (by kernel_rfl) (fun _ _ _ h => h) (Or.inl ⟨by rfl, ?_⟩) ?_ ?_
      rotate_left
      · intro w'
        go_simp
        with_reducible rfl
      rotate_left
      · simp only [Act.put, List.setIfInBounds_toArray, List.set_cons_zero, List.set_cons_succ, i64_w]
        rfl
      refine one_ (i := 2) (N := (some 15)) #[true, true, true, true, false, true, false, true, false, false, false, false, false] rfl rfl (by kernel_rfl) (by decide) (fun K hK => ?_)
      refine goes_ Try.func42 (by kernel_rfl) rfl #[.pointer (some ⟨B, 0, none⟩)] (by rfl) rfl rfl (by first | rfl | (simp only [List.map_toArray, List.map_cons, List.map_nil]; rfl)) ?_
      refine (name_c B l i _ HD.out.1.sc (by omega) (by omega) (by rw [HX.out.1]; omega) (by rw [HX.out.1]; omega) hl hby (by rw [HX.out.2.1]; exact HX.out.2.2.2.2.2)).mono ?_
      rintro e' wA ⟨rfl, hw⟩
      have HD2 := hid (And.intro (HD.out.1.scan hw) (Kd.R_below (Kd.R_set HD.out.2 (g := B) (t := 106) HD.out.1.scb (by simp [KE, Kd.pair, Kd.int, Kd.scalar, Kd.string]) 1 _) (by simpa using hw)))
      clear hw HD
      rw [HX.out.2.1]
      refine ⟨_, rfl, ?_⟩
      refine hK.out _ _ (blk_cell HD2.out.1.var 0) (fun hHeld => ?_)
      clear hK K
      refine norm_ (a' := ?_) ?_ ?_
      rotate_left
      · show Act.put _ (some 15) _ = _
        simp only [Act.put, List.setIfInBounds_toArray, List.set_cons_zero, List.set_cons_succ, i64_w]
        rfl
      refine one_ (i := 4) (N := (some 17)) #[true, true, true, true, true, true, false, true, false, false, false, false, false] rfl rfl (by kernel_rfl) (by decide) (fun K hK => ?_)
      refine goes_ Try.func41 (by kernel_rfl) rfl #[.pointer (some ⟨B, 0, none⟩), .int .i64 2] (by rfl) rfl rfl (by first | rfl | (simp only [List.map_toArray, List.map_cons, List.map_nil]; rfl)) ?_
      refine (number_c B l (i + 1 + z) 2 _ (by have h := HD2.out.1.drew.sc; rw [HX.out.1] at h; exact h) (by omega) (by omega) (by omega) hl hby).mono ?_
      rintro e' wA ⟨rfl, hw⟩
      have HD4 := hid (And.intro (HD2.out.1.scan hw) (Kd.R_below (Kd.R_set HD2.out.2 (g := B) (t := 106) HD2.out.1.scb (by simp [KE, Kd.pair, Kd.int, Kd.scalar, Kd.string]) 1 _) (by simpa using hw)))
      clear hw HD2
      rw [HX.out.2.2.1]
      refine ⟨_, rfl, ?_⟩
      refine hK.out _ _ (blk_cell HD4.out.1.var 0) (fun hHeld => ?_)
      clear hK K
      refine norm_ (a' := ?_) ?_ ?_
      rotate_left
      · show Act.put _ (some 17) _ = _
        simp only [Act.put, List.setIfInBounds_toArray, List.set_cons_zero, List.set_cons_succ, i64_w]
        rfl
      refine one_ (i := 6) (N := (some 19)) #[true, true, true, true, true, true, true, true, false, false, false, false, false] rfl rfl (by kernel_rfl) (by decide) (fun K hK => ?_)
      refine goes_ Try.func41 (by kernel_rfl) rfl #[.pointer (some ⟨B, 0, none⟩), .int .i64 2] (by rfl) rfl rfl (by first | rfl | (simp only [List.map_toArray, List.map_cons, List.map_nil]; rfl)) ?_
      refine (number_c B l (i + 1 + z + 2) 2 _ HD4.out.1.sc (by omega) (by omega) (by omega) hl hby).mono ?_
      rintro e' wA ⟨rfl, hw⟩
      have HD6 := hid (And.intro (HD4.out.1.scan hw) (Kd.R_below (Kd.R_set HD4.out.2 (g := B) (t := 106) HD4.out.1.scb (by simp [KE, Kd.pair, Kd.int, Kd.scalar, Kd.string]) 1 _) (by simpa using hw)))
      clear hw HD4
      rw [HX.out.2.2.2.1]
      refine ⟨_, rfl, ?_⟩
      refine hK.out _ _ (blk_cell HD6.out.1.var 0) (fun hHeld => ?_)
      clear hK K
      refine norm_ (a' := ?_) ?_ ?_
      rotate_left
      · show Act.put _ (some 19) _ = _
        simp only [Act.put, List.setIfInBounds_toArray, List.set_cons_zero, List.set_cons_succ, i64_w]
        rfl
      refine one_ (i := 8) (N := (some 21)) #[true, true, true, true, true, true, true, true, true, false, false, false, false] rfl rfl (by kernel_rfl) (by decide) (fun K hK => ?_)
      refine goes_ Try.func43 (by kernel_rfl) rfl #[.pointer (some ⟨B, 0, none⟩)] (by rfl) rfl rfl (by first | rfl | (simp only [List.map_toArray, List.map_cons, List.map_nil]; rfl)) ?_
      refine (float_c B l (i + 1 + z + 2 + 2) _ HD6.out.1.sc (by omega) (by omega) hl hby).mono ?_
      rintro e' wA ⟨rfl, hw⟩
      have HD8 := hid (And.intro (HD6.out.1.scan hw) (Kd.R_below (Kd.R_set HD6.out.2 (g := B) (t := 106) HD6.out.1.scb (by simp [KE, Kd.pair, Kd.int, Kd.scalar, Kd.string]) 1 _) (by simpa using hw)))
      clear hw HD6
      rw [HX.out.2.2.2.2.1]
      refine ⟨_, rfl, ?_⟩
      refine hK.out _ _ (blk_cell HD8.out.1.var 0) (fun hHeld => ?_)
      clear hK K
      refine norm_ (a' := ?_) ?_ ?_
      rotate_left
      · show Act.put _ (some 21) _ = _
        simp only [Act.put, List.setIfInBounds_toArray, List.set_cons_zero, List.set_cons_succ, i64_w]
        rfl
      refine pure_ (i := 9) (N := (some 22)) (v := ?_) (a' := ?_) #[true, true, true, true, true, true, true, true, true, true, false, false, false] rfl rfl (by kernel_rfl) (fun _ _ _ h => h) (Or.inl ⟨by rfl, ?_⟩) ?_ ?_
      rotate_left
      · intro w'
        go_simp
        with_reducible rfl
      rotate_left
      · simp only [Act.put, List.setIfInBounds_toArray, List.set_cons_zero, List.set_cons_succ, i64_w]
        rfl
      refine one_ (i := 10) (N := (some 23)) #[true, true, true, true, true, true, true, true, true, true, true, false, false] rfl rfl (by kernel_rfl) (by decide) (fun K hK => ?_)
      go_simp
      have HD10 := hid (And.intro (HD8.out.1.mem (below_alloc (Below.refl _ _) (.cells #[.string nm, .int .i64 fr, .int .i64 tq, .float .f64 f] 73))) (Kd.R_alloc HD8.out.2 (.cells #[.string nm, .int .i64 fr, .int .i64 tq, .float .f64 f] 73)))
      refine hK.out _ _ (blk_cell HD10.out.1.var 0) (fun hHeld => ?_)
      clear hK K
      refine one_ (i := 11) (N := (some 24)) #[true, true, true, true, true, true, true, true, true, true, true, true, false] rfl rfl (by kernel_rfl) (by decide) (fun K hK => ?_)
      refine Kd.R_append_step KE (w0 := w) n0 (by rfl) (.tmp 13) (.tmp 23) 69 73 (.agg #[.string ⟨#[]⟩, .int .i64 0, .int .i64 0, .float .f64 0]) 40 (by rfl) Try.underlying69 info73 rfl (by decide) (by decide) v L (nm, fr, tq, f) [.string nm, .int .i64 fr, .int .i64 tq, .float .f64 f] (fun _ => True) (fun _ => False) (by rfl) (by rfl) KE_M (fun _ h => h.elim) (fun _ _ => trivial) HD8.out.2 HD8.out.1.below (HD8.out.1.base) (by omega) ?_
      intro v6 w6 hr hb hg hat
      rw [HT.out] at hr
      obtain ⟨A6, c6, rfl, _, _⟩ := Kd.R_reads hr
      have HW6 := hid (And.intro (HD8.out.1.row hg (fun k' hk' => by obtain ⟨inner, ho⟩ := Kd.R_own HD8.out.2; exact ⟨Kd.R_base HD8.out.2 k' hk', own_typed ho k' hk'⟩) (e := 73) (by decide) (by decide) (by decide) (by decide)) hr)
      clear hr hb hg hat
      refine hK.out _ _ (blk_cell HW6.out.1.var 0) (fun hHeld => ?_)
      clear hK K
      refine norm_ (a' := ?_) ?_ ?_
      rotate_left
      · show Act.put _ (some 24) _ = _
        simp only [Act.put, List.setIfInBounds_toArray, List.set_cons_zero, List.set_cons_succ, i64_w]
        rfl
      refine last_ (i := 12) (N := none) #[true, true, true, true, true, true, true, true, true, true, true, true, true] rfl rfl (by kernel_rfl) (by decide) (fun K hK => ?_)
      have c6_ : w6.cell? ⟨N, 0, none⟩ = some v := blk_cell HW6.out.1.var 0
      have g6_ : w6.frozen? ⟨N, 0, none⟩ = false := blk_frozen HW6.out.1.var 0
      go_simp
      clear c6_ g6_
      refine hK.out _ _ ?_
      clear hK K
      refine done_ (by kernel_rfl) ?_
      go_wp2
      go_roundw
      case rel =>
        refine ⟨k + 1, T6, .slice A6 T6.length c6, i + 1 + z + 2 + 2 + 8, by omega, HTL.out, by go_num, hid ⟨HPS.out, ?_, ?_⟩⟩
        · exact HW6.out.1.put (by decide) 0 _
        · exact Kd.R_set HW6.out.2 HW6.out.1.var (by simp [KE, Kd.pair, Kd.int, Kd.scalar, Kd.string]) 0 _
      case measure => simp [intOf]; omega
    · have hkn : k = n := by omega
      go_wp2
      first | go_end0 | refine bodyPost_ret (results_none rfl _ _ _) rfl ?_
      obtain ⟨h0, h1, _, hL⟩ := hI.out.1
      refine .inl ⟨i, rfl, h0, h1, hI.out.2.1.sc, hI.out.2.1.errno, hI.out.2.1.below, hI.out.2.1.errno, ?_⟩
      by_cases hil : i < (l.length : Int)
      · rw [if_pos hil]; exact .inl (.inl rfl)
      · rw [if_neg hil]
        exact .inr ⟨rfl, L, v, pre_end hI.out.1 hil (by omega), by omega, hL, hI.out.2.1.var, hI.out.2.2⟩
end Go.Proofs.Ytmcfihpbiilbcaa.H
