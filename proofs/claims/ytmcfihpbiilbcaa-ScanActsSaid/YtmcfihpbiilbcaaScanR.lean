/- ScanNames' walk. -/
import Derived.Test.YtmcfihpbiilbcaaScanQ
namespace Go.Proofs.Ytmcfihpbiilbcaa.H
open Go.RowKit Go.Proofs.YtmcfihpbiilbcaaW.PrintWords Go.Proofs.YtmcfihpbiilbcaaW.PrintLast Go.Proofs.YtmcfihpbiilbcaaW.PrintMore Go.Proofs.Ytmcfihpbiilbcaa.F
set_option linter.unusedVariables false
set_option linter.unusedSimpArgs false
theorem names_big (s : ByteArray) (n z : Int) (w : World) (h3 : 200 < (s.size : Int)) :
    Calls Try.prog 5 #[.string s, .int .u32 n, .int .u8 z] w fun e w' => e = .returned (.bool true) ∧ Below w.heap.size w w' := by
  go_enter Try.func5, Try.ntmps5
  go_wp2_with fail
  refine (awake_c _).mono ?_
  rintro e w1 ⟨rfl, hw1⟩
  have H := hid hw1
  clear hw1
  go_wp2_with fail
  refine (awake_c _).mono ?_
  rintro e w2 ⟨rfl, hw2⟩
  have H2 := hid (below_step H.out hw2)
  clear hw2
  go_wp2
  go_ret
  exact ⟨rfl, H2.out⟩
theorem refPut_c (n : Int) (n0 : 0 ≤ n) (n1 : n ≤ 4294967295) (w : World) :
    Calls Try.prog 36 #[.int .u32 n] w fun e w' => ∃ v, e = .returned v ∧ RB w' w.heap.size v (fourS n) ∧ Below w.heap.size w w' := by
  refine (spliceref01_Put.calls n _ w (refPut_eq n n0 n1)).mono ?_
  rintro e w' ⟨v, rfl, h1, h2⟩
  exact ⟨v, rfl, h1, h2⟩
theorem putName_c (s : ByteArray) (hs : s.size ≤ 140737488351232) (w : World) :
    Calls Try.prog 37 #[.string s] w fun e w' => ∃ v, e = .returned v ∧ RB w' w.heap.size v ((s.size : Int) % 256 :: bytesOf s) ∧ Below w.heap.size w w' := by
  refine (scan_PutName.calls s ((s.size : Int) % 256 :: bytesOf s) w ?_).mono ?_
  · unfold scan_PutName.f
    rw [Option.bind_some, if_pos (by simp; omega)]
    rfl
  rintro e w' ⟨v, rfl, h1, h2⟩
  exact ⟨v, rfl, h1, h2⟩
theorem strOfNums_cons (x : Int) (s : ByteArray) : strOfNums (x :: bytesOf s) = strOfNums [x] ++ s := by
  apply ByteArray.ext
  apply Array.ext'
  rw [strOfNums_data, ByteArray.data_append, Array.toList_append, strOfNums_data]
  simp only [List.map_cons, List.map_nil, List.singleton_append, List.cons.injEq, true_and]
  unfold bytesOf
  rw [List.map_map]
  conv => rhs; rw [← List.map_id s.data.toList]
  apply List.map_congr_left
  intro b _
  simp
set_option maxRecDepth 100000 in
theorem names_small (s : ByteArray) (n z : Int) (w : World) (h3 : (s.size : Int) ≤ 200) (n0 : 0 ≤ n) (n1 : n ≤ 4294967295) (z0 : 0 ≤ z) (z1 : z ≤ 255) :
    Calls Try.prog 5 #[.string s, .int .u32 n, .int .u8 z] w fun e w' => e = .returned (.bool true) ∧ Below w.heap.size w w' := by
  have e0 : IntKind.i64.wrap n = n := IntWalk.i64_in _ (by omega)
  have e1 : IntKind.i64.wrap (z % 4) = z % 4 := IntWalk.i64_in _ (by omega)
  obtain ⟨k, hk⟩ : ∃ k : Int, 1 + z % 4 = k := ⟨_, rfl⟩
  have e2 : IntKind.i64.wrap (1 + z % 4) = k := by rw [← hk]; exact IntWalk.i64_in _ (by omega)
  have k0 : 1 ≤ k := by omega
  have k4 : k ≤ 4 := by omega
  go_enter Try.func5, Try.ntmps5
  go_wp2_with fail
  refine (awake_c _).mono ?_
  rintro e w1 ⟨rfl, hw1⟩
  have H := hid hw1
  clear hw1
  go_wp2_with fail
  refine (named_c s _ (by omega)).mono ?_
  rintro e w2 ⟨rfl, hw2⟩
  have H2 := hid (below_step H.out hw2)
  clear hw2
  go_wp2_with fail
  refine (lnamed_c s _ (by omega)).mono ?_
  rintro e w3 ⟨rfl, ⟨nd, rfl⟩⟩
  have H3 := hid (pw_below_drewN H2.out nd)
  generalize w2.drewN nd = w3 at *
  go_wp2_with fail
  refine (sput_c n k (by omega) k4 _).mono ?_
  rintro e w4 ⟨A4, c4, rfl, hc4, hC4, hb4⟩
  have H4 := hid (And.intro hC4 (below_step H3.out hb4))
  clear hC4 hb4 H3
  go_wp2_with fail
  refine (refPut_c n n0 n1 _).mono ?_
  rintro e w5 ⟨v5, rfl, hR5, hb5⟩
  obtain ⟨A5, c5, rfl, hc5, hC5⟩ := Kd.R_reads hR5
  have hlf : (fourS n).length = 4 := rfl
  obtain ⟨hcut, hC5', hc5'⟩ := cutTo hC5 hc5 k (by omega) (by omega)
  have e3 : (fourS n).take k.toNat = putS n k := by unfold putS; rw [show n % 4294967296 = n by omega]
  rw [e3] at hcut hC5' hc5'
  have H5 := hid (And.intro (Kd.C_below H4.out.1 hb5) (And.intro hC5' (below_step H4.out.2 hb5)))
  clear hR5 hb5 hC5 hC5' H4
  have hpl : ((putS n k).length : Int) = k := putS_len n k (by omega) k4
  have HPL := hid hpl
  clear hpl hlf
  go_wp2_with fail
  refine (spliceref01_Same.calls ((putS n k).length + 1) A4 c4 (putS n k) A5 c5 (putS n k) true _ H5.out.1 hc4 H5.out.2.1 hc5' ?_).mono ?_
  · rw [refSame_eq _ _ (by have := HPL.out; omega)]; simp
  rintro e w6 ⟨rfl, ⟨nd6, rfl⟩⟩
  have H6 := hid (pw_below_drewN H5.out.2.2 nd6)
  generalize w5.drewN nd6 = w6 at *
  clear H5
  cases hN : namedB s
  · go_wp2
    refine start_ (n := 17) (S := fun _ => True) (ds := []) #[false, false, false, false, false, false, false, false, false, false, false, false, false, false, false, false, false] (by kernel_rfl) rfl rfl trivial (fun hHeld => ?_)
    refine pure_ (i := 0) (N := (some 42)) (v := ?_) (a' := ?_) #[true, false, false, false, false, false, false, false, false, false, false, false, false, false, false, false, false] rfl rfl (by kernel_rfl) (fun _ _ _ h => h) (Or.inl ⟨by rfl, ?_⟩) ?_ ?_
    rotate_left
    · intro w'
      go_simp
      with_reducible rfl
    rotate_left
    · simp only [Act.put, List.setIfInBounds_toArray, List.set_cons_zero, List.set_cons_succ, i64_w]
      rfl
    refine one_ (i := 1) (N := (some 43)) #[true, true, false, false, false, false, false, false, false, false, false, false, false, false, false, false, false] rfl rfl (by kernel_rfl) (by decide) (fun K hK => ?_)
    refine goes_ Try.func34 (by kernel_rfl) rfl #[.string s] (by rfl) rfl rfl (by first | rfl | (simp only [List.map_toArray, List.map_cons, List.map_nil]; rfl)) ?_
    refine (lnamed_c s _ (by omega)).mono ?_
    rw [hN]
    rintro e w7 ⟨rfl, ⟨nd7, rfl⟩⟩
    refine ⟨_, rfl, ?_⟩
    refine hK.out _ _ trivial (fun hHeld => ?_)
    clear hK K
    refine norm_ (a' := ?_) ?_ ?_
    rotate_left
    · show Act.put _ (some 43) _ = _
      simp only [Act.put, List.setIfInBounds_toArray, List.set_cons_zero, List.set_cons_succ, i64_w]
      rfl
    refine pure_ (i := 2) (N := (some 44)) (v := ?_) (a' := ?_) #[true, true, true, false, false, false, false, false, false, false, false, false, false, false, false, false, false] rfl rfl (by kernel_rfl) (fun _ _ _ h => h) (Or.inl ⟨by rfl, ?_⟩) ?_ ?_
    rotate_left
    · intro w'
      go_simp
      with_reducible rfl
    rotate_left
    · simp only [Act.put, List.setIfInBounds_toArray, List.set_cons_zero, List.set_cons_succ, i64_w]
      rfl
    refine pure_ (i := 3) (N := (some 45)) (v := ?_) (a' := ?_) #[true, true, true, true, false, false, false, false, false, false, false, false, false, false, false, false, false] rfl rfl (by kernel_rfl) (fun _ _ _ h => h) (Or.inl ⟨by rfl, ?_⟩) ?_ ?_
    rotate_left
    · intro w'
      go_simp
      with_reducible rfl
    rotate_left
    · simp only [Act.put, List.setIfInBounds_toArray, List.set_cons_zero, List.set_cons_succ, i64_w]
      rfl
    refine pure_ (i := 4) (N := (some 46)) (v := undef) (a' := ?_) #[true, true, true, true, true, false, false, false, false, false, false, false, false, false, false, false, false] rfl rfl (by kernel_rfl) (fun _ _ _ h => h) (Or.inr ⟨by rfl, rfl⟩) ?_ ?_
    rotate_left
    · simp only [Act.put, List.setIfInBounds_toArray, List.set_cons_zero, List.set_cons_succ, i64_w]
      rfl
    refine pure_ (i := 5) (N := (some 47)) (v := undef) (a' := ?_) #[true, true, true, true, true, true, false, false, false, false, false, false, false, false, false, false, false] rfl rfl (by kernel_rfl) (fun _ _ _ h => h) (Or.inr ⟨by rfl, rfl⟩) ?_ ?_
    rotate_left
    · simp only [Act.put, List.setIfInBounds_toArray, List.set_cons_zero, List.set_cons_succ, i64_w]
      rfl
    refine pure_ (i := 6) (N := (some 48)) (v := undef) (a' := ?_) #[true, true, true, true, true, true, true, false, false, false, false, false, false, false, false, false, false] rfl rfl (by kernel_rfl) (fun _ _ _ h => h) (Or.inr ⟨by rfl, rfl⟩) ?_ ?_
    rotate_left
    · simp only [Act.put, List.setIfInBounds_toArray, List.set_cons_zero, List.set_cons_succ, i64_w]
      rfl
    refine pure_ (i := 7) (N := (some 49)) (v := undef) (a' := ?_) #[true, true, true, true, true, true, true, true, false, false, false, false, false, false, false, false, false] rfl rfl (by kernel_rfl) (fun _ _ _ h => h) (Or.inr ⟨by rfl, rfl⟩) ?_ ?_
    rotate_left
    · simp only [Act.put, List.setIfInBounds_toArray, List.set_cons_zero, List.set_cons_succ, i64_w]
      rfl
    refine pure_ (i := 8) (N := (some 50)) (v := undef) (a' := ?_) #[true, true, true, true, true, true, true, true, true, false, false, false, false, false, false, false, false] rfl rfl (by kernel_rfl) (fun _ _ _ h => h) (Or.inr ⟨by rfl, rfl⟩) ?_ ?_
    rotate_left
    · simp only [Act.put, List.setIfInBounds_toArray, List.set_cons_zero, List.set_cons_succ, i64_w]
      rfl
    refine pure_ (i := 9) (N := (some 51)) (v := undef) (a' := ?_) #[true, true, true, true, true, true, true, true, true, true, false, false, false, false, false, false, false] rfl rfl (by kernel_rfl) (fun _ _ _ h => h) (Or.inr ⟨by rfl, rfl⟩) ?_ ?_
    rotate_left
    · simp only [Act.put, List.setIfInBounds_toArray, List.set_cons_zero, List.set_cons_succ, i64_w]
      rfl
    refine pure_ (i := 10) (N := (some 52)) (v := undef) (a' := ?_) #[true, true, true, true, true, true, true, true, true, true, true, false, false, false, false, false, false] rfl rfl (by kernel_rfl) (fun _ _ _ h => h) (Or.inr ⟨by rfl, rfl⟩) ?_ ?_
    rotate_left
    · simp only [Act.put, List.setIfInBounds_toArray, List.set_cons_zero, List.set_cons_succ, i64_w]
      rfl
    refine pure_ (i := 11) (N := (some 53)) (v := undef) (a' := ?_) #[true, true, true, true, true, true, true, true, true, true, true, true, false, false, false, false, false] rfl rfl (by kernel_rfl) (fun _ _ _ h => h) (Or.inr ⟨by rfl, rfl⟩) ?_ ?_
    rotate_left
    · simp only [Act.put, List.setIfInBounds_toArray, List.set_cons_zero, List.set_cons_succ, i64_w]
      rfl
    refine pure_ (i := 12) (N := (some 54)) (v := undef) (a' := ?_) #[true, true, true, true, true, true, true, true, true, true, true, true, true, false, false, false, false] rfl rfl (by kernel_rfl) (fun _ _ _ h => h) (Or.inr ⟨by rfl, rfl⟩) ?_ ?_
    rotate_left
    · simp only [Act.put, List.setIfInBounds_toArray, List.set_cons_zero, List.set_cons_succ, i64_w]
      rfl
    refine pure_ (i := 13) (N := (some 55)) (v := undef) (a' := ?_) #[true, true, true, true, true, true, true, true, true, true, true, true, true, true, false, false, false] rfl rfl (by kernel_rfl) (fun _ _ _ h => h) (Or.inr ⟨by rfl, rfl⟩) ?_ ?_
    rotate_left
    · simp only [Act.put, List.setIfInBounds_toArray, List.set_cons_zero, List.set_cons_succ, i64_w]
      rfl
    refine pure_ (i := 14) (N := (some 56)) (v := undef) (a' := ?_) #[true, true, true, true, true, true, true, true, true, true, true, true, true, true, true, false, false] rfl rfl (by kernel_rfl) (fun _ _ _ h => h) (Or.inr ⟨by rfl, rfl⟩) ?_ ?_
    rotate_left
    · simp only [Act.put, List.setIfInBounds_toArray, List.set_cons_zero, List.set_cons_succ, i64_w]
      rfl
    refine pure_ (i := 15) (N := (some 57)) (v := ?_) (a' := ?_) #[true, true, true, true, true, true, true, true, true, true, true, true, true, true, true, true, false] rfl rfl (by kernel_rfl) (fun _ _ _ h => h) (Or.inl ⟨by rfl, ?_⟩) ?_ ?_
    rotate_left
    · intro w'
      go_simp
      with_reducible rfl
    rotate_left
    · simp only [Act.put, List.setIfInBounds_toArray, List.set_cons_zero, List.set_cons_succ, i64_w]
      rfl
    refine pure_ (i := 16) (N := (some 6)) (v := ?_) (a' := ?_) #[true, true, true, true, true, true, true, true, true, true, true, true, true, true, true, true, true] rfl rfl (by kernel_rfl) (fun _ _ _ h => h) (Or.inl ⟨by rfl, ?_⟩) ?_ ?_
    rotate_left
    · intro w'
      go_simp
      with_reducible rfl
    rotate_left
    · simp only [Act.put, List.setIfInBounds_toArray, List.set_cons_zero, List.set_cons_succ, i64_w]
      rfl
    refine done_ (by kernel_rfl) ?_
    go_wp2
    go_ret
    exact ⟨rfl, pw_below_drewN H6.out.drew _⟩
  · have hsz : (s.size : Int) % 256 = s.size := by unfold namedB at hN; simp at hN; omega
    have z8 : IntKind.u8.wrap (s.size : Int) = s.size := by rw [IntKind.wrap_u8]; exact hsz
    have HSZ := hid hsz
    clear hsz
    go_wp2
    refine start_ (n := 17) (S := fun _ => True) (ds := []) #[false, false, false, false, false, false, false, false, false, false, false, false, false, false, false, false, false] (by kernel_rfl) rfl rfl trivial (fun hHeld => ?_)
    refine pure_ (i := 0) (N := (some 42)) (v := ?_) (a' := ?_) #[true, false, false, false, false, false, false, false, false, false, false, false, false, false, false, false, false] rfl rfl (by kernel_rfl) (fun _ _ _ h => h) (Or.inl ⟨by rfl, ?_⟩) ?_ ?_
    rotate_left
    · intro w'
      go_simp
      with_reducible rfl
    rotate_left
    · simp only [Act.put, List.setIfInBounds_toArray, List.set_cons_zero, List.set_cons_succ, i64_w]
      rfl
    refine one_ (i := 1) (N := (some 43)) #[true, true, false, false, false, false, false, false, false, false, false, false, false, false, false, false, false] rfl rfl (by kernel_rfl) (by decide) (fun K hK => ?_)
    refine goes_ Try.func34 (by kernel_rfl) rfl #[.string s] (by rfl) rfl rfl (by first | rfl | (simp only [List.map_toArray, List.map_cons, List.map_nil]; rfl)) ?_
    refine (lnamed_c s _ (by omega)).mono ?_
    rw [hN]
    rintro e w7' ⟨rfl, ⟨nd7, rfl⟩⟩
    refine ⟨_, rfl, ?_⟩
    refine hK.out _ _ trivial (fun hHeld => ?_)
    clear hK K
    refine norm_ (a' := ?_) ?_ ?_
    rotate_left
    · show Act.put _ (some 43) _ = _
      simp only [Act.put, List.setIfInBounds_toArray, List.set_cons_zero, List.set_cons_succ, i64_w]
      rfl
    refine pure_ (i := 2) (N := (some 44)) (v := ?_) (a' := ?_) #[true, true, true, false, false, false, false, false, false, false, false, false, false, false, false, false, false] rfl rfl (by kernel_rfl) (fun _ _ _ h => h) (Or.inl ⟨by rfl, ?_⟩) ?_ ?_
    rotate_left
    · intro w'
      go_simp
      with_reducible rfl
    rotate_left
    · simp only [Act.put, List.setIfInBounds_toArray, List.set_cons_zero, List.set_cons_succ, i64_w]
      rfl
    refine pure_ (i := 3) (N := (some 45)) (v := ?_) (a' := ?_) #[true, true, true, true, false, false, false, false, false, false, false, false, false, false, false, false, false] rfl rfl (by kernel_rfl) (fun _ _ _ h => h) (Or.inl ⟨by rfl, ?_⟩) ?_ ?_
    rotate_left
    · intro w'
      go_simp
      with_reducible rfl
    rotate_left
    · simp only [Act.put, List.setIfInBounds_toArray, List.set_cons_zero, List.set_cons_succ, i64_w]
      rfl
    refine pure_ (i := 4) (N := (some 46)) (v := ?_) (a' := ?_) #[true, true, true, true, true, false, false, false, false, false, false, false, false, false, false, false, false] rfl rfl (by kernel_rfl) (fun _ _ _ h => h) (Or.inl ⟨by rfl, ?_⟩) ?_ ?_
    rotate_left
    · intro w'
      go_simp
      with_reducible rfl
    rotate_left
    · simp only [Act.put, List.setIfInBounds_toArray, List.set_cons_zero, List.set_cons_succ, i64_w]
      rfl
    refine pure_ (i := 7) (N := (some 49)) (v := ?_) (a' := ?_) #[true, true, true, true, true, false, false, true, false, false, false, false, false, false, false, false, false] rfl rfl (by kernel_rfl) (fun _ _ _ h => h) (Or.inl ⟨by rfl, ?_⟩) ?_ ?_
    rotate_left
    · intro w'
      go_simp
      with_reducible rfl
    rotate_left
    · simp only [Act.put, List.setIfInBounds_toArray, List.set_cons_zero, List.set_cons_succ, i64_w]
      rfl
    refine pure_ (i := 8) (N := (some 50)) (v := ?_) (a' := ?_) #[true, true, true, true, true, false, false, true, true, false, false, false, false, false, false, false, false] rfl rfl (by kernel_rfl) (fun _ _ _ h => h) (Or.inl ⟨by rfl, ?_⟩) ?_ ?_
    rotate_left
    · intro w'
      go_simp
      with_reducible rfl
    rotate_left
    · simp only [Act.put, List.setIfInBounds_toArray, List.set_cons_zero, List.set_cons_succ, i64_w]
      rfl
    refine pure_ (i := 9) (N := (some 51)) (v := ?_) (a' := ?_) #[true, true, true, true, true, false, false, true, true, true, false, false, false, false, false, false, false] rfl rfl (by kernel_rfl) (fun _ _ _ h => h) (Or.inl ⟨by rfl, ?_⟩) ?_ ?_
    rotate_left
    · intro w'
      go_simp
      with_reducible rfl
    rotate_left
    · simp only [Act.put, List.setIfInBounds_toArray, List.set_cons_zero, List.set_cons_succ, i64_w]
      rfl
    refine pure_ (i := 12) (N := (some 54)) (v := ?_) (a' := ?_) #[true, true, true, true, true, false, false, true, true, true, false, false, true, false, false, false, false] rfl rfl (by kernel_rfl) (fun _ _ _ h => h) (Or.inl ⟨by rfl, ?_⟩) ?_ ?_
    rotate_left
    · intro w'
      go_simp
      with_reducible rfl
    rotate_left
    · simp only [Act.put, List.setIfInBounds_toArray, List.set_cons_zero, List.set_cons_succ, i64_w]
      rfl
    obtain ⟨L, hL⟩ : ∃ L : List Int, L = (s.size : Int) :: bytesOf s := ⟨_, rfl⟩
    have HL := hid hL
    clear hL
    have hcat : (9223372036854775807 < (strOfNums [(s.size : Int)]).size + s.size) = False := by rw [strOfNums_size]; simp; omega
    have HB := hid (pw_below_drewN H6.out.drew nd7)
    generalize w6.drew.drewN nd7 = w7 at *
    clear H6
    refine join_ (σ := Option Addr × Nat × Nat) 3 #[true, true, true, true, true, true, true, true, true, true, true, true, true, true, false, false, false] (fun s_ => [(47, .slice s_.1 L.length s_.2.1), (48, Value.string (strOfNums L)), (52, .slice (some ⟨s_.2.2, 0, none⟩) 1 1), (53, Value.string (strOfNums [(s.size : Int)])), (55, Value.string (strOfNums [(s.size : Int)] ++ s))]) (fun _ W => Below w.heap.size w W) ?_ (fun hcont => ?_)
    · rintro ⟨A8, c8, g⟩ W hB
      refine norm_ (a' := ?_) ?_ ?_
      rotate_left
      · simp only [putAll, Act.put, List.setIfInBounds_toArray, List.set_cons_zero, List.set_cons_succ]
        rfl
      refine pure_ (i := 14) (N := (some 56)) (v := ?_) (a' := ?_) #[true, true, true, true, true, true, true, true, true, true, true, true, true, true, true, false, false] rfl rfl (by kernel_rfl) (fun _ _ _ h => h) (Or.inl ⟨by rfl, ?_⟩) ?_ ?_
      rotate_left
      · intro w'
        go_simp
        with_reducible rfl
      rotate_left
      · simp only [Act.put, List.setIfInBounds_toArray, List.set_cons_zero, List.set_cons_succ, i64_w]
        rfl
      refine pure_ (i := 15) (N := (some 57)) (v := ?_) (a' := ?_) #[true, true, true, true, true, true, true, true, true, true, true, true, true, true, true, true, false] rfl rfl (by kernel_rfl) (fun _ _ _ h => h) (Or.inl ⟨by rfl, ?_⟩) ?_ ?_
      rotate_left
      · intro w'
        go_simp
        with_reducible rfl
      rotate_left
      · simp only [Act.put, List.setIfInBounds_toArray, List.set_cons_zero, List.set_cons_succ, i64_w]
        rfl
      refine pure_ (i := 16) (N := (some 6)) (v := ?_) (a' := ?_) #[true, true, true, true, true, true, true, true, true, true, true, true, true, true, true, true, true] rfl rfl (by kernel_rfl) (fun _ _ _ h => h) (Or.inl ⟨by rfl, ?_⟩) ?_ ?_
      rotate_left
      · intro w'
        go_simp
        with_reducible rfl
      rotate_left
      · simp only [Act.put, List.setIfInBounds_toArray, List.set_cons_zero, List.set_cons_succ, i64_w]
        rfl
      refine done_ (by kernel_rfl) ?_
      go_wp2
      go_ret
      refine ⟨?_, hB⟩
      show Ending.returned (.bool ((strOfNums L).toList == (strOfNums [(s.size : Int)] ++ s).toList)) = _
      rw [HL.out, strOfNums_cons]
      simp
    refine two_ (i := 5) (j := 10) (Ni := (some 47)) (Nj := (some 52)) #[true, true, true, true, true, true, false, true, true, true, false, false, true, false, false, false, false] #[true, true, true, true, true, false, false, true, true, true, true, false, true, false, false, false, false] rfl rfl rfl rfl (by kernel_rfl) (by decide) (by decide) (fun K hK => ?_) (fun K hK => ?_)
    · skip
      refine goes_ Try.func37 (by kernel_rfl) rfl #[.string s] (by rfl) rfl rfl (by first | rfl | (simp only [List.map_toArray, List.map_cons, List.map_nil]; rfl)) ?_
      refine (putName_c s (by omega) _).mono ?_
      rintro e w8 ⟨v8, rfl, hR8, hb8⟩
      rw [HSZ.out, ← HL.out] at hR8
      obtain ⟨A8, c8, rfl, hc8, hC8⟩ := Kd.R_reads hR8
      have HC := hid hC8
      have nB := hid (below_step HB.out hb8)
      clear HB hR8 hb8 hC8
      have HB := nB
      clear nB
      refine ⟨_, rfl, ?_⟩
      refine hK.out _ _ trivial (fun hHeld => ?_)
      clear hK K
      refine two_ (i := 6) (j := 10) (Ni := (some 48)) (Nj := (some 52)) #[true, true, true, true, true, true, true, true, true, true, false, false, true, false, false, false, false] #[true, true, true, true, true, true, false, true, true, true, true, false, true, false, false, false, false] rfl rfl rfl rfl (by kernel_rfl) (by decide) (by decide) (fun K hK => ?_) (fun K hK => ?_)
      · skip
        have q := Kd.C_string (c := c8) Try.underlying22 Try.underlying5 Try.underlying9 HC.out
        go_simp
        clear q
        refine hK.out _ _ trivial (fun hHeld => ?_)
        clear hK K
        refine one_ (i := 10) (N := (some 52)) #[true, true, true, true, true, true, true, true, true, true, true, false, true, false, false, false, false] rfl rfl (by kernel_rfl) (by decide) (fun K hK => ?_)
        go_simp
        have HG := hid (blk_new w8 (.cells #[.int .u8 (s.size : Int)] 5))
        have nB := hid (below_alloc HB.out (.cells #[.int .u8 (s.size : Int)] 5))
        have nC := hid (Kd.C_alloc HC.out (.cells #[.int .u8 (s.size : Int)] 5))
        clear HC
        have HC := nC
        clear nC
        clear HB
        have HB := nB
        clear nB
        refine hK.out _ _ trivial (fun hHeld => ?_)
        clear hK K
        refine one_ (i := 11) (N := (some 53)) #[true, true, true, true, true, true, true, true, true, true, true, true, true, false, false, false, false] rfl rfl (by kernel_rfl) (by decide) (fun K hK => ?_)
        have q : (convert 22 9 (.slice (some ⟨w8.heap.size, 0, none⟩) 1 1)).run Try.prog (w8.alloc (.cells #[.int .u8 (s.size : Int)] 5)) = .ok (.string (strOfNums [(s.size : Int)])) (w8.alloc (.cells #[.int .u8 (s.size : Int)] 5)) := Kd.C_string (c := 1) Try.underlying22 Try.underlying5 Try.underlying9 (C_block (k := .u8) (l := [(s.size : Int)]) HG.out (by simp) (fun j p h => by match j, h with | 0, h => simp at h ⊢; exact h | j + 1, h => simp at h))
        go_simp
        clear q
        refine hK.out _ _ trivial (fun hHeld => ?_)
        clear hK K
        refine pure_ (i := 13) (N := (some 55)) (v := ?_) (a' := ?_) #[true, true, true, true, true, true, true, true, true, true, true, true, true, true, false, false, false] rfl rfl (by kernel_rfl) (fun _ _ _ h => h) (Or.inl ⟨by rfl, ?_⟩) ?_ ?_
        rotate_left
        · intro w'
          go_simp
          with_reducible rfl
        rotate_left
        · rfl
        refine norm_ ?_ (hcont (A8, c8, w8.heap.size) (w8.alloc (.cells #[.int .u8 (s.size : Int)] 5)) HB.out)
        simp only [putAll, Act.put, List.setIfInBounds_toArray, List.set_cons_zero, List.set_cons_succ]
      · skip
        go_simp
        have HG := hid (blk_new w8 (.cells #[.int .u8 (s.size : Int)] 5))
        have nB := hid (below_alloc HB.out (.cells #[.int .u8 (s.size : Int)] 5))
        have nC := hid (Kd.C_alloc HC.out (.cells #[.int .u8 (s.size : Int)] 5))
        clear HC
        have HC := nC
        clear nC
        clear HB
        have HB := nB
        clear nB
        refine hK.out _ _ trivial (fun hHeld => ?_)
        clear hK K
        refine two_ (i := 6) (j := 11) (Ni := (some 48)) (Nj := (some 53)) #[true, true, true, true, true, true, true, true, true, true, true, false, true, false, false, false, false] #[true, true, true, true, true, true, false, true, true, true, true, true, true, false, false, false, false] rfl rfl rfl rfl (by kernel_rfl) (by decide) (by decide) (fun K hK => ?_) (fun K hK => ?_)
        · skip
          have q := Kd.C_string (c := c8) Try.underlying22 Try.underlying5 Try.underlying9 HC.out
          go_simp
          clear q
          refine hK.out _ _ trivial (fun hHeld => ?_)
          clear hK K
          refine one_ (i := 11) (N := (some 53)) #[true, true, true, true, true, true, true, true, true, true, true, true, true, false, false, false, false] rfl rfl (by kernel_rfl) (by decide) (fun K hK => ?_)
          have q : (convert 22 9 (.slice (some ⟨w8.heap.size, 0, none⟩) 1 1)).run Try.prog (w8.alloc (.cells #[.int .u8 (s.size : Int)] 5)) = .ok (.string (strOfNums [(s.size : Int)])) (w8.alloc (.cells #[.int .u8 (s.size : Int)] 5)) := Kd.C_string (c := 1) Try.underlying22 Try.underlying5 Try.underlying9 (C_block (k := .u8) (l := [(s.size : Int)]) HG.out (by simp) (fun j p h => by match j, h with | 0, h => simp at h ⊢; exact h | j + 1, h => simp at h))
          go_simp
          clear q
          refine hK.out _ _ trivial (fun hHeld => ?_)
          clear hK K
          refine pure_ (i := 13) (N := (some 55)) (v := ?_) (a' := ?_) #[true, true, true, true, true, true, true, true, true, true, true, true, true, true, false, false, false] rfl rfl (by kernel_rfl) (fun _ _ _ h => h) (Or.inl ⟨by rfl, ?_⟩) ?_ ?_
          rotate_left
          · intro w'
            go_simp
            with_reducible rfl
          rotate_left
          · rfl
          refine norm_ ?_ (hcont (A8, c8, w8.heap.size) (w8.alloc (.cells #[.int .u8 (s.size : Int)] 5)) HB.out)
          simp only [putAll, Act.put, List.setIfInBounds_toArray, List.set_cons_zero, List.set_cons_succ]
        · skip
          have q : (convert 22 9 (.slice (some ⟨w8.heap.size, 0, none⟩) 1 1)).run Try.prog (w8.alloc (.cells #[.int .u8 (s.size : Int)] 5)) = .ok (.string (strOfNums [(s.size : Int)])) (w8.alloc (.cells #[.int .u8 (s.size : Int)] 5)) := Kd.C_string (c := 1) Try.underlying22 Try.underlying5 Try.underlying9 (C_block (k := .u8) (l := [(s.size : Int)]) HG.out (by simp) (fun j p h => by match j, h with | 0, h => simp at h ⊢; exact h | j + 1, h => simp at h))
          go_simp
          clear q
          refine hK.out _ _ trivial (fun hHeld => ?_)
          clear hK K
          refine pure_ (i := 13) (N := (some 55)) (v := ?_) (a' := ?_) #[true, true, true, true, true, true, false, true, true, true, true, true, true, true, false, false, false] rfl rfl (by kernel_rfl) (fun _ _ _ h => h) (Or.inl ⟨by rfl, ?_⟩) ?_ ?_
          rotate_left
          · intro w'
            go_simp
            with_reducible rfl
          rotate_left
          · rfl
          refine one_ (i := 6) (N := (some 48)) #[true, true, true, true, true, true, true, true, true, true, true, true, true, true, false, false, false] rfl rfl (by kernel_rfl) (by decide) (fun K hK => ?_)
          have q := Kd.C_string (c := c8) Try.underlying22 Try.underlying5 Try.underlying9 HC.out
          go_simp
          clear q
          refine hK.out _ _ trivial (fun hHeld => ?_)
          clear hK K
          refine norm_ ?_ (hcont (A8, c8, w8.heap.size) (w8.alloc (.cells #[.int .u8 (s.size : Int)] 5)) HB.out)
          simp only [putAll, Act.put, List.setIfInBounds_toArray, List.set_cons_zero, List.set_cons_succ]
    · skip
      go_simp
      have HG := hid (blk_new w7 (.cells #[.int .u8 (s.size : Int)] 5))
      have nB := hid (below_alloc HB.out (.cells #[.int .u8 (s.size : Int)] 5))
      clear HB
      have HB := nB
      clear nB
      refine hK.out _ _ trivial (fun hHeld => ?_)
      clear hK K
      refine two_ (i := 5) (j := 11) (Ni := (some 47)) (Nj := (some 53)) #[true, true, true, true, true, true, false, true, true, true, true, false, true, false, false, false, false] #[true, true, true, true, true, false, false, true, true, true, true, true, true, false, false, false, false] rfl rfl rfl rfl (by kernel_rfl) (by decide) (by decide) (fun K hK => ?_) (fun K hK => ?_)
      · skip
        refine goes_ Try.func37 (by kernel_rfl) rfl #[.string s] (by rfl) rfl rfl (by first | rfl | (simp only [List.map_toArray, List.map_cons, List.map_nil]; rfl)) ?_
        refine (putName_c s (by omega) _).mono ?_
        rintro e w8 ⟨v8, rfl, hR8, hb8⟩
        rw [HSZ.out, ← HL.out] at hR8
        obtain ⟨A8, c8, rfl, hc8, hC8⟩ := Kd.R_reads hR8
        have HC := hid hC8
        have nB := hid (below_step HB.out hb8)
        have nG := hid (blk_below HG.out hb8)
        clear HG
        have HG := nG
        clear nG
        clear HB hR8 hb8 hC8
        have HB := nB
        clear nB
        refine ⟨_, rfl, ?_⟩
        refine hK.out _ _ trivial (fun hHeld => ?_)
        clear hK K
        refine two_ (i := 6) (j := 11) (Ni := (some 48)) (Nj := (some 53)) #[true, true, true, true, true, true, true, true, true, true, true, false, true, false, false, false, false] #[true, true, true, true, true, true, false, true, true, true, true, true, true, false, false, false, false] rfl rfl rfl rfl (by kernel_rfl) (by decide) (by decide) (fun K hK => ?_) (fun K hK => ?_)
        · skip
          have q := Kd.C_string (c := c8) Try.underlying22 Try.underlying5 Try.underlying9 HC.out
          go_simp
          clear q
          refine hK.out _ _ trivial (fun hHeld => ?_)
          clear hK K
          refine one_ (i := 11) (N := (some 53)) #[true, true, true, true, true, true, true, true, true, true, true, true, true, false, false, false, false] rfl rfl (by kernel_rfl) (by decide) (fun K hK => ?_)
          have q : (convert 22 9 (.slice (some ⟨w7.heap.size, 0, none⟩) 1 1)).run Try.prog w8 = .ok (.string (strOfNums [(s.size : Int)])) w8 := Kd.C_string (c := 1) Try.underlying22 Try.underlying5 Try.underlying9 (C_block (k := .u8) (l := [(s.size : Int)]) HG.out (by simp) (fun j p h => by match j, h with | 0, h => simp at h ⊢; exact h | j + 1, h => simp at h))
          go_simp
          clear q
          refine hK.out _ _ trivial (fun hHeld => ?_)
          clear hK K
          refine pure_ (i := 13) (N := (some 55)) (v := ?_) (a' := ?_) #[true, true, true, true, true, true, true, true, true, true, true, true, true, true, false, false, false] rfl rfl (by kernel_rfl) (fun _ _ _ h => h) (Or.inl ⟨by rfl, ?_⟩) ?_ ?_
          rotate_left
          · intro w'
            go_simp
            with_reducible rfl
          rotate_left
          · rfl
          refine norm_ ?_ (hcont (A8, c8, w7.heap.size) w8 HB.out)
          simp only [putAll, Act.put, List.setIfInBounds_toArray, List.set_cons_zero, List.set_cons_succ]
        · skip
          have q : (convert 22 9 (.slice (some ⟨w7.heap.size, 0, none⟩) 1 1)).run Try.prog w8 = .ok (.string (strOfNums [(s.size : Int)])) w8 := Kd.C_string (c := 1) Try.underlying22 Try.underlying5 Try.underlying9 (C_block (k := .u8) (l := [(s.size : Int)]) HG.out (by simp) (fun j p h => by match j, h with | 0, h => simp at h ⊢; exact h | j + 1, h => simp at h))
          go_simp
          clear q
          refine hK.out _ _ trivial (fun hHeld => ?_)
          clear hK K
          refine pure_ (i := 13) (N := (some 55)) (v := ?_) (a' := ?_) #[true, true, true, true, true, true, false, true, true, true, true, true, true, true, false, false, false] rfl rfl (by kernel_rfl) (fun _ _ _ h => h) (Or.inl ⟨by rfl, ?_⟩) ?_ ?_
          rotate_left
          · intro w'
            go_simp
            with_reducible rfl
          rotate_left
          · rfl
          refine one_ (i := 6) (N := (some 48)) #[true, true, true, true, true, true, true, true, true, true, true, true, true, true, false, false, false] rfl rfl (by kernel_rfl) (by decide) (fun K hK => ?_)
          have q := Kd.C_string (c := c8) Try.underlying22 Try.underlying5 Try.underlying9 HC.out
          go_simp
          clear q
          refine hK.out _ _ trivial (fun hHeld => ?_)
          clear hK K
          refine norm_ ?_ (hcont (A8, c8, w7.heap.size) w8 HB.out)
          simp only [putAll, Act.put, List.setIfInBounds_toArray, List.set_cons_zero, List.set_cons_succ]
      · skip
        have q : (convert 22 9 (.slice (some ⟨w7.heap.size, 0, none⟩) 1 1)).run Try.prog (w7.alloc (.cells #[.int .u8 (s.size : Int)] 5)) = .ok (.string (strOfNums [(s.size : Int)])) (w7.alloc (.cells #[.int .u8 (s.size : Int)] 5)) := Kd.C_string (c := 1) Try.underlying22 Try.underlying5 Try.underlying9 (C_block (k := .u8) (l := [(s.size : Int)]) HG.out (by simp) (fun j p h => by match j, h with | 0, h => simp at h ⊢; exact h | j + 1, h => simp at h))
        go_simp
        clear q
        refine hK.out _ _ trivial (fun hHeld => ?_)
        clear hK K
        refine pure_ (i := 13) (N := (some 55)) (v := ?_) (a' := ?_) #[true, true, true, true, true, false, false, true, true, true, true, true, true, true, false, false, false] rfl rfl (by kernel_rfl) (fun _ _ _ h => h) (Or.inl ⟨by rfl, ?_⟩) ?_ ?_
        rotate_left
        · intro w'
          go_simp
          with_reducible rfl
        rotate_left
        · rfl
        refine one_ (i := 5) (N := (some 47)) #[true, true, true, true, true, true, false, true, true, true, true, true, true, true, false, false, false] rfl rfl (by kernel_rfl) (by decide) (fun K hK => ?_)
        refine goes_ Try.func37 (by kernel_rfl) rfl #[.string s] (by rfl) rfl rfl (by first | rfl | (simp only [List.map_toArray, List.map_cons, List.map_nil]; rfl)) ?_
        refine (putName_c s (by omega) _).mono ?_
        rintro e w8 ⟨v8, rfl, hR8, hb8⟩
        rw [HSZ.out, ← HL.out] at hR8
        obtain ⟨A8, c8, rfl, hc8, hC8⟩ := Kd.R_reads hR8
        have HC := hid hC8
        have nB := hid (below_step HB.out hb8)
        have nG := hid (blk_below HG.out hb8)
        clear HG
        have HG := nG
        clear nG
        clear HB hR8 hb8 hC8
        have HB := nB
        clear nB
        refine ⟨_, rfl, ?_⟩
        refine hK.out _ _ trivial (fun hHeld => ?_)
        clear hK K
        refine one_ (i := 6) (N := (some 48)) #[true, true, true, true, true, true, true, true, true, true, true, true, true, true, false, false, false] rfl rfl (by kernel_rfl) (by decide) (fun K hK => ?_)
        have q := Kd.C_string (c := c8) Try.underlying22 Try.underlying5 Try.underlying9 HC.out
        go_simp
        clear q
        refine hK.out _ _ trivial (fun hHeld => ?_)
        clear hK K
        refine norm_ ?_ (hcont (A8, c8, w7.heap.size) w8 HB.out)
        simp only [putAll, Act.put, List.setIfInBounds_toArray, List.set_cons_zero, List.set_cons_succ]
theorem names_c (s : ByteArray) (n z : Int) (w : World) (n0 : 0 ≤ n) (n1 : n ≤ 4294967295) (z0 : 0 ≤ z) (z1 : z ≤ 255) :
    Calls Try.prog 5 #[.string s, .int .u32 n, .int .u8 z] w fun e w' => e = .returned (.bool true) ∧ Below w.heap.size w w' := by
  by_cases h : 200 < (s.size : Int)
  · exact names_big s n z w h
  · exact names_small s n z w (by omega) n0 n1 z0 z1
end Go.Proofs.Ytmcfihpbiilbcaa.H
