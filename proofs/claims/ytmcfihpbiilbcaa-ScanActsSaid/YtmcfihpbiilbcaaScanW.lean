/- ScanTakes' walk. -/
import Derived.Test.YtmcfihpbiilbcaaScanV
import Derived.WalkLawsBesides
namespace Go.Proofs.Ytmcfihpbiilbcaa.H
open Go.RowKit Go.Proofs.YtmcfihpbiilbcaaW.PrintWords Go.Proofs.YtmcfihpbiilbcaaW.PrintLast Go.Proofs.YtmcfihpbiilbcaaW.PrintMore Go.Proofs.Ytmcfihpbiilbcaa.F
set_option linter.unusedVariables false
set_option linter.unusedSimpArgs false
theorem blk_new_at (w : World) (o : Obj) (n : Nat) (h : w.heap.size = n) : (w.alloc o).heap[n]? = some o := by subst h; exact heap_alloc_new w o
theorem three_new (w : World) (o0 o1 o2 : Obj) : (((w.alloc o0).alloc o1).alloc o2).heap[w.heap.size]? = some o0 ∧ (((w.alloc o0).alloc o1).alloc o2).heap[w.heap.size + 1]? = some o1 ∧ (((w.alloc o0).alloc o1).alloc o2).heap[w.heap.size + 2]? = some o2 :=
  ⟨blk_alloc (blk_alloc (blk_new _ _) _) _, blk_alloc (blk_new_at _ _ _ (by simp)) _, blk_new_at _ _ _ (by simp)⟩
theorem takes_no (s : ByteArray) (n b : Int) (A : Option Addr) (c : Nat) (m : List Int) (w : World) (hs : s.size ≤ 9223372036854775807) (hN : namedB s = false) :
    Calls Try.prog 7 #[.int .u32 n, .string s, .int .u64 b, .slice A m.length c] w fun e w' => e = .returned (.bool true) ∧ Below w.heap.size w w' := by
  go_enter Try.func7, Try.ntmps7
  go_wp2_with fail
  refine (awake_c _).mono ?_
  rintro e w1 ⟨rfl, hw1⟩
  have c0 := blk_below (three_new w (.cells #[.int .u32 n] 36) (.cells #[.string s] 9) (.cells #[.slice A m.length c] 22)).2.1 hw1
  have c1 : w1.cell? ⟨w.heap.size + 1, 0, none⟩ = some (.string s) := blk_cell c0 0
  have H := hid (below_step (below_alloc (below_alloc (below_alloc (Below.refl w.heap.size w) _) _) _) hw1)
  clear hw1 c0
  go_wp2_with fail
  have hk := lnamed_c s w1 hs
  rw [hN] at hk
  refine hk.mono ?_
  clear hk
  rintro e w2 ⟨rfl, ⟨nd, rfl⟩⟩
  go_wp2_with fail
  refine (awake_c _).mono ?_
  rintro e w3 ⟨rfl, hw3⟩
  have H2 := hid (below_step (pw_below_drewN H.out nd) hw3)
  clear hw3
  go_wp2
  go_ret
  exact ⟨rfl, H2.out⟩
theorem takes_big (s : ByteArray) (n b : Int) (A : Option Addr) (c : Nat) (m : List Int) (w : World) (hs : s.size ≤ 9223372036854775807) (hN : namedB s = true) (hm : 200 < (m.length : Int)) :
    Calls Try.prog 7 #[.int .u32 n, .string s, .int .u64 b, .slice A m.length c] w fun e w' => e = .returned (.bool true) ∧ Below w.heap.size w w' := by
  go_enter Try.func7, Try.ntmps7
  go_wp2_with fail
  refine (awake_c _).mono ?_
  rintro e w1 ⟨rfl, hw1⟩
  have c0 := blk_below (three_new w (.cells #[.int .u32 n] 36) (.cells #[.string s] 9) (.cells #[.slice A m.length c] 22)).2.1 hw1
  have c1 : w1.cell? ⟨w.heap.size + 1, 0, none⟩ = some (.string s) := blk_cell c0 0
  have d0 := blk_below (three_new w (.cells #[.int .u32 n] 36) (.cells #[.string s] 9) (.cells #[.slice A m.length c] 22)).2.2 hw1
  have d1 : w1.cell? ⟨w.heap.size + 2, 0, none⟩ = some (.slice A m.length c) := blk_cell d0 0
  have H := hid (below_step (below_alloc (below_alloc (below_alloc (Below.refl w.heap.size w) _) _) _) hw1)
  clear hw1 c0 d0
  go_wp2_with fail
  have hk := lnamed_c s w1 hs
  rw [hN] at hk
  refine hk.mono ?_
  clear hk
  rintro e w2 ⟨rfl, ⟨nd, rfl⟩⟩
  go_wp2_with fail
  refine (awake_c _).mono ?_
  rintro e w3 ⟨rfl, hw3⟩
  have H2 := hid (below_step (pw_below_drewN H.out nd) hw3)
  clear hw3
  go_wp2
  go_ret
  exact ⟨rfl, H2.out⟩
theorem store_new_float (w : World) (b : Nat) (g : Nat) (hg : w.heap.size = g) : (store ⟨g, 0, none⟩ (.float .f64 b)).run Try.prog (w.alloc (.cells #[.float .f64 0] 50)) = .ok () (w.alloc (.cells #[.float .f64 b] 50)) := by
  subst hg
  rw [run_store _ _ _ _ _ rfl]
  have h := blk_new w (.cells #[.float .f64 0] 50)
  rw [blk_cell h 0, blk_frozen h 0]
  simp [World.setCell_alloc_at]
set_option maxRecDepth 100000 in
set_option maxHeartbeats 1000000 in
theorem takes_small (s : ByteArray) (n : Int) (b : Nat) (A : Option Addr) (c : Nat) (m : List Int) (w : World) (hC : CB w A m) (hc : m.length ≤ c) (hby : Bytes m) (hN : namedB s = true) (hm : (m.length : Int) ≤ 200) (n0 : 0 ≤ n) (n1 : n ≤ 4294967295) (hb : b < 18446744073709551616) :
    Calls Try.prog 7 #[.int .u32 n, .string s, .int .u64 b, .slice A m.length c] w fun e w' => e = .returned (.bool true) ∧ Below w.heap.size w w' := by
  have hs : s.size ≤ 32 := by unfold namedB at hN; simp at hN; omega
  have hmf : ∀ (fn : Fn) (first cap : Array Value) (w : World), (Instr.makeFunc fn first cap).run Try.prog w = .ok (.func fn first cap) w := fun _ _ _ _ => rfl
  have HC := hid hC
  have fr := frombits_run
  clear hC
  go_enter Try.func7, Try.ntmps7
  go_wp2_with fail
  refine (awake_c _).mono ?_
  rintro e w1 ⟨rfl, hw1⟩
  have hb3 := three_new w (.cells #[.int .u32 n] 36) (.cells #[.string s] 9) (.cells #[.slice A m.length c] 22)
  have b0 := blk_below hb3.1 hw1
  have b1 := blk_below hb3.2.1 hw1
  have b2 := blk_below hb3.2.2 hw1
  clear hb3
  have c1 : w1.cell? ⟨w.heap.size + 1, 0, none⟩ = some (.string s) := blk_cell b1 0
  have c2 : w1.cell? ⟨w.heap.size + 2, 0, none⟩ = some (.slice A m.length c) := blk_cell b2 0
  have HBW := hid (below_step (below_alloc (below_alloc (below_alloc (Below.refl w.heap.size w) _) _) _) hw1)
  have BB := hid (And.intro b0 (And.intro b1 b2))
  clear hw1 b0 b1 b2
  go_wp2_with fail
  have hk := lnamed_c s w1 (by omega)
  rw [hN] at hk
  refine hk.mono ?_
  clear hk
  rintro e w2 ⟨rfl, ⟨nd, rfl⟩⟩
  have hst := store_new_float (w1.drewN nd) b w1.heap.size rfl
  go_wp2
  obtain ⟨W0, hW0⟩ : ∃ W, W = (w1.drewN nd).alloc (.cells #[.float .f64 b] 50) := ⟨_, rfl⟩
  have hx0 : W0.heap[w1.heap.size]? = some (.cells #[.float .f64 b] 50 (0, 0)) := by rw [hW0]; exact blk_new (w1.drewN nd) _
  have hB0 : Below w.heap.size w W0 := by rw [hW0]; exact below_alloc (pw_below_drewN HBW.out nd) _
  have d0 := blk_alloc (blk_drewN BB.out.1 nd) (.cells #[.float .f64 b] 50)
  have d1 := blk_alloc (blk_drewN BB.out.2.1 nd) (.cells #[.float .f64 b] 50)
  have d2 := blk_alloc (blk_drewN BB.out.2.2 nd) (.cells #[.float .f64 b] 50)
  rw [← hW0] at d0 d1 d2
  have D := hid (And.intro d0 (And.intro d1 (And.intro d2 (And.intro hx0 hB0))))
  have hcs : ∀ W, Below W0.heap.size W0 W → (W.cell? ⟨w.heap.size, 0, none⟩ = some (.int .u32 n) ∧ W.cell? ⟨w.heap.size + 1, 0, none⟩ = some (.string s) ∧ W.cell? ⟨w.heap.size + 1 + 1, 0, none⟩ = some (.slice A m.length c) ∧ W.cell? ⟨w1.heap.size, 0, none⟩ = some (.float .f64 b)) := fun W hb => ⟨blk_cell (blk_below D.out.1 hb) 0, blk_cell (blk_below D.out.2.1 hb) 0, blk_cell (blk_below D.out.2.2.1 hb) 0, blk_cell (blk_below D.out.2.2.2.1 hb) 0⟩
  have HS := hid hcs
  have e0 : IntKind.i64.wrap n = n := IntWalk.i64_in _ (by omega)
  have hpl := putS_len n 4 (by omega) (by omega)
  have hsz : (s.size : Int) % 256 = s.size := by omega
  have hlb := bytesOf_length s
  have L := hid (And.intro hpl (And.intro hsz hlb))
  rw [← hW0]
  clear d0 d1 d2 hx0 hB0 c1 c2 BB HBW hW0 hcs hst hpl hsz hlb
  refine start_ (n := 14) (S := fun W => W.cell? ⟨w.heap.size, 0, none⟩ = some (.int .u32 n) ∧ W.cell? ⟨w.heap.size + 1, 0, none⟩ = some (.string s) ∧ W.cell? ⟨w.heap.size + 1 + 1, 0, none⟩ = some (.slice A m.length c) ∧ W.cell? ⟨w1.heap.size, 0, none⟩ = some (.float .f64 b)) (ds := []) #[false, false, false, false, false, false, false, false, false, false, false, false, false, false] (by kernel_rfl) rfl rfl (HS.out _ (below_drew (Below.refl _ _))) (fun hHeld => ?_)
  refine take_ (i := 1) (N := (some 29)) (v := ?_) (a' := ?_) #[false, true, false, false, false, false, false, false, false, false, false, false, false, false] rfl rfl (by kernel_rfl) (fun _ _ _ h => h) (Or.inl ⟨by rfl, ?_⟩) hHeld ?_ ?_
  rotate_left
  · rintro w' ⟨s0, s1, s2, s3⟩
    go_simp
    with_reducible rfl
  rotate_left
  · simp only [Act.put, List.setIfInBounds_toArray, List.set_cons_zero, List.set_cons_succ, i64_w]
    rfl
  refine pure_ (i := 2) (N := (some 30)) (v := ?_) (a' := ?_) #[false, true, true, false, false, false, false, false, false, false, false, false, false, false] rfl rfl (by kernel_rfl) (fun _ _ _ h => h) (Or.inl ⟨by rfl, ?_⟩) ?_ ?_
  rotate_left
  · intro w'
    go_simp
    with_reducible rfl
  rotate_left
  · simp only [Act.put, List.setIfInBounds_toArray, List.set_cons_zero, List.set_cons_succ, i64_w]
    rfl
  refine take_ (i := 5) (N := (some 33)) (v := ?_) (a' := ?_) #[false, true, true, false, false, true, false, false, false, false, false, false, false, false] rfl rfl (by kernel_rfl) (fun _ _ _ h => h) (Or.inl ⟨by rfl, ?_⟩) hHeld ?_ ?_
  rotate_left
  · rintro w' ⟨s0, s1, s2, s3⟩
    go_simp
    with_reducible rfl
  rotate_left
  · simp only [Act.put, List.setIfInBounds_toArray, List.set_cons_zero, List.set_cons_succ, i64_w]
    rfl
  refine take_ (i := 8) (N := (some 36)) (v := ?_) (a' := ?_) #[false, true, true, false, false, true, false, false, true, false, false, false, false, false] rfl rfl (by kernel_rfl) (fun _ _ _ h => h) (Or.inl ⟨by rfl, ?_⟩) hHeld ?_ ?_
  rotate_left
  · rintro w' ⟨s0, s1, s2, s3⟩
    go_simp
    with_reducible rfl
  rotate_left
  · simp only [Act.put, List.setIfInBounds_toArray, List.set_cons_zero, List.set_cons_succ, i64_w]
    rfl
  refine take_ (i := 11) (N := (some 39)) (v := ?_) (a' := ?_) #[false, true, true, false, false, true, false, false, true, false, false, true, false, false] rfl rfl (by kernel_rfl) (fun _ _ _ h => h) (Or.inl ⟨by rfl, ?_⟩) hHeld ?_ ?_
  rotate_left
  · rintro w' ⟨s0, s1, s2, s3⟩
    go_simp
    with_reducible rfl
  rotate_left
  · simp only [Act.put, List.setIfInBounds_toArray, List.set_cons_zero, List.set_cons_succ, i64_w]
    rfl
  have HB := hid (below_drew (Below.refl W0.heap.size W0))
  generalize W0.drew = W2 at *
  refine join_ (σ := Nat × Option Addr × Nat) 7 #[true, true, true, true, false, true, false, false, true, false, false, true, false, false] (fun s_ => [(28, .slice (some ⟨s_.1, 0, none⟩) 0 0), (31, .slice s_.2.1 (putS n 4).length s_.2.2)])
    (fun s_ W => Below W0.heap.size W0 W ∧ RB W W0.heap.size (.slice (some ⟨s_.1, 0, none⟩) 0 0) [] ∧ CB W s_.2.1 (putS n 4) ∧ (putS n 4).length ≤ s_.2.2) ?_ (fun hcont => ?_)
  · rintro ⟨g, A4, c4⟩ W ⟨hB, hR, hC4, hc4⟩
    have HB4 := hid hB
    have HR4 := hid hR
    have HC4 := hid hC4
    clear hB hR hC4 HB
    refine norm_ (a' := ?_) ?_ ?_
    rotate_left
    · simp only [putAll, Act.put, List.setIfInBounds_toArray, List.set_cons_zero, List.set_cons_succ]
      rfl
    refine one_ (i := 4) (N := (some 32)) #[true, true, true, true, true, true, false, false, true, false, false, true, false, false] rfl rfl (by kernel_rfl) (by decide) (fun K hK => ?_)
    refine app_s (w0 := W0) W0.heap.size (by rfl) (.tmp 28) (.tmp 31) (by rfl) _ [] (putS n 4) A4 c4 (by rfl) (by rfl) HR4.out HC4.out HB4.out HB4.out.size (by have := L.out; simp only [List.length_append, List.length_cons, List.length_nil, show ∀ x, (fourS x).length = 4 from fun _ => rfl]; omega) ?_
    intro v5 w5 hr hb hg hat
    have HR5 := hid hr
    have HB5 := hid hb
    clear hr hb hg hat HR4 HB4
    refine hK.out _ _ (HS.out _ HB5.out) (fun hHeld => ?_)
    clear hK K
    refine norm_ (a' := ?_) ?_ ?_
    rotate_left
    · show Act.put _ (some 32) _ = _
      simp only [Act.put, List.setIfInBounds_toArray, List.set_cons_zero, List.set_cons_succ, i64_w]
      rfl
    refine one_ (i := 6) (N := (some 34)) #[true, true, true, true, true, true, true, false, true, false, false, true, false, false] rfl rfl (by kernel_rfl) (by decide) (fun K hK => ?_)
    refine goes_ Try.func37 (by kernel_rfl) rfl #[.string s] (by rfl) rfl rfl (by first | rfl | (simp only [List.map_toArray, List.map_cons, List.map_nil]; rfl)) ?_
    refine (putName_c s (by omega) _).mono ?_
    rintro e w6 ⟨v6, rfl, hR6, hb6⟩
    obtain ⟨A6, c6, rfl, hc6, hC6⟩ := Kd.R_reads hR6
    have HR6 := hid (Kd.R_below HR5.out hb6)
    have HB6 := hid (HB5.out.trans (hb6.mono HB5.out.size))
    have HC6 := hid hC6
    clear hR6 hC6 hb6 HR5 HB5
    refine ⟨_, rfl, ?_⟩
    refine hK.out _ _ (HS.out _ HB6.out) (fun hHeld => ?_)
    clear hK K
    refine norm_ (a' := ?_) ?_ ?_
    rotate_left
    · show Act.put _ (some 34) _ = _
      simp only [Act.put, List.setIfInBounds_toArray, List.set_cons_zero, List.set_cons_succ, i64_w]
      rfl
    refine one_ (i := 7) (N := (some 35)) #[true, true, true, true, true, true, true, true, true, false, false, true, false, false] rfl rfl (by kernel_rfl) (by decide) (fun K hK => ?_)
    refine app_s (w0 := W0) W0.heap.size (by rfl) (.tmp 32) (.tmp 34) (by rfl) _ ([] ++ putS n 4) ((s.size : Int) % 256 :: bytesOf s) A6 c6 (by rfl) (by rfl) HR6.out HC6.out HB6.out HB6.out.size (by have := L.out; simp only [List.length_append, List.length_cons, List.length_nil, show ∀ x, (fourS x).length = 4 from fun _ => rfl]; omega) ?_
    intro v7 w7 hr hb hg hat
    have HR7 := hid hr
    have HB7 := hid hb
    clear hr hb hg hat HR6 HB6
    refine hK.out _ _ (HS.out _ HB7.out) (fun hHeld => ?_)
    clear hK K
    refine norm_ (a' := ?_) ?_ ?_
    rotate_left
    · show Act.put _ (some 35) _ = _
      simp only [Act.put, List.setIfInBounds_toArray, List.set_cons_zero, List.set_cons_succ, i64_w]
      rfl
    refine one_ (i := 9) (N := (some 37)) #[true, true, true, true, true, true, true, true, true, true, false, true, false, false] rfl rfl (by kernel_rfl) (by decide) (fun K hK => ?_)
    refine goes_ Try.func46 (by kernel_rfl) rfl #[.float .f64 b] (by rfl) rfl rfl (by first | rfl | (simp only [List.map_toArray, List.map_cons, List.map_nil]; rfl)) ?_
    refine (putfloat_c b hb _).mono ?_
    rintro e w9 ⟨v9, rfl, hR9, hb9⟩
    obtain ⟨A9, c9, rfl, hc9, hC9⟩ := Kd.R_reads hR9
    have HR9 := hid (Kd.R_below HR7.out hb9)
    have HB9 := hid (HB7.out.trans (hb9.mono HB7.out.size))
    have HC9 := hid hC9
    clear hR9 hC9 hb9 HR7 HB7
    refine ⟨_, rfl, ?_⟩
    refine hK.out _ _ (HS.out _ HB9.out) (fun hHeld => ?_)
    clear hK K
    refine norm_ (a' := ?_) ?_ ?_
    rotate_left
    · show Act.put _ (some 37) _ = _
      simp only [Act.put, List.setIfInBounds_toArray, List.set_cons_zero, List.set_cons_succ, i64_w]
      rfl
    refine one_ (i := 10) (N := (some 38)) #[true, true, true, true, true, true, true, true, true, true, true, true, false, false] rfl rfl (by kernel_rfl) (by decide) (fun K hK => ?_)
    refine app_s (w0 := W0) W0.heap.size (by rfl) (.tmp 35) (.tmp 37) (by rfl) _ ([] ++ putS n 4 ++ ((s.size : Int) % 256 :: bytesOf s)) (fourS ((b : Int) % 4294967296) ++ fourS ((b : Int) / 4294967296)) A9 c9 (by rfl) (by rfl) HR9.out HC9.out HB9.out HB9.out.size (by have := L.out; simp only [List.length_append, List.length_cons, List.length_nil, show ∀ x, (fourS x).length = 4 from fun _ => rfl]; omega) ?_
    intro v10 w10 hr hb hg hat
    have HR10 := hid hr
    have HB10 := hid hb
    clear hr hb hg hat HR9 HB9
    refine hK.out _ _ (HS.out _ HB10.out) (fun hHeld => ?_)
    clear hK K
    refine norm_ (a' := ?_) ?_ ?_
    rotate_left
    · show Act.put _ (some 38) _ = _
      simp only [Act.put, List.setIfInBounds_toArray, List.set_cons_zero, List.set_cons_succ, i64_w]
      rfl
    refine one_ (i := 12) (N := (some 40)) #[true, true, true, true, true, true, true, true, true, true, true, true, true, false] rfl rfl (by kernel_rfl) (by decide) (fun K hK => ?_)
    refine app_s (w0 := W0) W0.heap.size (by rfl) (.tmp 38) (.tmp 39) (by rfl) _ ([] ++ putS n 4 ++ ((s.size : Int) % 256 :: bytesOf s) ++ (fourS ((b : Int) % 4294967296) ++ fourS ((b : Int) / 4294967296))) m A c (by rfl) (by rfl) HR10.out (Kd.C_below HC.out (below_step D.out.2.2.2.2 HB10.out)) HB10.out HB10.out.size (by have := L.out; simp only [List.length_append, List.length_cons, List.length_nil, show ∀ x, (fourS x).length = 4 from fun _ => rfl]; omega) ?_
    intro v12 w12 hr hb hg hat
    have HR12 := hid hr
    have HB12 := hid hb
    clear hr hb hg hat HR10 HB10
    refine hK.out _ _ (HS.out _ HB12.out) (fun hHeld => ?_)
    clear hK K
    refine norm_ (a' := ?_) ?_ ?_
    rotate_left
    · show Act.put _ (some 40) _ = _
      simp only [Act.put, List.setIfInBounds_toArray, List.set_cons_zero, List.set_cons_succ, i64_w]
      rfl
    refine pure_ (i := 13) (N := (some 10)) (v := ?_) (a' := ?_) #[true, true, true, true, true, true, true, true, true, true, true, true, true, true] rfl rfl (by kernel_rfl) (fun _ _ _ h => h) (Or.inl ⟨by rfl, ?_⟩) ?_ ?_
    rotate_left
    · intro w'
      go_simp
      with_reducible rfl
    rotate_left
    · simp only [Act.put, List.setIfInBounds_toArray, List.set_cons_zero, List.set_cons_succ, i64_w]
      rfl
    refine done_ (by kernel_rfl) ?_
    obtain ⟨l, hl⟩ : ∃ l, l = takesL n s b m := ⟨_, rfl⟩
    have eL : ([] ++ putS n 4 ++ ((s.size : Int) % 256 :: bytesOf s) ++ (fourS ((b : Int) % 4294967296) ++ fourS ((b : Int) / 4294967296)) ++ m) = l := by rw [hl, L.out.2.1]; rfl
    have hR := HR12.out
    rw [eL] at hR
    obtain ⟨q0, q1, q2, q3, q4, q5, q6⟩ := takes_facts n s b m n0 n1 hs hb hby
    rw [← hl] at q0 q1 q2 q3 q4 q5 q6
    clear hl
    obtain ⟨A12, c12, rfl, hc12, hC12⟩ := Kd.R_reads hR
    have hbw := below_step D.out.2.2.2.2 HB12.out
    obtain ⟨W3, hW3⟩ : ∃ W, W = w12.alloc (.cells #[.bool false] 4) := ⟨_, rfl⟩
    have d0 := blk_alloc (blk_below D.out.1 HB12.out) (.cells #[.bool false] 4)
    have d1 := blk_alloc (blk_below D.out.2.1 HB12.out) (.cells #[.bool false] 4)
    have d2 := blk_alloc (blk_below D.out.2.2.1 HB12.out) (.cells #[.bool false] 4)
    have d3 := blk_alloc (blk_below D.out.2.2.2.1 HB12.out) (.cells #[.bool false] 4)
    have d4 := blk_new w12 (.cells #[.bool false] 4)
    have hb3 := below_alloc hbw (.cells #[.bool false] 4)
    have hCl := Kd.C_alloc hC12 (.cells #[.bool false] 4)
    rw [← hW3] at d0 d1 d2 d3 d4 hb3 hCl
    have E := hid (And.intro d0 (And.intro d1 (And.intro d2 (And.intro d3 (And.intro d4 (And.intro hb3 (And.intro hCl (Kd.C_below HC.out hb3))))))))
    have Q := hid (And.intro q0 (And.intro q1 (And.intro q2 (And.intro q3 (And.intro q4 (And.intro q5 q6))))))
    have hsz12 := hbw.size
    have hzz : w12.heap.size < W3.heap.size := blk_lt d4
    clear hR hC12 hbw d0 d1 d2 d3 d4 hb3 hCl q0 q1 q2 q3 q4 q5 q6 HR12 HB12 hHeld HC9 HC6 HC4 HS D eL
    go_wp2_with fail
    rw [← hW3]
    refine (try_c 47 enter_47 #[.pointer (some ⟨w.heap.size + 1 + 1, 0, none⟩), .pointer (some ⟨w.heap.size, 0, none⟩), .pointer (some ⟨w.heap.size + 1, 0, none⟩), .pointer (some ⟨w1.heap.size, 0, none⟩), .pointer (some ⟨w12.heap.size, 0, none⟩)] A12 c12 l W3 E.out.2.2.2.2.2.2.1 hc12 (by have := Q.out.1; omega)
      (fun w2 x => x = 0 ∧ w2.heap[w12.heap.size]? = some (.cells #[.bool true] 4 (0, 0)) ∧ Below w.heap.size w w2)
      (fun w1' B hF => (read47 W3 w1' B (w.heap.size + 1 + 1) w.heap.size (w.heap.size + 1) w1.heap.size w12.heap.size l m n s b A c hF E.out.2.2.1 E.out.1 E.out.2.1 E.out.2.2.2.1 E.out.2.2.2.2.1 E.out.2.2.2.2.2.2.2 hc n0 n1 hm (by omega) Q.out.1 Q.out.2.1 Q.out.2.2.1 Q.out.2.2.2.1 Q.out.2.2.2.2.1 Q.out.2.2.2.2.2.1 Q.out.2.2.2.2.2.2 hN).mono fun e w2 h => h.imp (fun w2 x hr => ?_))).mono ?_
    · obtain ⟨h1, h2, w3, h3, rfl⟩ := hr
      have := hF.lt
      have hs' := hF.below.size
      exact ⟨h1, h2, (Aft.below (E.out.2.2.2.2.2.1.trans (hF.below.mono (by omega))) h3 (by omega) (by omega)).setCell (by show _ ≤ w12.heap.size; omega) _⟩
    rintro e w4' ⟨x, w2', rfl, ⟨rfl, hN2, hB2⟩, ha⟩
    have hlt2 := blk_lt hN2
    have hN4 : w4'.heap[w12.heap.size]? = some (.cells #[.bool true] 4 (0, 0)) := (ha.block _ hlt2 (by omega)).trans hN2
    have hB4 : Below w.heap.size w w4' := Aft.below hB2 ha (by omega) (by omega)
    have c4' : w4'.cell? ⟨w12.heap.size, 0, none⟩ = some (.bool true) := blk_cell hN4 0
    have H4 := hid hB4
    clear hN4 hB4 ha hN2 hB2 E Q
    go_wp2
    go_ret
    exact ⟨rfl, H4.out⟩
  refine two_ (i := 0) (j := 3) (Ni := (some 28)) (Nj := (some 31)) #[true, true, true, false, false, true, false, false, true, false, false, true, false, false] #[false, true, true, true, false, true, false, false, true, false, false, true, false, false] rfl rfl rfl rfl (by kernel_rfl) (by decide) (by decide) (fun K hK => ?_) (fun K hK => ?_)
  · skip
    go_simp
    have HR0 := hid (Kd.R_lower (R_empty W2) HB.out.size)
    have nB := hid ((HB.out).alloc HB.out.size (.cells #[] 5))
    clear HB
    have HB := nB
    clear nB
    refine hK.out _ _ (HS.out _ HB.out) (fun hHeld => ?_)
    clear hK K
    refine one_ (i := 3) (N := (some 31)) #[true, true, true, true, false, true, false, false, true, false, false, true, false, false] rfl rfl (by kernel_rfl) (by decide) (fun K hK => ?_)
    refine goes_ Try.func35 (by kernel_rfl) rfl #[.int .i64 n, .int .i64 4] (by rfl) rfl rfl (by first | rfl | (simp only [List.map_toArray, List.map_cons, List.map_nil]; rfl)) ?_
    refine (sput_c n 4 (by omega) (by omega) _).mono ?_
    rintro e w4 ⟨A4, c4, rfl, hc4, hC4, hb4⟩
    have HC4 := hid hC4
    have nB := hid (HB.out.trans (hb4.mono HB.out.size))
    have nR := hid (Kd.R_below HR0.out hb4)
    clear HR0
    have HR0 := nR
    clear nR
    clear HB hC4 hb4
    have HB := nB
    clear nB
    refine ⟨_, rfl, ?_⟩
    refine hK.out _ _ (HS.out _ HB.out) (fun hHeld => ?_)
    clear hK K
    refine norm_ ?_ (hcont (W2.heap.size, A4, c4) w4 ⟨HB.out, HR0.out, HC4.out, hc4⟩)
    simp only [putAll, Act.put, List.setIfInBounds_toArray, List.set_cons_zero, List.set_cons_succ]
  · skip
    refine goes_ Try.func35 (by kernel_rfl) rfl #[.int .i64 n, .int .i64 4] (by rfl) rfl rfl (by first | rfl | (simp only [List.map_toArray, List.map_cons, List.map_nil]; rfl)) ?_
    refine (sput_c n 4 (by omega) (by omega) _).mono ?_
    rintro e w4 ⟨A4, c4, rfl, hc4, hC4, hb4⟩
    have HC4 := hid hC4
    have nB := hid (HB.out.trans (hb4.mono HB.out.size))
    clear HB hC4 hb4
    have HB := nB
    clear nB
    refine ⟨_, rfl, ?_⟩
    refine hK.out _ _ (HS.out _ HB.out) (fun hHeld => ?_)
    clear hK K
    refine one_ (i := 0) (N := (some 28)) #[true, true, true, true, false, true, false, false, true, false, false, true, false, false] rfl rfl (by kernel_rfl) (by decide) (fun K hK => ?_)
    go_simp
    have HR0 := hid (Kd.R_lower (R_empty w4) HB.out.size)
    have nB := hid ((HB.out).alloc HB.out.size (.cells #[] 5))
    have nC := hid (Kd.C_alloc HC4.out (.cells #[] 5))
    clear HC4
    have HC4 := nC
    clear nC
    clear HB
    have HB := nB
    clear nB
    refine hK.out _ _ (HS.out _ HB.out) (fun hHeld => ?_)
    clear hK K
    refine norm_ ?_ (hcont (w4.heap.size, A4, c4) (w4.alloc (.cells #[] 5)) ⟨HB.out, HR0.out, HC4.out, hc4⟩)
    simp only [putAll, Act.put, List.setIfInBounds_toArray, List.set_cons_zero, List.set_cons_succ]
theorem takes_c (s : ByteArray) (n b : Int) (A : Option Addr) (c : Nat) (m : List Int) (w : World) (hC : CB w A m) (hc : m.length ≤ c) (hby : Bytes m) (hs : s.size ≤ 9223372036854775807) (n0 : 0 ≤ n) (n1 : n ≤ 4294967295) (b0 : 0 ≤ b) (b1 : b ≤ 18446744073709551615) :
    Calls Try.prog 7 #[.int .u32 n, .string s, .int .u64 b, .slice A m.length c] w fun e w' => e = .returned (.bool true) ∧ Below w.heap.size w w' := by
  cases hN : namedB s
  · exact takes_no s n b A c m w hs hN
  · by_cases h : 200 < (m.length : Int)
    · exact takes_big s n b A c m w hs hN h
    · obtain ⟨b', rfl⟩ := Int.eq_ofNat_of_zero_le b0
      exact takes_small s n b' A c m w hC hc hby hN (by omega) n0 n1 (by omega)
end Go.Proofs.Ytmcfihpbiilbcaa.H
