/- The law's does of layer 8: what an act answers is right. -/
import Derived.Test.YtmcfihpbiilbcaaActA
namespace Go.Proofs.Ytmcfihpbiilbcaa.H
open Go.RowKit Go.Proofs.YtmcfihpbiilbcaaW.PrintWords Go.Proofs.YtmcfihpbiilbcaaW.PrintLast Go.Proofs.YtmcfihpbiilbcaaW.PrintMore Go.Proofs.Ytmcfihpbiilbcaa.F
set_option linter.unusedVariables false
set_option linter.unusedSimpArgs false
theorem mid_drop (l : List Int) (i j k : Int) (h0 : 0 ≤ i) (hj : 0 ≤ j) (hk : 0 ≤ k) : mid (l.drop i.toNat) j k = mid l (i + j) k := by
  unfold mid
  rw [List.take_drop, List.drop_drop, show i.toNat + (j + k).toNat = (i + j + k).toNat by omega, show i.toNat + j.toNat = (i + j).toNat by omega]
theorem cell_aft {w W : World} {B : Nat} {a : Addr} {u : Value} (h : w.cell? a = some u) (k : Aft B w W) (hne : a.block ≠ B) : W.cell? a = some u := by
  have e := k.block a.block (World.block_lt_of_cell? _ _ h) hne
  unfold World.cell? at h ⊢
  rw [e]
  exact h
theorem add_block (a : Addr) (n : Nat) : (a.add n).block = a.block := by
  unfold Addr.add
  split <;> rfl
set_option maxRecDepth 100000 in
theorem cut_block {ad a : Addr} {bl c n6 c6 : Nat} {lo hi : Int} {A6 : Option Addr} (hcut : ∀ W : World, (Instr.slice 22 (.slice (some ad) bl c) (some (.int .i64 lo)) (some (.int .i64 hi)) none).run Try.prog W = .ok (.slice A6 n6 c6) W) (h0 : 0 ≤ lo) (h1 : lo ≤ hi) (h2 : hi ≤ bl) (hc : bl ≤ c) (W0 : World) (ha : A6 = some a) : a.block = ad.block := by
  obtain ⟨i5, hi5, _, hs5, _⟩ := info_parts info5
  have h := cut_mid 22 5 .i64 .i64 Try.underlying22 hi5 1 hs5 (some ad) bl c lo hi h0 h1 h2 hc W0
  rw [hcut W0] at h
  injection h with h
  injection h with h _ _
  subst ha
  split at h
  · injection h with h; rw [h]
  · simp only [Option.map_some, Option.some.injEq] at h
    rw [h, add_block]
set_option maxRecDepth 100000 in
theorem cut_block2 {ad a : Addr} {bl c n6 c6 : Nat} {lo : Int} {A6 : Option Addr} (hcut : ∀ W : World, (Instr.slice 22 (.slice (some ad) bl c) (some (.int .i64 lo)) none none).run Try.prog W = .ok (.slice A6 n6 c6) W) (h0 : 0 ≤ lo) (h2 : lo ≤ bl) (W0 : World) (ha : A6 = some a) : a.block = ad.block := by
  obtain ⟨i5, hi5, _, hs5, _⟩ := info_parts info5
  have h := cut_from 22 5 .i64 Try.underlying22 hi5 1 hs5 (some ad) bl c lo h0 h2 W0
  rw [hcut W0] at h
  injection h with h
  injection h with h _ _
  subst ha
  split at h
  · injection h with h; rw [h]
  · simp only [Option.map_some, Option.some.injEq] at h
    rw [h, add_block]
theorem CB_aft {w W : World} {B : Nat} {A : Option Addr} {l : List Int} (h : CB w A l) (k : Aft B w W) (hne : 0 < l.length → ∀ a, A = some a → a.block ≠ B) : CB W A l :=
  ⟨rfl, h.2.1, fun h0 => by
    have hne := hne h0
    obtain ⟨ad, rfl, h4⟩ := h.2.2 h0
    exact ⟨ad, rfl, fun j p hj => by
      obtain ⟨cs, e, hK, hc⟩ := h4 j p hj
      exact ⟨cs, e, hK, fun i u hu => cell_aft (hc i u hu) k (by rw [add_block]; exact hne ad rfl)⟩⟩⟩
set_option maxRecDepth 100000 in
set_option maxHeartbeats 2000000 in
theorem does0 (B : Nat) (l bb : List Int) (i : Int) (A : Option Addr) (c : Nat) (n : Int) (w : World) (h : Sc w B l i) (h0 : 0 ≤ i) (h1 : i ≤ l.length) (hl : l.length ≤ 1000) (hby : Bytes l) (hbb : bb = l.drop i.toNat) (hC : CB w A bb) (hc : bb.length ≤ c) (hne : 0 < bb.length → ∀ a, A = some a → a.block ≠ B) (n0 : 0 ≤ n) (n1 : n ≤ 65535) (hs : ¬ (bb.length : Int) < 1 + n % 4) :
    Calls Try.prog 40 #[.pointer (some ⟨B, 0, none⟩), .slice A bb.length c, .agg #[.int .i64 0, .int .i64 n]] w fun e w' => e = .returned (.bool true) ∧ Sc w' B l (i + (1 + n % 4)) ∧ Aft B w w' := by
  have hbl : (bb.length : Int) ≤ l.length - i := by rw [hbb, List.length_drop]; omega
  have hbl2 : (l.length : Int) - i ≤ bb.length := by rw [hbb, List.length_drop]; omega
  have hmid : ∀ j k : Int, 0 ≤ j → 0 ≤ k → mid bb j k = mid l (i + j) k := fun j k hj hk => by rw [hbb]; exact mid_drop l i j k h0 hj hk
  have hyb : Bytes bb := by rw [hbb]; exact fun x hx => hby x (List.mem_of_mem_drop hx)
  clear hbb
  obtain ⟨z, hz⟩ : ∃ z, z = 1 + n % 4 := ⟨_, rfl⟩
  have e2 : IntKind.i64.wrap (1 + n % 4) = z := by rw [← hz]; exact IntWalk.i64_in _ (by omega)
  have z0 : 1 ≤ z := by omega
  have z1 : z ≤ 4 := by omega
  rw [← hz] at hs ⊢
  have e3 : wrap64 z = z := wrap64_id (by omega) (by omega)
  have e6 : bb.take z.toNat = mid l i z := by
    have := hmid 0 z (by omega) (by omega)
    rw [show i + 0 = i by omega] at this
    rw [← this]
    unfold mid
    simp
  have hbm := hby.mid i z
  have hr := wordOf_range hbm
  obtain ⟨X, hX⟩ : ∃ X, wordOf (mid l i z) = X := ⟨_, rfl⟩
  rw [hX] at hr
  have e4 : wrap64 X = X := wrap64_id (by omega) (by omega)
  have e5 : IntKind.i64.wrap X = X := IntWalk.i64_in _ (by omega)
  have HX := hid (And.intro hX hbm)
  have b0 := blk_new w (.cells #[.int .i64 0, .int .i64 n] 44)
  have hB := below_alloc (Below.refl w.heap.size w) (.cells #[.int .i64 0, .int .i64 n] 44)
  obtain ⟨W1, hW1⟩ : ∃ W, W = w.alloc (.cells #[.int .i64 0, .int .i64 n] 44) := ⟨_, rfl⟩
  rw [← hW1] at b0 hB
  have hgB : w.heap.size ≠ B := by have := h.lt; omega
  have k1 : ∀ W, Aft B W1 W → W.cell? ⟨w.heap.size, 1, none⟩ = some (.int .i64 n) := fun W k => cell_aft (blk_cell b0 1) k hgB
  have HK := hid k1
  have hA0 : Aft B w W1 := ⟨hB.os, hB.tape, hB.output, hB.size, fun k hk _ => hB.block k hk⟩
  have HA0 := hid hA0
  have HC := hid (Kd.C_below hC hB)
  have HW := hid hW1
  have H0 := hid (And.intro ((h.below hB).keep (w' := W1.drew) (fun _ _ => rfl)) (show Aft B W1 W1.drew from ⟨rfl, rfl, rfl, Nat.le_refl _, fun _ _ _ => rfl⟩))
  have hB0 := h.lt
  clear hC hB hW1 hA0 k1 h
  obtain ⟨hcut, hC6, hc6⟩ := cutTo HC.out hc z (by omega) (by omega)
  rw [e6] at hcut hC6 hc6
  have HC6 := hid (And.intro hC6 hc6)
  generalize hq : (mid l i z).length = q at hcut
  have HQ := hid hq
  clear hC6 hc6 e6 hX hbm hq hz hmid
  go_enter Try.func40, Try.ntmps40
  go_wp2
  rw [← HW.out]
  refine start_ (n := 10) (S := fun W => Aft B W1 W) (ds := []) #[false, false, false, false, false, false, false, false, false, false] (by kernel_rfl) rfl rfl ⟨rfl, rfl, rfl, Nat.le_refl _, fun _ _ _ => rfl⟩ (fun hHeld => ?_)
  refine pure_ (i := 0) (N := (some 16)) (v := ?_) (a' := ?_) #[true, false, false, false, false, false, false, false, false, false] rfl rfl (by kernel_rfl) (fun _ _ _ h => h) (Or.inl ⟨by rfl, ?_⟩) ?_ ?_
  rotate_left
  · intro w'
    go_simp
    with_reducible rfl
  rotate_left
  · simp only [Act.put, List.setIfInBounds_toArray, List.set_cons_zero, List.set_cons_succ, i64_w]
    rfl
  refine pure_ (i := 1) (N := (some 17)) (v := ?_) (a' := ?_) #[true, true, false, false, false, false, false, false, false, false] rfl rfl (by kernel_rfl) (fun _ _ _ h => h) (Or.inl ⟨by rfl, ?_⟩) ?_ ?_
  rotate_left
  · intro w'
    go_simp
    with_reducible rfl
  rotate_left
  · simp only [Act.put, List.setIfInBounds_toArray, List.set_cons_zero, List.set_cons_succ, i64_w]
    rfl
  refine pure_ (i := 3) (N := (some 19)) (v := ?_) (a' := ?_) #[true, true, false, true, false, false, false, false, false, false] rfl rfl (by kernel_rfl) (fun _ _ _ h => h) (Or.inl ⟨by rfl, ?_⟩) ?_ ?_
  rotate_left
  · intro w'
    go_simp
    with_reducible rfl
  rotate_left
  · simp only [Act.put, List.setIfInBounds_toArray, List.set_cons_zero, List.set_cons_succ, i64_w]
    rfl
  refine pure_ (i := 4) (N := (some 20)) (v := ?_) (a' := ?_) #[true, true, false, true, true, false, false, false, false, false] rfl rfl (by kernel_rfl) (fun _ _ _ h => h) (Or.inl ⟨by rfl, ?_⟩) ?_ ?_
  rotate_left
  · intro w'
    go_simp
    with_reducible rfl
  rotate_left
  · simp only [Act.put, List.setIfInBounds_toArray, List.set_cons_zero, List.set_cons_succ, i64_w]
    rfl
  refine pure_ (i := 5) (N := (some 21)) (v := ?_) (a' := ?_) #[true, true, false, true, true, true, false, false, false, false] rfl rfl (by kernel_rfl) (fun _ _ _ h => h) (Or.inl ⟨by rfl, ?_⟩) ?_ ?_
  rotate_left
  · intro w'
    go_simp
    with_reducible rfl
  rotate_left
  · simp only [Act.put, List.setIfInBounds_toArray, List.set_cons_zero, List.set_cons_succ, i64_w]
    rfl
  refine one_ (i := 2) (N := (some 18)) #[true, true, true, true, true, true, false, false, false, false] rfl rfl (by kernel_rfl) (by decide) (fun K hK => ?_)
  refine goes_ Try.func41 (by kernel_rfl) rfl #[.pointer (some ⟨B, 0, none⟩), .int .i64 z] (by rfl) rfl rfl (by first | rfl | (simp only [List.map_toArray, List.map_cons, List.map_nil]; rfl)) ?_
  refine (number_c B l i z _ H0.out.1 h0 (by omega) (by omega) (by omega) hby).mono ?_
  rintro e' wA ⟨rfl, hw⟩
  have H2 := hid (And.intro (H0.out.1.after hw) (H0.out.2.then_ (Aft.of_below hw)))
  clear hw H0
  rw [HX.out.1]
  refine ⟨_, rfl, ?_⟩
  refine hK.out _ _ H2.out.2 (fun hHeld => ?_)
  clear hK K
  refine norm_ (a' := ?_) ?_ ?_
  rotate_left
  · show Act.put _ (some 18) _ = _
    simp only [Act.put, List.setIfInBounds_toArray, List.set_cons_zero, List.set_cons_succ, i64_w]
    rfl
  refine one_ (i := 6) (N := (some 22)) #[true, true, true, true, true, true, true, false, false, false] rfl rfl (by kernel_rfl) (by decide) (fun K hK => ?_)
  refine goes_ Try.func86 (by kernel_rfl) rfl #[.slice A q c] (by rfl) rfl rfl (by first | rfl | (simp only [List.map_toArray, List.map_cons, List.map_nil]; rfl)) ?_
  rw [← HQ.out]
  refine (spliceref01_Get.calls 5 A c (mid l i z) X _ (CB_aft HC6.out.1 H2.out.2 (fun _ => hne (by omega))) HC6.out.2 (by rw [refGet_eq _ HX.out.2, HX.out.1])).mono ?_
  rintro e' wB ⟨rfl, ⟨nd, rfl⟩⟩
  have H6 := hid (And.intro (H2.out.1.keep (fun _ _ => rfl)) (H2.out.2.then_ (Aft.drawn ⟨⟨nd, rfl⟩⟩)))
  clear H2
  refine ⟨_, rfl, ?_⟩
  refine hK.out _ _ H6.out.2 (fun hHeld => ?_)
  clear hK K
  refine norm_ (a' := ?_) ?_ ?_
  rotate_left
  · show Act.put _ (some 22) _ = _
    simp only [Act.put, List.setIfInBounds_toArray, List.set_cons_zero, List.set_cons_succ, i64_w]
    rfl
  refine pure_ (i := 7) (N := (some 23)) (v := ?_) (a' := ?_) #[true, true, true, true, true, true, true, true, false, false] rfl rfl (by kernel_rfl) (fun _ _ _ h => h) (Or.inl ⟨by rfl, ?_⟩) ?_ ?_
  rotate_left
  · intro w'
    go_simp
    with_reducible rfl
  rotate_left
  · simp only [Act.put, List.setIfInBounds_toArray, List.set_cons_zero, List.set_cons_succ, i64_w]
    rfl
  refine pure_ (i := 8) (N := (some 24)) (v := ?_) (a' := ?_) #[true, true, true, true, true, true, true, true, true, false] rfl rfl (by kernel_rfl) (fun _ _ _ h => h) (Or.inl ⟨by rfl, ?_⟩) ?_ ?_
  rotate_left
  · intro w'
    go_simp
    with_reducible rfl
  rotate_left
  · simp only [Act.put, List.setIfInBounds_toArray, List.set_cons_zero, List.set_cons_succ, i64_w]
    rfl
  refine pure_ (i := 9) (N := (some 6)) (v := ?_) (a' := ?_) #[true, true, true, true, true, true, true, true, true, true] rfl rfl (by kernel_rfl) (fun _ _ _ h => h) (Or.inl ⟨by rfl, ?_⟩) ?_ ?_
  rotate_left
  · intro w'
    go_simp
    with_reducible rfl
  rotate_left
  · simp only [Act.put, List.setIfInBounds_toArray, List.set_cons_zero, List.set_cons_succ, i64_w]
    rfl
  refine done_ (by kernel_rfl) ?_
  go_wp2
  go_ret
  exact ⟨rfl, H6.out.1, HA0.out.then_ H6.out.2⟩
set_option maxRecDepth 100000 in
set_option maxHeartbeats 2000000 in
theorem does1 (B : Nat) (l bb : List Int) (i : Int) (A : Option Addr) (c : Nat) (n : Int) (w : World) (h : Sc w B l i) (h0 : 0 ≤ i) (h1 : i ≤ l.length) (hl : l.length ≤ 1000) (hby : Bytes l) (hbb : bb = l.drop i.toNat) (hC : CB w A bb) (hc : bb.length ≤ c) (hne : 0 < bb.length → ∀ a, A = some a → a.block ≠ B) (n0 : 0 ≤ n) (n1 : n ≤ 65535) (hs : ¬ (bb.length : Int) < n) :
    Calls Try.prog 40 #[.pointer (some ⟨B, 0, none⟩), .slice A bb.length c, .agg #[.int .i64 1, .int .i64 n]] w fun e w' => e = .returned (.bool true) ∧ Sc w' B l (i + n) ∧ Aft B w w' := by
  have hbl : (bb.length : Int) ≤ l.length - i := by rw [hbb, List.length_drop]; omega
  have hbl2 : (l.length : Int) - i ≤ bb.length := by rw [hbb, List.length_drop]; omega
  have hmid : ∀ j k : Int, 0 ≤ j → 0 ≤ k → mid bb j k = mid l (i + j) k := fun j k hj hk => by rw [hbb]; exact mid_drop l i j k h0 hj hk
  have hyb : Bytes bb := by rw [hbb]; exact fun x hx => hby x (List.mem_of_mem_drop hx)
  clear hbb
  have b0 := blk_new w (.cells #[.int .i64 1, .int .i64 n] 44)
  have hB := below_alloc (Below.refl w.heap.size w) (.cells #[.int .i64 1, .int .i64 n] 44)
  obtain ⟨W1, hW1⟩ : ∃ W, W = w.alloc (.cells #[.int .i64 1, .int .i64 n] 44) := ⟨_, rfl⟩
  rw [← hW1] at b0 hB
  have hgB : w.heap.size ≠ B := by have := h.lt; omega
  have k1 : ∀ W, Aft B W1 W → W.cell? ⟨w.heap.size, 1, none⟩ = some (.int .i64 n) := fun W k => cell_aft (blk_cell b0 1) k hgB
  have HK := hid k1
  have hA0 : Aft B w W1 := ⟨hB.os, hB.tape, hB.output, hB.size, fun k hk _ => hB.block k hk⟩
  have HA0 := hid hA0
  have HC := hid (Kd.C_below hC hB)
  have HW := hid hW1
  have H0 := hid (And.intro ((h.below hB).keep (w' := W1.drew) (fun _ _ => rfl)) (show Aft B W1 W1.drew from ⟨rfl, rfl, rfl, Nat.le_refl _, fun _ _ _ => rfl⟩))
  have hB0 := h.lt
  clear hC hB hW1 hA0 k1 h
  obtain ⟨hcut, hC6, hc6⟩ := cutTo HC.out hc n (by omega) (by omega)
  have e6 : bb.take n.toNat = mid l i n := by
    have := hmid 0 n (by omega) (by omega)
    rw [show i + 0 = i by omega] at this
    rw [← this]
    unfold mid
    simp
  rw [e6] at hcut hC6 hc6
  obtain ⟨L6, hL6⟩ : ∃ L, mid l i n = L := ⟨_, rfl⟩
  have hlen : (mid l i n).length ≤ 1000 := by unfold mid; rw [List.length_drop, List.length_take]; omega
  rw [hL6] at hcut hC6 hc6 hlen
  have hml := mid_length (l := l) h0 n0 (show i + n ≤ l.length by omega)
  rw [hL6] at hml
  have hp6 : 0 < L6.length → 0 < bb.length := fun _ => by omega
  clear hml
  have HC6 := hid (And.intro hC6 (And.intro hc6 hL6))
  clear hC6 hc6 e6 hL6 hmid
  go_enter Try.func40, Try.ntmps40
  go_wp2
  rw [← HW.out]
  refine start_ (n := 10) (S := fun W => Aft B W1 W) (ds := []) #[false, false, false, false, false, false, false, false, false, false] (by kernel_rfl) rfl rfl ⟨rfl, rfl, rfl, Nat.le_refl _, fun _ _ _ => rfl⟩ (fun hHeld => ?_)
  refine pure_ (i := 0) (N := (some 27)) (v := ?_) (a' := ?_) #[true, false, false, false, false, false, false, false, false, false] rfl rfl (by kernel_rfl) (fun _ _ _ h => h) (Or.inl ⟨by rfl, ?_⟩) ?_ ?_
  rotate_left
  · intro w'
    go_simp
    with_reducible rfl
  rotate_left
  · simp only [Act.put, List.setIfInBounds_toArray, List.set_cons_zero, List.set_cons_succ, i64_w]
    rfl
  refine pure_ (i := 1) (N := (some 28)) (v := ?_) (a' := ?_) #[true, true, false, false, false, false, false, false, false, false] rfl rfl (by kernel_rfl) (fun _ _ _ h => h) (Or.inl ⟨by rfl, ?_⟩) ?_ ?_
  rotate_left
  · intro w'
    go_simp
    with_reducible rfl
  rotate_left
  · simp only [Act.put, List.setIfInBounds_toArray, List.set_cons_zero, List.set_cons_succ, i64_w]
    rfl
  refine take_ (i := 2) (N := (some 29)) (v := ?_) (a' := ?_) #[true, true, true, false, false, false, false, false, false, false] rfl rfl (by kernel_rfl) (fun _ _ _ h => h) (Or.inl ⟨by rfl, ?_⟩) hHeld ?_ ?_
  rotate_left
  · rintro w' s0; have c1 := HK.out w' s0
    go_simp
    with_reducible rfl
  rotate_left
  · simp only [Act.put, List.setIfInBounds_toArray, List.set_cons_zero, List.set_cons_succ, i64_w]
    rfl
  refine pure_ (i := 4) (N := (some 31)) (v := ?_) (a' := ?_) #[true, true, true, false, true, false, false, false, false, false] rfl rfl (by kernel_rfl) (fun _ _ _ h => h) (Or.inl ⟨by rfl, ?_⟩) ?_ ?_
  rotate_left
  · intro w'
    go_simp
    with_reducible rfl
  rotate_left
  · simp only [Act.put, List.setIfInBounds_toArray, List.set_cons_zero, List.set_cons_succ, i64_w]
    rfl
  refine pure_ (i := 5) (N := (some 32)) (v := ?_) (a' := ?_) #[true, true, true, false, true, true, false, false, false, false] rfl rfl (by kernel_rfl) (fun _ _ _ h => h) (Or.inl ⟨by rfl, ?_⟩) ?_ ?_
  rotate_left
  · intro w'
    go_simp
    with_reducible rfl
  rotate_left
  · simp only [Act.put, List.setIfInBounds_toArray, List.set_cons_zero, List.set_cons_succ, i64_w]
    rfl
  refine take_ (i := 6) (N := (some 33)) (v := ?_) (a' := ?_) #[true, true, true, false, true, true, true, false, false, false] rfl rfl (by kernel_rfl) (fun _ _ _ h => h) (Or.inl ⟨by rfl, ?_⟩) hHeld ?_ ?_
  rotate_left
  · rintro w' s0; have c1 := HK.out w' s0
    go_simp
    with_reducible rfl
  rotate_left
  · simp only [Act.put, List.setIfInBounds_toArray, List.set_cons_zero, List.set_cons_succ, i64_w]
    rfl
  refine pure_ (i := 7) (N := (some 34)) (v := ?_) (a' := ?_) #[true, true, true, false, true, true, true, true, false, false] rfl rfl (by kernel_rfl) (fun _ _ _ h => h) (Or.inl ⟨by rfl, ?_⟩) ?_ ?_
  rotate_left
  · intro w'
    go_simp
    with_reducible rfl
  rotate_left
  · simp only [Act.put, List.setIfInBounds_toArray, List.set_cons_zero, List.set_cons_succ, i64_w]
    rfl
  refine one_ (i := 3) (N := (some 30)) #[true, true, true, true, true, true, true, true, false, false] rfl rfl (by kernel_rfl) (by decide) (fun K hK => ?_)
  refine goes_ Try.func29 (by kernel_rfl) rfl #[.pointer (some ⟨B, 0, none⟩), .int .i64 n] (by rfl) rfl rfl (by first | rfl | (simp only [List.map_toArray, List.map_cons, List.map_nil]; rfl)) ?_
  refine (bytes_c B l i n _ H0.out.1 h0 (by omega) (by omega) (by omega)).mono ?_
  rintro e' wA ⟨v, rfl, hR, hw⟩
  rw [HC6.out.2.2] at hR
  obtain ⟨A3, d3, rfl, hd3, hC3⟩ := Kd.R_reads hR
  have H3 := hid (And.intro (And.intro (H0.out.1.after hw) (H0.out.2.then_ (Aft.of_below hw))) hC3)
  clear hw H0 hR hC3
  refine ⟨_, rfl, ?_⟩
  refine hK.out _ _ H3.out.1.2 (fun hHeld => ?_)
  clear hK K
  refine norm_ (a' := ?_) ?_ ?_
  rotate_left
  · show Act.put _ (some 30) _ = _
    simp only [Act.put, List.setIfInBounds_toArray, List.set_cons_zero, List.set_cons_succ, i64_w]
    rfl
  refine one_ (i := 8) (N := (some 35)) #[true, true, true, true, true, true, true, true, true, false] rfl rfl (by kernel_rfl) (by decide) (fun K hK => ?_)
  refine goes_ Try.func32 (by kernel_rfl) rfl #[.slice A3 L6.length d3, .slice A L6.length c] (by rfl) rfl rfl (by first | rfl | (simp only [List.map_toArray, List.map_cons, List.map_nil]; rfl)) ?_
  refine (spliceref01_Same.calls (L6.length + 1) A3 d3 L6 A c L6 true _ H3.out.2 hd3 (CB_aft HC6.out.1 H3.out.1.2 (fun hp => hne (hp6 hp))) HC6.out.2.1 (by rw [refSame_eq _ _ (by omega)]; simp)).mono ?_
  rintro e' wB ⟨rfl, ⟨nd, rfl⟩⟩
  have H8 := hid (And.intro (H3.out.1.1.keep (w' := wA.drewN nd) (fun _ _ => rfl)) (H3.out.1.2.then_ (Aft.drawn ⟨⟨nd, rfl⟩⟩)))
  clear H3
  refine ⟨_, rfl, ?_⟩
  refine hK.out _ _ H8.out.2 (fun hHeld => ?_)
  clear hK K
  refine norm_ (a' := ?_) ?_ ?_
  rotate_left
  · show Act.put _ (some 35) _ = _
    simp only [Act.put, List.setIfInBounds_toArray, List.set_cons_zero, List.set_cons_succ, i64_w]
    rfl
  refine pure_ (i := 9) (N := (some 6)) (v := ?_) (a' := ?_) #[true, true, true, true, true, true, true, true, true, true] rfl rfl (by kernel_rfl) (fun _ _ _ h => h) (Or.inl ⟨by rfl, ?_⟩) ?_ ?_
  rotate_left
  · intro w'
    go_simp
    with_reducible rfl
  rotate_left
  · simp only [Act.put, List.setIfInBounds_toArray, List.set_cons_zero, List.set_cons_succ, i64_w]
    rfl
  refine done_ (by kernel_rfl) ?_
  go_wp2
  go_ret
  exact ⟨rfl, H8.out.1, HA0.out.then_ H8.out.2⟩
set_option maxRecDepth 100000 in
set_option maxHeartbeats 2000000 in
theorem does2 (B : Nat) (l bb : List Int) (i : Int) (A : Option Addr) (c : Nat) (n : Int) (w : World) (h : Sc w B l i) (h0 : 0 ≤ i) (h1 : i ≤ l.length) (hl : l.length ≤ 1000) (hby : Bytes l) (hbb : bb = l.drop i.toNat) (hC : CB w A bb) (hc : bb.length ≤ c) (hne : 0 < bb.length → ∀ a, A = some a → a.block ≠ B) (n0 : 0 ≤ n) (n1 : n ≤ 65535) (z : Int) (hz : nameLen bb 0 = z) (hp : 1 ≤ (bb.length : Int)) (hs : ¬ (bb.length : Int) < 1 + z) (hN : namedB (nameOf bb 0) = true) :
    Calls Try.prog 40 #[.pointer (some ⟨B, 0, none⟩), .slice A bb.length c, .agg #[.int .i64 2, .int .i64 n]] w fun e w' => e = .returned (.bool true) ∧ Sc w' B l (i + (1 + z)) ∧ Aft B w w' := by
  have hbl : (bb.length : Int) ≤ l.length - i := by rw [hbb, List.length_drop]; omega
  have hbl2 : (l.length : Int) - i ≤ bb.length := by rw [hbb, List.length_drop]; omega
  have hmid : ∀ j k : Int, 0 ≤ j → 0 ≤ k → mid bb j k = mid l (i + j) k := fun j k hj hk => by rw [hbb]; exact mid_drop l i j k h0 hj hk
  have hyb : Bytes bb := by rw [hbb]; exact fun x hx => hby x (List.mem_of_mem_drop hx)
  clear hbb
  obtain ⟨ad, rfl, hx, hx0, hx1⟩ := first_byte hC hyb hp hz
  have e2 : IntKind.i64.wrap (1 + z) = 1 + z := IntWalk.i64_in _ (by omega)
  have e3 : wrap64 z = z := wrap64_id (by omega) (by omega)
  have e4 : wrap64 (1 + z) = 1 + z := wrap64_id (by omega) (by omega)
  have hadB := hne (by omega) ad rfl
  have g1 : nameLen l i = z := by
    unfold nameLen at hz ⊢
    rw [hmid 0 1 (by omega) (by omega), show i + 0 = i by omega] at hz
    exact hz
  have g2 : nameOf l i = nameOf bb 0 := by
    unfold nameOf
    rw [hz, g1, hmid (0 + 1) z (by omega) (by omega), show i + (0 + 1) = i + 1 by omega]
  have b0 := blk_new w (.cells #[.int .i64 2, .int .i64 n] 44)
  have hB := below_alloc (Below.refl w.heap.size w) (.cells #[.int .i64 2, .int .i64 n] 44)
  obtain ⟨W1, hW1⟩ : ∃ W, W = w.alloc (.cells #[.int .i64 2, .int .i64 n] 44) := ⟨_, rfl⟩
  rw [← hW1] at b0 hB
  have hgB : w.heap.size ≠ B := by have := h.lt; omega
  have k1 : ∀ W, Aft B W1 W → W.cell? ⟨w.heap.size, 1, none⟩ = some (.int .i64 n) := fun W k => cell_aft (blk_cell b0 1) k hgB
  have HK := hid k1
  have hA0 : Aft B w W1 := ⟨hB.os, hB.tape, hB.output, hB.size, fun k hk _ => hB.block k hk⟩
  have HA0 := hid hA0
  have HC := hid (Kd.C_below hC hB)
  have HW := hid hW1
  have H0 := hid (And.intro ((h.below hB).keep (w' := W1.drew) (fun _ _ => rfl)) (show Aft B W1 W1.drew from ⟨rfl, rfl, rfl, Nat.le_refl _, fun _ _ _ => rfl⟩))
  have hB0 := h.lt
  clear hC hB hW1 hA0 k1 h
  have hx' : W1.cell? ad = some (.int .u8 z) := by rw [HW.out]; exact ((below_alloc (Below.refl _ _) _).cell (World.block_lt_of_cell? _ _ hx)).trans hx
  obtain ⟨A6, c6, hcut, hC6, hc6⟩ := cutMid HC.out hc 1 (1 + z) (by omega) (by omega) (by omega)
  have hA6 : ∀ a, A6 = some a → a.block ≠ B := by
    intro a ha
    rw [cut_block hcut (by omega) (by omega) (by omega) hc W1 ha]
    exact hadB
  have hfact : ∀ W, Aft B W1 W → W.cell? ad = some (.int .u8 z) ∧ (convert 22 9 (.slice A6 ((bb.take (1 + z).toNat).drop (1 : Int).toNat).length c6)).run Try.prog W = .ok (.string (nameOf bb 0)) W := by
    intro W k
    refine ⟨cell_aft hx' k hadB, ?_⟩
    have h := Kd.C_string (c := c6) Try.underlying22 Try.underlying5 Try.underlying9 (CB_aft hC6 k (fun _ => hA6))
    have e : strOfNums ((bb.take (1 + z).toNat).drop (1 : Int).toNat) = nameOf bb 0 := by
      unfold nameOf mid
      rw [hz, show (0 : Int) + 1 + z = 1 + z by omega, show (0 : Int) + 1 = 1 by omega]
    rw [← e]
    exact h
  obtain ⟨NM, hNM⟩ : ∃ s, nameOf bb 0 = s := ⟨_, rfl⟩
  rw [hNM] at hfact g2 hN
  have hse : (NM.toList == NM.toList) = true := by simp
  generalize hq : ((bb.take (1 + z).toNat).drop (1 : Int).toNat).length = q at *
  have HF := hid hfact
  have HG := hid (And.intro g1 (And.intro g2 hN))
  have p0 : 0 < bb.length := by omega
  clear hfact hC6 hc6 hA6 hNM hq g1 g2 hN hx hx' hmid hz
  go_enter Try.func40, Try.ntmps40
  go_wp2
  rw [← HW.out]
  refine start_ (n := 12) (S := fun W => Aft B W1 W) (ds := []) #[false, false, false, false, false, false, false, false, false, false, false, false] (by kernel_rfl) rfl rfl ⟨rfl, rfl, rfl, Nat.le_refl _, fun _ _ _ => rfl⟩ (fun hHeld => ?_)
  refine pure_ (i := 0) (N := (some 38)) (v := ?_) (a' := ?_) #[true, false, false, false, false, false, false, false, false, false, false, false] rfl rfl (by kernel_rfl) (fun _ _ _ h => h) (Or.inl ⟨by rfl, ?_⟩) ?_ ?_
  rotate_left
  · intro w'
    go_simp
    with_reducible rfl
  rotate_left
  · simp only [Act.put, List.setIfInBounds_toArray, List.set_cons_zero, List.set_cons_succ, i64_w]
    rfl
  refine pure_ (i := 2) (N := (some 40)) (v := ?_) (a' := ?_) #[true, false, true, false, false, false, false, false, false, false, false, false] rfl rfl (by kernel_rfl) (fun _ _ _ h => h) (Or.inl ⟨by rfl, ?_⟩) ?_ ?_
  rotate_left
  · intro w'
    go_simp
    with_reducible rfl
  rotate_left
  · simp only [Act.put, List.setIfInBounds_toArray, List.set_cons_zero, List.set_cons_succ, i64_w]
    rfl
  refine pure_ (i := 3) (N := (some 41)) (v := ?_) (a' := ?_) #[true, false, true, true, false, false, false, false, false, false, false, false] rfl rfl (by kernel_rfl) (fun _ _ _ h => h) (Or.inl ⟨by rfl, ?_⟩) ?_ ?_
  rotate_left
  · intro w'
    go_simp
    with_reducible rfl
  rotate_left
  · simp only [Act.put, List.setIfInBounds_toArray, List.set_cons_zero, List.set_cons_succ, i64_w]
    rfl
  refine pure_ (i := 4) (N := (some 42)) (v := ?_) (a' := ?_) #[true, false, true, true, true, false, false, false, false, false, false, false] rfl rfl (by kernel_rfl) (fun _ _ _ h => h) (Or.inl ⟨by rfl, ?_⟩) ?_ ?_
  rotate_left
  · intro w'
    go_simp
    with_reducible rfl
  rotate_left
  · simp only [Act.put, List.setIfInBounds_toArray, List.set_cons_zero, List.set_cons_succ, i64_w]
    rfl
  refine take_ (i := 5) (N := (some 43)) (v := ?_) (a' := ?_) #[true, false, true, true, true, true, false, false, false, false, false, false] rfl rfl (by kernel_rfl) (fun _ _ _ h => h) (Or.inl ⟨by rfl, ?_⟩) hHeld ?_ ?_
  rotate_left
  · rintro w' s0; obtain ⟨c0, c1⟩ := HF.out w' s0
    go_simp
    with_reducible rfl
  rotate_left
  · simp only [Act.put, List.setIfInBounds_toArray, List.set_cons_zero, List.set_cons_succ, i64_w]
    rfl
  refine pure_ (i := 6) (N := (some 44)) (v := ?_) (a' := ?_) #[true, false, true, true, true, true, true, false, false, false, false, false] rfl rfl (by kernel_rfl) (fun _ _ _ h => h) (Or.inl ⟨by rfl, ?_⟩) ?_ ?_
  rotate_left
  · intro w'
    go_simp
    with_reducible rfl
  rotate_left
  · simp only [Act.put, List.setIfInBounds_toArray, List.set_cons_zero, List.set_cons_succ, i64_w]
    rfl
  refine pure_ (i := 7) (N := (some 45)) (v := ?_) (a' := ?_) #[true, false, true, true, true, true, true, true, false, false, false, false] rfl rfl (by kernel_rfl) (fun _ _ _ h => h) (Or.inl ⟨by rfl, ?_⟩) ?_ ?_
  rotate_left
  · intro w'
    go_simp
    with_reducible rfl
  rotate_left
  · simp only [Act.put, List.setIfInBounds_toArray, List.set_cons_zero, List.set_cons_succ, i64_w]
    rfl
  refine pure_ (i := 8) (N := (some 46)) (v := ?_) (a' := ?_) #[true, false, true, true, true, true, true, true, true, false, false, false] rfl rfl (by kernel_rfl) (fun _ _ _ h => h) (Or.inl ⟨by rfl, ?_⟩) ?_ ?_
  rotate_left
  · intro w'
    go_simp
    with_reducible rfl
  rotate_left
  · simp only [Act.put, List.setIfInBounds_toArray, List.set_cons_zero, List.set_cons_succ, i64_w]
    rfl
  refine take_ (i := 9) (N := (some 47)) (v := ?_) (a' := ?_) #[true, false, true, true, true, true, true, true, true, true, false, false] rfl rfl (by kernel_rfl) (fun _ _ _ h => h) (Or.inl ⟨by rfl, ?_⟩) hHeld ?_ ?_
  rotate_left
  · rintro w' s0; obtain ⟨c0, c1⟩ := HF.out w' s0
    go_simp
    with_reducible rfl
  rotate_left
  · simp only [Act.put, List.setIfInBounds_toArray, List.set_cons_zero, List.set_cons_succ, i64_w]
    rfl
  refine one_ (i := 1) (N := (some 39)) #[true, true, true, true, true, true, true, true, true, true, false, false] rfl rfl (by kernel_rfl) (by decide) (fun K hK => ?_)
  refine goes_ Try.func42 (by kernel_rfl) rfl #[.pointer (some ⟨B, 0, none⟩)] (by rfl) rfl rfl (by first | rfl | (simp only [List.map_toArray, List.map_cons, List.map_nil]; rfl)) ?_
  refine (name_c B l i _ H0.out.1 h0 (by omega) (by rw [HG.out.1]; omega) (by rw [HG.out.1]; omega) (by omega) hby (by rw [HG.out.2.1]; exact HG.out.2.2)).mono ?_
  rintro e' wA ⟨rfl, hw⟩
  have H1 := hid (And.intro (H0.out.1.after hw) (H0.out.2.then_ (Aft.of_below hw)))
  clear hw H0
  rw [HG.out.2.1]
  refine ⟨_, rfl, ?_⟩
  refine hK.out _ _ H1.out.2 (fun hHeld => ?_)
  clear hK K
  refine norm_ (a' := ?_) ?_ ?_
  rotate_left
  · show Act.put _ (some 39) _ = _
    simp only [Act.put, List.setIfInBounds_toArray, List.set_cons_zero, List.set_cons_succ, i64_w]
    rfl
  refine pure_ (i := 10) (N := (some 48)) (v := ?_) (a' := ?_) #[true, true, true, true, true, true, true, true, true, true, true, false] rfl rfl (by kernel_rfl) (fun _ _ _ h => h) (Or.inl ⟨by rfl, ?_⟩) ?_ ?_
  rotate_left
  · intro w'
    go_simp
    with_reducible rfl
  rotate_left
  · simp only [Act.put, List.setIfInBounds_toArray, List.set_cons_zero, List.set_cons_succ, i64_w]
    rfl
  refine pure_ (i := 11) (N := (some 6)) (v := ?_) (a' := ?_) #[true, true, true, true, true, true, true, true, true, true, true, true] rfl rfl (by kernel_rfl) (fun _ _ _ h => h) (Or.inl ⟨by rfl, ?_⟩) ?_ ?_
  rotate_left
  · intro w'
    go_simp
    with_reducible rfl
  rotate_left
  · simp only [Act.put, List.setIfInBounds_toArray, List.set_cons_zero, List.set_cons_succ, i64_w]
    rfl
  refine done_ (by kernel_rfl) ?_
  have hsc := H1.out.1
  rw [HG.out.1, show i + 1 + z = i + (1 + z) by omega] at hsc
  have H2 := hid (And.intro hsc H1.out.2)
  clear hsc
  go_wp2
  go_ret
  exact ⟨rfl, H2.out.1, HA0.out.then_ H2.out.2⟩
set_option maxRecDepth 100000 in
set_option maxHeartbeats 2000000 in
theorem does3 (B : Nat) (l bb : List Int) (i : Int) (A : Option Addr) (c : Nat) (n : Int) (w : World) (h : Sc w B l i) (h0 : 0 ≤ i) (h1 : i ≤ l.length) (hl : l.length ≤ 1000) (hby : Bytes l) (hbb : bb = l.drop i.toNat) (hC : CB w A bb) (hc : bb.length ≤ c) (hne : 0 < bb.length → ∀ a, A = some a → a.block ≠ B) (n0 : 0 ≤ n) (n1 : n ≤ 65535) (hs : ¬ (bb.length : Int) < 8) :
    Calls Try.prog 40 #[.pointer (some ⟨B, 0, none⟩), .slice A bb.length c, .agg #[.int .i64 3, .int .i64 n]] w fun e w' => e = .returned (.bool true) ∧ Sc w' B l (i + 8) ∧ Aft B w w' := by
  have hbl : (bb.length : Int) ≤ l.length - i := by rw [hbb, List.length_drop]; omega
  have hbl2 : (l.length : Int) - i ≤ bb.length := by rw [hbb, List.length_drop]; omega
  have hmid : ∀ j k : Int, 0 ≤ j → 0 ≤ k → mid bb j k = mid l (i + j) k := fun j k hj hk => by rw [hbb]; exact mid_drop l i j k h0 hj hk
  have hyb : Bytes bb := by rw [hbb]; exact fun x hx => hby x (List.mem_of_mem_drop hx)
  clear hbb
  have hr1 := wordOf_range (hby.mid i 4)
  have hr2 := wordOf_range (hby.mid (i + 4) 4)
  obtain ⟨X, hX⟩ : ∃ X, wordOf (mid l i 4) = X := ⟨_, rfl⟩
  obtain ⟨Y, hY⟩ : ∃ Y, wordOf (mid l (i + 4) 4) = Y := ⟨_, rfl⟩
  obtain ⟨f, hf⟩ : ∃ f, (floatOf l i).toNat = f := ⟨_, rfl⟩
  have hfX : (f : Int) = X + Y * 4294967296 := by
    have : floatOf l i = X + 4294967296 * Y := by unfold floatOf; rw [hX, hY]
    rw [hX] at hr1
    rw [hY] at hr2
    omega
  rw [hX] at hr1
  rw [hY] at hr2
  have hbr := bits_run f
  have e1 : IntKind.u64.wrap X = X := by rw [IntKind.wrap_u64]; omega
  have e2 : IntKind.u64.wrap Y = Y := by rw [IntKind.wrap_u64]; omega
  have e3 : IntKind.u64.wrap (Y * 4294967296) = Y * 4294967296 := by rw [IntKind.wrap_u64]; omega
  have e4 : IntKind.u64.wrap (X + Y * 4294967296) = X + Y * 4294967296 := by rw [IntKind.wrap_u64]; omega
  have hq0 : ((f : Int) == X + Y * 4294967296) = true := beq_iff_eq.2 hfX
  have hb1 := hby.mid i 4
  have hb2 := hby.mid (i + 4) 4
  have HX := hid (And.intro hX (And.intro hY (And.intro hf (And.intro hb1 hb2))))
  have b0 := blk_new w (.cells #[.int .i64 3, .int .i64 n] 44)
  have hB := below_alloc (Below.refl w.heap.size w) (.cells #[.int .i64 3, .int .i64 n] 44)
  obtain ⟨W1, hW1⟩ : ∃ W, W = w.alloc (.cells #[.int .i64 3, .int .i64 n] 44) := ⟨_, rfl⟩
  rw [← hW1] at b0 hB
  have hgB : w.heap.size ≠ B := by have := h.lt; omega
  have k1 : ∀ W, Aft B W1 W → W.cell? ⟨w.heap.size, 1, none⟩ = some (.int .i64 n) := fun W k => cell_aft (blk_cell b0 1) k hgB
  have HK := hid k1
  have hA0 : Aft B w W1 := ⟨hB.os, hB.tape, hB.output, hB.size, fun k hk _ => hB.block k hk⟩
  have HA0 := hid hA0
  have HC := hid (Kd.C_below hC hB)
  have HW := hid hW1
  have H0 := hid (And.intro ((h.below hB).keep (w' := W1.drew) (fun _ _ => rfl)) (show Aft B W1 W1.drew from ⟨rfl, rfl, rfl, Nat.le_refl _, fun _ _ _ => rfl⟩))
  have hB0 := h.lt
  clear hC hB hW1 hA0 k1 h
  obtain ⟨hcut, hC6, hc6⟩ := cutTo HC.out hc 4 (by omega) (by omega)
  have e6 : bb.take (4 : Int).toNat = mid l i 4 := by
    have := hmid 0 4 (by omega) (by omega)
    rw [show i + 0 = i by omega] at this
    rw [← this]
    unfold mid
    simp
  rw [e6] at hcut hC6 hc6
  obtain ⟨A7, c7, hcut7, hC7, hc7⟩ := cutMid HC.out hc 4 8 (by omega) (by omega) (by omega)
  have hA7 : ∀ a, A7 = some a → a.block ≠ B := by
    obtain ⟨ad, had, _⟩ := HC.out.2.2 (by omega)
    subst had
    intro a ha
    rw [cut_block hcut7 (by omega) (by omega) (by omega) hc W1 ha]
    exact hne (by omega) ad rfl
  have e7 : (bb.take (8 : Int).toNat).drop (4 : Int).toNat = mid l (i + 4) 4 := by
    rw [← hmid 4 4 (by omega) (by omega)]
    rfl
  rw [e7] at hcut7 hC7 hc7
  have HC6 := hid (And.intro hC6 (And.intro hc6 (And.intro hC7 (And.intro hc7 hA7))))
  generalize hq : (mid l i 4).length = q at hcut
  generalize hq2 : (mid l (i + 4) 4).length = q2 at hcut7
  have HQ := hid (And.intro hq hq2)
  clear hC6 hc6 e6 hC7 hc7 e7 hA7 hX hY hf hb1 hb2 hq hq2 hmid hfX
  go_enter Try.func40, Try.ntmps40
  go_wp2
  rw [← HW.out]
  refine start_ (n := 15) (S := fun W => Aft B W1 W) (ds := []) #[false, false, false, false, false, false, false, false, false, false, false, false, false, false, false] (by kernel_rfl) rfl rfl ⟨rfl, rfl, rfl, Nat.le_refl _, fun _ _ _ => rfl⟩ (fun hHeld => ?_)
  refine pure_ (i := 0) (N := (some 51)) (v := ?_) (a' := ?_) #[true, false, false, false, false, false, false, false, false, false, false, false, false, false, false] rfl rfl (by kernel_rfl) (fun _ _ _ h => h) (Or.inl ⟨by rfl, ?_⟩) ?_ ?_
  rotate_left
  · intro w'
    go_simp
    with_reducible rfl
  rotate_left
  · simp only [Act.put, List.setIfInBounds_toArray, List.set_cons_zero, List.set_cons_succ, i64_w]
    rfl
  refine pure_ (i := 3) (N := (some 54)) (v := ?_) (a' := ?_) #[true, false, false, true, false, false, false, false, false, false, false, false, false, false, false] rfl rfl (by kernel_rfl) (fun _ _ _ h => h) (Or.inl ⟨by rfl, ?_⟩) ?_ ?_
  rotate_left
  · intro w'
    go_simp
    with_reducible rfl
  rotate_left
  · simp only [Act.put, List.setIfInBounds_toArray, List.set_cons_zero, List.set_cons_succ, i64_w]
    rfl
  refine pure_ (i := 4) (N := (some 55)) (v := ?_) (a' := ?_) #[true, false, false, true, true, false, false, false, false, false, false, false, false, false, false] rfl rfl (by kernel_rfl) (fun _ _ _ h => h) (Or.inl ⟨by rfl, ?_⟩) ?_ ?_
  rotate_left
  · intro w'
    go_simp
    with_reducible rfl
  rotate_left
  · simp only [Act.put, List.setIfInBounds_toArray, List.set_cons_zero, List.set_cons_succ, i64_w]
    rfl
  refine pure_ (i := 7) (N := (some 58)) (v := ?_) (a' := ?_) #[true, false, false, true, true, false, false, true, false, false, false, false, false, false, false] rfl rfl (by kernel_rfl) (fun _ _ _ h => h) (Or.inl ⟨by rfl, ?_⟩) ?_ ?_
  rotate_left
  · intro w'
    go_simp
    with_reducible rfl
  rotate_left
  · simp only [Act.put, List.setIfInBounds_toArray, List.set_cons_zero, List.set_cons_succ, i64_w]
    rfl
  refine pure_ (i := 8) (N := (some 59)) (v := ?_) (a' := ?_) #[true, false, false, true, true, false, false, true, true, false, false, false, false, false, false] rfl rfl (by kernel_rfl) (fun _ _ _ h => h) (Or.inl ⟨by rfl, ?_⟩) ?_ ?_
  rotate_left
  · intro w'
    go_simp
    with_reducible rfl
  rotate_left
  · simp only [Act.put, List.setIfInBounds_toArray, List.set_cons_zero, List.set_cons_succ, i64_w]
    rfl
  refine one_ (i := 1) (N := (some 52)) #[true, true, false, true, true, false, false, true, true, false, false, false, false, false, false] rfl rfl (by kernel_rfl) (by decide) (fun K hK => ?_)
  refine goes_ Try.func43 (by kernel_rfl) rfl #[.pointer (some ⟨B, 0, none⟩)] (by rfl) rfl rfl (by first | rfl | (simp only [List.map_toArray, List.map_cons, List.map_nil]; rfl)) ?_
  refine (float_c B l i _ H0.out.1 h0 (by omega) (by omega) hby).mono ?_
  rintro e' wA ⟨rfl, hw⟩
  have H1 := hid (And.intro (H0.out.1.after hw) (H0.out.2.then_ (Aft.of_below hw)))
  clear hw H0
  rw [HX.out.2.2.1]
  refine ⟨_, rfl, ?_⟩
  refine hK.out _ _ H1.out.2 (fun hHeld => ?_)
  clear hK K
  refine norm_ (a' := ?_) ?_ ?_
  rotate_left
  · show Act.put _ (some 52) _ = _
    simp only [Act.put, List.setIfInBounds_toArray, List.set_cons_zero, List.set_cons_succ, i64_w]
    rfl
  refine pure_ (i := 2) (N := (some 53)) (v := ?_) (a' := ?_) #[true, true, true, true, true, false, false, true, true, false, false, false, false, false, false] rfl rfl (by kernel_rfl) (fun _ _ _ h => h) (Or.inl ⟨by rfl, ?_⟩) ?_ ?_
  rotate_left
  · intro w'
    go_simp
    with_reducible rfl
  rotate_left
  · simp only [Act.put, List.setIfInBounds_toArray, List.set_cons_zero, List.set_cons_succ, i64_w]
    rfl
  refine one_ (i := 5) (N := (some 56)) #[true, true, true, true, true, true, false, true, true, false, false, false, false, false, false] rfl rfl (by kernel_rfl) (by decide) (fun K hK => ?_)
  refine goes_ Try.func86 (by kernel_rfl) rfl #[.slice A q c] (by rfl) rfl rfl (by first | rfl | (simp only [List.map_toArray, List.map_cons, List.map_nil]; rfl)) ?_
  rw [← HQ.out.1]
  refine (spliceref01_Get.calls 5 A c (mid l i 4) X _ (CB_aft HC6.out.1 H1.out.2 (fun _ => hne (by omega))) HC6.out.2.1 (by rw [refGet_eq _ HX.out.2.2.2.1, HX.out.1])).mono ?_
  rintro e' wB ⟨rfl, ⟨nd, rfl⟩⟩
  have H5 := hid (And.intro (H1.out.1.keep (fun _ _ => rfl)) (H1.out.2.then_ (Aft.drawn ⟨⟨nd, rfl⟩⟩)))
  clear H1
  refine ⟨_, rfl, ?_⟩
  refine hK.out _ _ H5.out.2 (fun hHeld => ?_)
  clear hK K
  refine norm_ (a' := ?_) ?_ ?_
  rotate_left
  · show Act.put _ (some 56) _ = _
    simp only [Act.put, List.setIfInBounds_toArray, List.set_cons_zero, List.set_cons_succ, i64_w]
    rfl
  refine pure_ (i := 6) (N := (some 57)) (v := ?_) (a' := ?_) #[true, true, true, true, true, true, true, true, true, false, false, false, false, false, false] rfl rfl (by kernel_rfl) (fun _ _ _ h => h) (Or.inl ⟨by rfl, ?_⟩) ?_ ?_
  rotate_left
  · intro w'
    go_simp
    with_reducible rfl
  rotate_left
  · simp only [Act.put, List.setIfInBounds_toArray, List.set_cons_zero, List.set_cons_succ, i64_w]
    rfl
  refine one_ (i := 9) (N := (some 60)) #[true, true, true, true, true, true, true, true, true, true, false, false, false, false, false] rfl rfl (by kernel_rfl) (by decide) (fun K hK => ?_)
  refine goes_ Try.func86 (by kernel_rfl) rfl #[.slice A7 q2 c7] (by rfl) rfl rfl (by first | rfl | (simp only [List.map_toArray, List.map_cons, List.map_nil]; rfl)) ?_
  rw [← HQ.out.2]
  refine (spliceref01_Get.calls 5 A7 c7 (mid l (i + 4) 4) Y _ (CB_aft HC6.out.2.2.1 H5.out.2 (fun _ => HC6.out.2.2.2.2)) HC6.out.2.2.2.1 (by rw [refGet_eq _ HX.out.2.2.2.2, HX.out.2.1])).mono ?_
  rintro e' wB ⟨rfl, ⟨nd2, rfl⟩⟩
  have H9 := hid (And.intro (H5.out.1.keep (fun _ _ => rfl)) (H5.out.2.then_ (Aft.drawn ⟨⟨nd2, rfl⟩⟩)))
  clear H5
  refine ⟨_, rfl, ?_⟩
  refine hK.out _ _ H9.out.2 (fun hHeld => ?_)
  clear hK K
  refine norm_ (a' := ?_) ?_ ?_
  rotate_left
  · show Act.put _ (some 60) _ = _
    simp only [Act.put, List.setIfInBounds_toArray, List.set_cons_zero, List.set_cons_succ, i64_w]
    rfl
  refine pure_ (i := 10) (N := (some 61)) (v := ?_) (a' := ?_) #[true, true, true, true, true, true, true, true, true, true, true, false, false, false, false] rfl rfl (by kernel_rfl) (fun _ _ _ h => h) (Or.inl ⟨by rfl, ?_⟩) ?_ ?_
  rotate_left
  · intro w'
    go_simp
    with_reducible rfl
  rotate_left
  · simp only [Act.put, List.setIfInBounds_toArray, List.set_cons_zero, List.set_cons_succ, i64_w]
    rfl
  refine pure_ (i := 11) (N := (some 62)) (v := ?_) (a' := ?_) #[true, true, true, true, true, true, true, true, true, true, true, true, false, false, false] rfl rfl (by kernel_rfl) (fun _ _ _ h => h) (Or.inl ⟨by rfl, ?_⟩) ?_ ?_
  rotate_left
  · intro w'
    go_simp
    with_reducible rfl
  rotate_left
  · simp only [Act.put, List.setIfInBounds_toArray, List.set_cons_zero, List.set_cons_succ, i64_w]
    rfl
  refine pure_ (i := 12) (N := (some 63)) (v := ?_) (a' := ?_) #[true, true, true, true, true, true, true, true, true, true, true, true, true, false, false] rfl rfl (by kernel_rfl) (fun _ _ _ h => h) (Or.inl ⟨by rfl, ?_⟩) ?_ ?_
  rotate_left
  · intro w'
    go_simp
    with_reducible rfl
  rotate_left
  · simp only [Act.put, List.setIfInBounds_toArray, List.set_cons_zero, List.set_cons_succ, i64_w]
    rfl
  refine pure_ (i := 13) (N := (some 64)) (v := ?_) (a' := ?_) #[true, true, true, true, true, true, true, true, true, true, true, true, true, true, false] rfl rfl (by kernel_rfl) (fun _ _ _ h => h) (Or.inl ⟨by rfl, ?_⟩) ?_ ?_
  rotate_left
  · intro w'
    go_simp
    with_reducible rfl
  rotate_left
  · simp only [Act.put, List.setIfInBounds_toArray, List.set_cons_zero, List.set_cons_succ, i64_w]
    rfl
  refine pure_ (i := 14) (N := (some 6)) (v := ?_) (a' := ?_) #[true, true, true, true, true, true, true, true, true, true, true, true, true, true, true] rfl rfl (by kernel_rfl) (fun _ _ _ h => h) (Or.inl ⟨by rfl, ?_⟩) ?_ ?_
  rotate_left
  · intro w'
    go_simp
    with_reducible rfl
  rotate_left
  · simp only [Act.put, List.setIfInBounds_toArray, List.set_cons_zero, List.set_cons_succ, i64_w]
    rfl
  refine done_ (by kernel_rfl) ?_
  go_wp2
  go_ret
  exact ⟨rfl, H9.out.1, HA0.out.then_ H9.out.2⟩
set_option maxRecDepth 100000 in
set_option maxHeartbeats 2000000 in
theorem does4 (B : Nat) (l bb : List Int) (i : Int) (A : Option Addr) (c : Nat) (n : Int) (w : World) (h : Sc w B l i) (h0 : 0 ≤ i) (h1 : i ≤ l.length) (hl : l.length ≤ 1000) (hby : Bytes l) (hbb : bb = l.drop i.toNat) (hC : CB w A bb) (hc : bb.length ≤ c) (hne : 0 < bb.length → ∀ a, A = some a → a.block ≠ B) (n0 : 0 ≤ n) (n1 : n ≤ 65535) (hs : ¬ (bb.length : Int) < 2) (hN : ¬ n < wordOf (mid bb 0 2)) :
    Calls Try.prog 40 #[.pointer (some ⟨B, 0, none⟩), .slice A bb.length c, .agg #[.int .i64 4, .int .i64 n]] w fun e w' => e = .returned (.bool true) ∧ Sc w' B l (i + 2) ∧ Aft B w w' := by
  have hbl : (bb.length : Int) ≤ l.length - i := by rw [hbb, List.length_drop]; omega
  have hbl2 : (l.length : Int) - i ≤ bb.length := by rw [hbb, List.length_drop]; omega
  have hmid : ∀ j k : Int, 0 ≤ j → 0 ≤ k → mid bb j k = mid l (i + j) k := fun j k hj hk => by rw [hbb]; exact mid_drop l i j k h0 hj hk
  have hyb : Bytes bb := by rw [hbb]; exact fun x hx => hby x (List.mem_of_mem_drop hx)
  clear hbb
  obtain ⟨ad, x, y, rfl, hx, hy, hx0, hx1, hy0, hy1, hxy⟩ := two_bytes hC hyb (by omega)
  have hadB := hne (by omega) ad rfl
  have hm2 := hmid 0 2 (by omega) (by omega)
  rw [show i + 0 = i by omega] at hm2
  rw [hm2] at hxy hN
  have e2 : IntKind.i64.wrap (256 * y) = 256 * y := IntWalk.i64_in _ (by omega)
  have e3 : IntKind.i64.wrap (x + 256 * y) = x + 256 * y := IntWalk.i64_in _ (by omega)
  have v1 : wrap64 x = x := wrap64_id (by omega) (by omega)
  have v2 : wrap64 y = y := wrap64_id (by omega) (by omega)
  have v3 : wrap64 (256 * y) = 256 * y := wrap64_id (by omega) (by omega)
  have v4 : wrap64 (x + 256 * y) = x + 256 * y := wrap64_id (by omega) (by omega)
  have p0 : 0 < bb.length := by omega
  have p1 : 1 < (bb.length : Int) := by omega
  have HX := hid (And.intro hxy hN)
  have b0 := blk_new w (.cells #[.int .i64 4, .int .i64 n] 44)
  have hB := below_alloc (Below.refl w.heap.size w) (.cells #[.int .i64 4, .int .i64 n] 44)
  obtain ⟨W1, hW1⟩ : ∃ W, W = w.alloc (.cells #[.int .i64 4, .int .i64 n] 44) := ⟨_, rfl⟩
  rw [← hW1] at b0 hB
  have hgB : w.heap.size ≠ B := by have := h.lt; omega
  have k1 : ∀ W, Aft B W1 W → W.cell? ⟨w.heap.size, 1, none⟩ = some (.int .i64 n) := fun W k => cell_aft (blk_cell b0 1) k hgB
  have HK := hid k1
  have hA0 : Aft B w W1 := ⟨hB.os, hB.tape, hB.output, hB.size, fun k hk _ => hB.block k hk⟩
  have HA0 := hid hA0
  have HC := hid (Kd.C_below hC hB)
  have HW := hid hW1
  have H0 := hid (And.intro ((h.below hB).keep (w' := W1.drew) (fun _ _ => rfl)) (show Aft B W1 W1.drew from ⟨rfl, rfl, rfl, Nat.le_refl _, fun _ _ _ => rfl⟩))
  have hB0 := h.lt
  clear hC hB hW1 hA0 k1 h
  have hfact : ∀ W, Aft B W1 W → W.cell? ad = some (.int .u8 x) ∧ W.cell? ⟨ad.block, ad.off + 1, none⟩ = some (.int .u8 y) := by
    intro W k
    have hx' : W1.cell? ad = some (.int .u8 x) := by rw [HW.out]; exact ((below_alloc (Below.refl _ _) _).cell (World.block_lt_of_cell? _ _ hx)).trans hx
    have hy' : W1.cell? ⟨ad.block, ad.off + 1, none⟩ = some (.int .u8 y) := by rw [HW.out]; exact ((below_alloc (Below.refl _ _) _).cell (World.block_lt_of_cell? _ _ hy)).trans hy
    exact ⟨cell_aft hx' k hadB, cell_aft hy' k hadB⟩
  have HF := hid hfact
  clear hfact hx hy hm2 hxy hN hmid
  go_enter Try.func40, Try.ntmps40
  go_wp2
  rw [← HW.out]
  refine start_ (n := 16) (S := fun W => Aft B W1 W) (ds := []) #[false, false, false, false, false, false, false, false, false, false, false, false, false, false, false, false] (by kernel_rfl) rfl rfl ⟨rfl, rfl, rfl, Nat.le_refl _, fun _ _ _ => rfl⟩ (fun hHeld => ?_)
  refine pure_ (i := 0) (N := (some 67)) (v := ?_) (a' := ?_) #[true, false, false, false, false, false, false, false, false, false, false, false, false, false, false, false] rfl rfl (by kernel_rfl) (fun _ _ _ h => h) (Or.inl ⟨by rfl, ?_⟩) ?_ ?_
  rotate_left
  · intro w'
    go_simp
    with_reducible rfl
  rotate_left
  · simp only [Act.put, List.setIfInBounds_toArray, List.set_cons_zero, List.set_cons_succ, i64_w]
    rfl
  refine pure_ (i := 1) (N := (some 68)) (v := ?_) (a' := ?_) #[true, true, false, false, false, false, false, false, false, false, false, false, false, false, false, false] rfl rfl (by kernel_rfl) (fun _ _ _ h => h) (Or.inl ⟨by rfl, ?_⟩) ?_ ?_
  rotate_left
  · intro w'
    go_simp
    with_reducible rfl
  rotate_left
  · simp only [Act.put, List.setIfInBounds_toArray, List.set_cons_zero, List.set_cons_succ, i64_w]
    rfl
  refine take_ (i := 2) (N := (some 69)) (v := ?_) (a' := ?_) #[true, true, true, false, false, false, false, false, false, false, false, false, false, false, false, false] rfl rfl (by kernel_rfl) (fun _ _ _ h => h) (Or.inl ⟨by rfl, ?_⟩) hHeld ?_ ?_
  rotate_left
  · rintro w' s0; obtain ⟨c0, c1⟩ := HF.out w' s0; have c2 := HK.out w' s0
    go_simp
    with_reducible rfl
  rotate_left
  · simp only [Act.put, List.setIfInBounds_toArray, List.set_cons_zero, List.set_cons_succ, i64_w]
    rfl
  refine pure_ (i := 4) (N := (some 71)) (v := ?_) (a' := ?_) #[true, true, true, false, true, false, false, false, false, false, false, false, false, false, false, false] rfl rfl (by kernel_rfl) (fun _ _ _ h => h) (Or.inl ⟨by rfl, ?_⟩) ?_ ?_
  rotate_left
  · intro w'
    go_simp
    with_reducible rfl
  rotate_left
  · simp only [Act.put, List.setIfInBounds_toArray, List.set_cons_zero, List.set_cons_succ, i64_w]
    rfl
  refine pure_ (i := 5) (N := (some 72)) (v := ?_) (a' := ?_) #[true, true, true, false, true, true, false, false, false, false, false, false, false, false, false, false] rfl rfl (by kernel_rfl) (fun _ _ _ h => h) (Or.inl ⟨by rfl, ?_⟩) ?_ ?_
  rotate_left
  · intro w'
    go_simp
    with_reducible rfl
  rotate_left
  · simp only [Act.put, List.setIfInBounds_toArray, List.set_cons_zero, List.set_cons_succ, i64_w]
    rfl
  refine take_ (i := 6) (N := (some 73)) (v := ?_) (a' := ?_) #[true, true, true, false, true, true, true, false, false, false, false, false, false, false, false, false] rfl rfl (by kernel_rfl) (fun _ _ _ h => h) (Or.inl ⟨by rfl, ?_⟩) hHeld ?_ ?_
  rotate_left
  · rintro w' s0; obtain ⟨c0, c1⟩ := HF.out w' s0; have c2 := HK.out w' s0
    go_simp
    with_reducible rfl
  rotate_left
  · simp only [Act.put, List.setIfInBounds_toArray, List.set_cons_zero, List.set_cons_succ, i64_w]
    rfl
  refine pure_ (i := 7) (N := (some 74)) (v := ?_) (a' := ?_) #[true, true, true, false, true, true, true, true, false, false, false, false, false, false, false, false] rfl rfl (by kernel_rfl) (fun _ _ _ h => h) (Or.inl ⟨by rfl, ?_⟩) ?_ ?_
  rotate_left
  · intro w'
    go_simp
    with_reducible rfl
  rotate_left
  · simp only [Act.put, List.setIfInBounds_toArray, List.set_cons_zero, List.set_cons_succ, i64_w]
    rfl
  refine pure_ (i := 8) (N := (some 75)) (v := ?_) (a' := ?_) #[true, true, true, false, true, true, true, true, true, false, false, false, false, false, false, false] rfl rfl (by kernel_rfl) (fun _ _ _ h => h) (Or.inl ⟨by rfl, ?_⟩) ?_ ?_
  rotate_left
  · intro w'
    go_simp
    with_reducible rfl
  rotate_left
  · simp only [Act.put, List.setIfInBounds_toArray, List.set_cons_zero, List.set_cons_succ, i64_w]
    rfl
  refine pure_ (i := 9) (N := (some 76)) (v := ?_) (a' := ?_) #[true, true, true, false, true, true, true, true, true, true, false, false, false, false, false, false] rfl rfl (by kernel_rfl) (fun _ _ _ h => h) (Or.inl ⟨by rfl, ?_⟩) ?_ ?_
  rotate_left
  · intro w'
    go_simp
    with_reducible rfl
  rotate_left
  · simp only [Act.put, List.setIfInBounds_toArray, List.set_cons_zero, List.set_cons_succ, i64_w]
    rfl
  refine take_ (i := 10) (N := (some 77)) (v := ?_) (a' := ?_) #[true, true, true, false, true, true, true, true, true, true, true, false, false, false, false, false] rfl rfl (by kernel_rfl) (fun _ _ _ h => h) (Or.inl ⟨by rfl, ?_⟩) hHeld ?_ ?_
  rotate_left
  · rintro w' s0; obtain ⟨c0, c1⟩ := HF.out w' s0; have c2 := HK.out w' s0
    go_simp
    with_reducible rfl
  rotate_left
  · simp only [Act.put, List.setIfInBounds_toArray, List.set_cons_zero, List.set_cons_succ, i64_w]
    rfl
  refine pure_ (i := 11) (N := (some 78)) (v := ?_) (a' := ?_) #[true, true, true, false, true, true, true, true, true, true, true, true, false, false, false, false] rfl rfl (by kernel_rfl) (fun _ _ _ h => h) (Or.inl ⟨by rfl, ?_⟩) ?_ ?_
  rotate_left
  · intro w'
    go_simp
    with_reducible rfl
  rotate_left
  · simp only [Act.put, List.setIfInBounds_toArray, List.set_cons_zero, List.set_cons_succ, i64_w]
    rfl
  refine pure_ (i := 12) (N := (some 79)) (v := ?_) (a' := ?_) #[true, true, true, false, true, true, true, true, true, true, true, true, true, false, false, false] rfl rfl (by kernel_rfl) (fun _ _ _ h => h) (Or.inl ⟨by rfl, ?_⟩) ?_ ?_
  rotate_left
  · intro w'
    go_simp
    with_reducible rfl
  rotate_left
  · simp only [Act.put, List.setIfInBounds_toArray, List.set_cons_zero, List.set_cons_succ, i64_w]
    rfl
  refine pure_ (i := 13) (N := (some 80)) (v := ?_) (a' := ?_) #[true, true, true, false, true, true, true, true, true, true, true, true, true, true, false, false] rfl rfl (by kernel_rfl) (fun _ _ _ h => h) (Or.inl ⟨by rfl, ?_⟩) ?_ ?_
  rotate_left
  · intro w'
    go_simp
    with_reducible rfl
  rotate_left
  · simp only [Act.put, List.setIfInBounds_toArray, List.set_cons_zero, List.set_cons_succ, i64_w]
    rfl
  refine one_ (i := 3) (N := (some 70)) #[true, true, true, true, true, true, true, true, true, true, true, true, true, true, false, false] rfl rfl (by kernel_rfl) (by decide) (fun K hK => ?_)
  refine goes_ Try.func44 (by kernel_rfl) rfl #[.pointer (some ⟨B, 0, none⟩), .int .i64 n] (by rfl) rfl rfl (by first | rfl | (simp only [List.map_toArray, List.map_cons, List.map_nil]; rfl)) ?_
  refine (count_c B l i n _ H0.out.1 h0 (by omega) (by omega) hby (by have := HX.out.2; omega)).mono ?_
  rintro e' wA ⟨rfl, hw⟩
  have H3 := hid (And.intro (H0.out.1.after hw) (H0.out.2.then_ (Aft.of_below hw)))
  clear hw H0
  rw [HX.out.1]
  refine ⟨_, rfl, ?_⟩
  refine hK.out _ _ H3.out.2 (fun hHeld => ?_)
  clear hK K
  refine norm_ (a' := ?_) ?_ ?_
  rotate_left
  · show Act.put _ (some 70) _ = _
    simp only [Act.put, List.setIfInBounds_toArray, List.set_cons_zero, List.set_cons_succ, i64_w]
    rfl
  refine pure_ (i := 14) (N := (some 81)) (v := ?_) (a' := ?_) #[true, true, true, true, true, true, true, true, true, true, true, true, true, true, true, false] rfl rfl (by kernel_rfl) (fun _ _ _ h => h) (Or.inl ⟨by rfl, ?_⟩) ?_ ?_
  rotate_left
  · intro w'
    go_simp
    with_reducible rfl
  rotate_left
  · simp only [Act.put, List.setIfInBounds_toArray, List.set_cons_zero, List.set_cons_succ, i64_w]
    rfl
  refine pure_ (i := 15) (N := (some 6)) (v := ?_) (a' := ?_) #[true, true, true, true, true, true, true, true, true, true, true, true, true, true, true, true] rfl rfl (by kernel_rfl) (fun _ _ _ h => h) (Or.inl ⟨by rfl, ?_⟩) ?_ ?_
  rotate_left
  · intro w'
    go_simp
    with_reducible rfl
  rotate_left
  · simp only [Act.put, List.setIfInBounds_toArray, List.set_cons_zero, List.set_cons_succ, i64_w]
    rfl
  refine done_ (by kernel_rfl) ?_
  go_wp2
  go_ret
  exact ⟨rfl, H3.out.1, HA0.out.then_ H3.out.2⟩
set_option maxRecDepth 100000 in
set_option maxHeartbeats 2000000 in
theorem doesx (B : Nat) (l bb : List Int) (i : Int) (A : Option Addr) (c : Nat) (dq n : Int) (w : World) (h : Sc w B l i) (h0 : 0 ≤ i) (h1 : i ≤ l.length) (hl : l.length ≤ 1000) (hby : Bytes l) (hbb : bb = l.drop i.toNat) (hC : CB w A bb) (hc : bb.length ≤ c) (hne : 0 < bb.length → ∀ a, A = some a → a.block ≠ B) (n0 : 0 ≤ n) (n1 : n ≤ 65535) (g0 : ¬ dq = 0) (g1 : ¬ dq = 1) (g2 : ¬ dq = 2) (g3 : ¬ dq = 3) (g4 : ¬ dq = 4) :
    Calls Try.prog 40 #[.pointer (some ⟨B, 0, none⟩), .slice A bb.length c, .agg #[.int .i64 dq, .int .i64 n]] w fun e w' => e = .returned (.bool true) ∧ Sc w' B l (i + 0) ∧ Aft B w w' := by
  have hbl : (bb.length : Int) ≤ l.length - i := by rw [hbb, List.length_drop]; omega
  have hbl2 : (l.length : Int) - i ≤ bb.length := by rw [hbb, List.length_drop]; omega
  have hmid : ∀ j k : Int, 0 ≤ j → 0 ≤ k → mid bb j k = mid l (i + j) k := fun j k hj hk => by rw [hbb]; exact mid_drop l i j k h0 hj hk
  have hyb : Bytes bb := by rw [hbb]; exact fun x hx => hby x (List.mem_of_mem_drop hx)
  clear hbb
  have b0 := blk_new w (.cells #[.int .i64 dq, .int .i64 n] 44)
  have hB := below_alloc (Below.refl w.heap.size w) (.cells #[.int .i64 dq, .int .i64 n] 44)
  obtain ⟨W1, hW1⟩ : ∃ W, W = w.alloc (.cells #[.int .i64 dq, .int .i64 n] 44) := ⟨_, rfl⟩
  rw [← hW1] at b0 hB
  have hgB : w.heap.size ≠ B := by have := h.lt; omega
  have k1 : ∀ W, Aft B W1 W → W.cell? ⟨w.heap.size, 1, none⟩ = some (.int .i64 n) := fun W k => cell_aft (blk_cell b0 1) k hgB
  have HK := hid k1
  have hA0 : Aft B w W1 := ⟨hB.os, hB.tape, hB.output, hB.size, fun k hk _ => hB.block k hk⟩
  have HA0 := hid hA0
  have HC := hid (Kd.C_below hC hB)
  have HW := hid hW1
  have H0 := hid (And.intro ((h.below hB).keep (w' := W1.drew) (fun _ _ => rfl)) (show Aft B W1 W1.drew from ⟨rfl, rfl, rfl, Nat.le_refl _, fun _ _ _ => rfl⟩))
  have hB0 := h.lt
  clear hC hB hW1 hA0 k1 h
  have hq0 : ((l.length : Int) - i == bb.length) = true := beq_iff_eq.2 (by omega)
  go_enter Try.func40, Try.ntmps40
  go_wp2_with fail
  rw [← HW.out]
  refine (left_c B l i W1 (H0.out.1.keep (w' := W1) (fun _ _ => rfl)) h0 h1 (by omega)).mono ?_
  rintro e' wA ⟨rfl, ⟨nd, rfl⟩⟩
  have H1 := hid (And.intro (H0.out.1.keep (w' := W1.drewN nd) (fun _ _ => rfl)) (show Aft B W1 (W1.drewN nd) from Aft.drawn ⟨⟨nd, rfl⟩⟩))
  go_wp2
  go_ret
  exact ⟨rfl, by rw [Int.add_zero]; exact H1.out.1, HA0.out.then_ H1.out.2⟩
end Go.Proofs.Ytmcfihpbiilbcaa.H
