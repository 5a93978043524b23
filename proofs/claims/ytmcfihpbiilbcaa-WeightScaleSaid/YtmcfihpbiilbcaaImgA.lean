/- image.Write. -/
import Derived.Test.YtmcfihpbiilbcaaS2
import Derived.Test.YtmcfihpbiilbcaaEx3
import Derived.Test.YtmcfihpbiilbcaaEx4
namespace Go.Proofs.Ytmcfihpbiilbcaa.H
open Go.RowKit Go.Proofs.YtmcfihpbiilbcaaW.PrintWords Go.Proofs.YtmcfihpbiilbcaaW.PrintLast Go.Proofs.YtmcfihpbiilbcaaW.PrintMore Go.Proofs.Ytmcfihpbiilbcaa.E
set_option linter.unusedVariables false
set_option linter.unusedSimpArgs false
/-- May an image be written? -/
def mayB (c : List Int) (e : Int) (d : List Int) (wq mo : Int) : Bool := decide (c.length ≤ 65536 ∧ (e = 0 ∨ 0 < e ∧ e < c.length) ∧ d.length ≤ 65536 ∧ 0 ≤ wq ∧ wq ≤ d.length ∧ 0 ≤ mo ∧ mo ≤ 65536)
theorem imgMay_q (c : List Int) (e : Int) (d : List Int) (wq mo : Int) : image_may.f c e d wq mo = some (mayB c e d wq mo) := by
  unfold image_may.f image_in.f image_entry.f mayB
  by_cases h1 : c.length ≤ 65536 <;> by_cases h2 : e = 0 <;> by_cases h3 : 0 < e <;> by_cases h4 : e < c.length <;> by_cases h5 : d.length ≤ 65536 <;> by_cases h6 : 0 ≤ wq <;> by_cases h7 : wq ≤ d.length <;> by_cases h8 : 0 ≤ mo <;> by_cases h9 : mo ≤ 65536 <;> simp [h1, h2, h3, h4, h5, h6, h7, h8, h9] <;> first | omega | (repeat first | rw [if_neg (by omega)] | rw [if_pos (by omega)])
theorem refMay_q (c : List Int) (e : Int) (d : List Int) (wq mo : Int) : spliceref15_May.f c e d wq mo = some (mayB c e d wq mo) := by
  unfold spliceref15_May.f mayB
  by_cases h1 : c.length ≤ 65536 <;> by_cases h2 : e = 0 <;> by_cases h3 : 0 < e <;> by_cases h4 : e < c.length <;> by_cases h5 : d.length ≤ 65536 <;> by_cases h6 : 0 ≤ wq <;> by_cases h7 : wq ≤ d.length <;> by_cases h8 : 0 ≤ mo <;> by_cases h9 : mo ≤ 65536 <;> simp [h1, h2, h3, h4, h5, h6, h7, h8, h9] <;> first | omega | (repeat first | rw [if_neg (by omega)] | rw [if_pos (by omega)])
def wordsS (c : List Int) : List Int := (c.map (fun x => putS x 4)).flatten
theorem putS4_len (n : Int) : (putS n 4).length = 4 := rfl
theorem wordsS_len (c : List Int) : (wordsS c).length = 4 * c.length := by
  unfold wordsS
  induction c with
  | nil => rfl
  | cons x c ih => rw [List.map_cons, List.flatten_cons, List.length_append, ih, putS4_len, List.length_cons]; omega
theorem wordsS_step (c : List Int) (k : Nat) (h : k < c.length) : wordsS (c.take (k + 1)) = wordsS (c.take k) ++ putS c[k] 4 := by
  unfold wordsS
  rw [List.take_add_one, List.map_append, List.flatten_append, List.getElem?_eq_getElem h]
  simp
/-- An image's bytes. -/
def imgW (c : List Int) (e : Int) (d : List Int) (wq mo : Int) : List Int := [83, 80, 88, 49] ++ putS c.length 4 ++ wordsS c ++ putS e 4 ++ putS d.length 4 ++ d ++ putS wq 4 ++ putS mo 4
/-- The beginning of an image's bytes, up to k words. -/
def outS (c : List Int) (k : Nat) : List Int := [83, 80, 88, 49] ++ putS c.length 4 ++ wordsS (c.take k)
theorem outS_step (c : List Int) (k : Nat) (h : k < c.length) : outS c (k + 1) = outS c k ++ putS c[k] 4 := by
  unfold outS
  rw [wordsS_step c k h]
  simp only [List.append_assoc]
theorem outS_len (c : List Int) (k : Nat) (h : k ≤ c.length) : (outS c k).length = 8 + 4 * k := by
  unfold outS
  simp only [List.length_append, List.length_cons, List.length_nil, putS4_len, wordsS_len, List.length_take]
  omega
theorem outS_all (c : List Int) (e : Int) (d : List Int) (wq mo : Int) : outS c c.length ++ putS e 4 ++ putS d.length 4 ++ d ++ putS wq 4 ++ putS mo 4 = imgW c e d wq mo := by
  unfold outS imgW
  rw [List.take_length]
abbrev CU (w : World) (A : Option Addr) (l : List Int) : Prop := Kd.C (Kd.int .u32) w A l.length l
theorem CL_block {w : World} {g : Nat} {ls : List (List Int)} {cs : Array Value} {t : TypeId} (hb : w.heap[g]? = some (.cells cs t (0, 0))) (hl : ls.length ≤ 9223372036854775807)
    (h : ∀ (j : Nat) (l : List Int), ls[j]? = some l → ∃ (A : Option Addr) (c : Nat), cs[j]? = some (Value.slice A l.length c) ∧ l.length ≤ c ∧ CB w A l) : CL w (some ⟨g, 0, none⟩) ls :=
  ⟨rfl, hl, fun _ => ⟨⟨g, 0, none⟩, rfl, fun j l hj => by
    obtain ⟨A, c, h1, h2, h3⟩ := h j l hj
    refine ⟨[.slice A l.length c], rfl, ⟨A, c, rfl, h2, h3⟩, fun i u hu => ?_⟩
    match i, hu with
    | 0, hu => simp at hu; subst hu; rw [show j * (Kd.slice 5 (Kd.int .u8)).sz + 0 = j from Nat.mul_one j, add_plain]; simp [World.cell?, hb, h1]
    | i + 1, hu => simp at hu⟩⟩
theorem const_c (w : World) (C : Array Value) (n c : Nat) : (convert 22 22 (.slice (some ⟨w.heap.size, 0, none⟩) n c)).run Try.prog (w.alloc (.cells C 5)) = .ok (.slice (some ⟨w.heap.size, 0, none⟩) n c) (w.alloc (.cells C 5 (C.size, C.size + 1))) :=
  Lib.run_convert_bytes_const (P := Try.prog) w 22 5 C n c Try.underlying22 Try.underlying5
theorem wordAt {w : World} {A : Option Addr} {l : List Int} (h : CU w A l) (k : Nat) (hk : k < l.length) : ∃ ad, A = some ad ∧ w.cell? (ad.add k) = some (.int .u32 l[k]) := by
  obtain ⟨ad, e, hcell⟩ := Kd.at_int h (k : Int) (by omega) (by omega)
  rw [Int.toNat_natCast] at hcell
  refine ⟨ad, e, ?_⟩
  rw [hcell]
  simp [rd, List.getD_eq_getElem?_getD, List.getElem?_eq_getElem hk]
set_option maxRecDepth 100000 in
theorem imgWrite_no (Ac : Option Addr) (cc : Nat) (c : List Int) (e : Int) (Ad : Option Addr) (cd : Nat) (d : List Int) (wq mo : Int) (w : World) (hc : CU w Ac c) (hcc : c.length ≤ cc) (hd : CB w Ad d) (hcd : d.length ≤ cd) (hm : mayB c e d wq mo = false) :
    Calls Try.prog 51 #[.agg #[.slice Ac c.length cc, .int .i64 e, .slice Ad d.length cd, .int .i64 wq, .int .i64 mo]] w fun e' w' => e' = .returned (.tuple #[.slice none 0 0, .int .i64 4]) ∧ Below w.heap.size w w' := by
  have HC := hid (And.intro hc hd)
  clear hc hd
  go_enter Try.func51, Try.ntmps51
  go_wp2_with fail
  refine (image_may.calls Ac cc c e Ad cd d wq mo false _ (Kd.C_alloc HC.out.1 _) hcc (Kd.C_alloc HC.out.2 _) hcd (by rw [imgMay_q, hm])).mono ?_
  rintro e' w1 ⟨rfl, hb⟩
  have HB := hid (below_step (below_alloc (Below.refl w.heap.size w) _) hb)
  clear hb
  go_wp2
  go_ret2
  exact ⟨rfl, HB.out⟩
set_option maxRecDepth 100000 in
set_option maxHeartbeats 1000000 in
theorem imgWrite_yes (Ac : Option Addr) (cc : Nat) (c : List Int) (e : Int) (Ad : Option Addr) (cd : Nat) (d : List Int) (wq mo : Int) (w : World) (hc : CU w Ac c) (hcc : c.length ≤ cc) (hd : CB w Ad d) (hcd : d.length ≤ cd) (hby : ∀ x ∈ c, 0 ≤ x ∧ x ≤ 4294967295) (hm : mayB c e d wq mo = true) :
    Calls Try.prog 51 #[.agg #[.slice Ac c.length cc, .int .i64 e, .slice Ad d.length cd, .int .i64 wq, .int .i64 mo]] w fun e' w' => ∃ v, e' = .returned (.tuple #[v, .int .i64 0]) ∧ RB w' w.heap.size v (imgW c e d wq mo) ∧ Below w.heap.size w w' := by
  have hM : c.length ≤ 65536 ∧ (e = 0 ∨ 0 < e ∧ e < c.length) ∧ d.length ≤ 65536 ∧ 0 ≤ wq ∧ wq ≤ d.length ∧ 0 ≤ mo ∧ mo ≤ 65536 := of_decide_eq_true hm
  have HM := hid hM
  have HC := hid (And.intro hc hd)
  have HBY := hid hby
  have kc := const_c
  clear hc hd hM hby
  go_enter Try.func51, Try.ntmps51
  go_wp2_with fail
  refine (image_may.calls Ac cc c e Ad cd d wq mo true _ (Kd.C_alloc HC.out.1 _) hcc (Kd.C_alloc HC.out.2 _) hcd (by rw [imgMay_q, hm])).mono ?_
  rintro e' w1 ⟨rfl, hb⟩
  have HB := hid (below_step (below_alloc (Below.refl w.heap.size w) _) hb)
  have b1 : w1.heap[w.heap.size]? = some (.cells #[.slice Ac c.length cc, .int .i64 e, .slice Ad d.length cd, .int .i64 wq, .int .i64 mo] 60 (0, 0)) := blk_below (blk_new _ _) hb
  have hz1 := blk_lt b1
  have c0 : w1.cell? ⟨w.heap.size, 0, none⟩ = some (.slice Ac c.length cc) := blk_cell b1 0
  have H1 := hid b1
  clear hb b1 hm
  go_wp2_with fail
  refine (sput_c (c.length : Int) 4 (by omega) (by omega) _).mono ?_
  rintro e' w2 ⟨A2, c2, rfl, hc2, hC2, hb2⟩
  have hpl : (putS (c.length : Int) 4).length = 4 := rfl
  obtain ⟨ad2, rfl⟩ := C_some hC2 (by omega)
  have k2 : w2.heap[w1.heap.size]? = some (.cells #[.int .u8 83, .int .u8 80, .int .u8 88, .int .u8 49] 5 (4, 5)) := blk_below (blk_new w1 _) hb2
  have hK2 : CB w2 (some ⟨w1.heap.size, 0, none⟩) [83, 80, 88, 49] := C_block k2 (by decide) (fun j p h => by match j, h with | 0, h => simp at h ⊢; exact h | 1, h => simp at h ⊢; exact h | 2, h => simp at h ⊢; exact h | 3, h => simp at h ⊢; exact h | j + 4, h => simp at h)
  have hB2 : Below w.heap.size w w2 := below_step (below_alloc HB.out _) hb2
  have h12 := blk_below (blk_alloc H1.out (.cells #[.int .u8 83, .int .u8 80, .int .u8 88, .int .u8 49] 5 (4, 5))) hb2
  have c0 : w2.cell? ⟨w.heap.size, 0, none⟩ = some (.slice Ac c.length cc) := blk_cell h12 0
  have H2 := hid (And.intro hK2 (And.intro hC2 (And.intro hB2 h12)))
  have HPL := hid hpl
  clear hC2 hb2 k2 hK2 hB2 h12 HB H1 hpl
  go_wp2_with (at_builtin; refine grow_c rfl (.tmp 11) (.tmp 15) rfl ⟨w1.heap.size, 0, none⟩ ad2 [83, 80, 88, 49] (putS (c.length : Int) 4) c2 rfl rfl H2.out.1 H2.out.2.1 (by decide) (by have := HPL.out; omega) (by have := HPL.out; simp only [List.length_cons, List.length_nil]; omega) ?_; intro v4 w4 hr hb; have c0' := (hb.cell (World.block_lt_of_cell? _ _ c0)).trans c0; have H4 := hid (And.intro hr hb); clear hr hb c0)
  have hB4 : Below w.heap.size w w4 := below_step H2.out.2.2.1 H4.out.2
  have hR4 := Kd.R_lower H4.out.1 H2.out.2.2.1.size
  have h14 := blk_below H2.out.2.2.2 H4.out.2
  have H5 := hid (And.intro hR4 (And.intro hB4 h14))
  clear hB4 hR4 h14 H4 H2 c0 c0'
  go_loopw [4, 20] (fun s4 s20 wx => ∃ (k : Nat), k ≤ c.length ∧ s20 = .int .i64 k ∧ Hid (RB wx w.heap.size s4 (outS c k) ∧ Below w.heap.size w wx ∧ wx.heap[w.heap.size]? = some (.cells #[.slice Ac c.length cc, .int .i64 e, .slice Ad d.length cd, .int .i64 wq, .int .i64 mo] 60 (0, 0)))) (fun _ s20 _ => c.length - (intOf s20).toNat)
  case atStart => exact ⟨0, by omega, rfl, hid ⟨by simpa [outS, wordsS] using H5.out.1, H5.out.2⟩⟩
  case round =>
    obtain ⟨k, hk, rfl, hI⟩ := hrel
    obtain ⟨A6, c6, rfl, hc6, _⟩ := Kd.R_reads hI.out.1
    by_cases hlt : (k : Int) < (c.length : Int)
    · have hk1 : k < c.length := by omega
      obtain ⟨ad, rfl, hcell⟩ := wordAt (Kd.C_below HC.out.1 hI.out.2.1) k hk1
      have hx := HBY.out c[k] (List.getElem_mem hk1)
      obtain ⟨x, hx'⟩ : ∃ x, x = c[k] := ⟨_, rfl⟩
      rw [← hx'] at hcell hx
      have hwl := outS_len c k hk
      have HX := hid (And.intro hx' hwl)
      have e1 : IntKind.i64.wrap x = x := IntWalk.i64_in _ (by omega)
      have e3 : IntKind.i64.wrap ((k : Int) + 1) = (k : Int) + 1 := IntWalk.i64_in _ (by have := HM.out.1; omega)
      clear hx' hwl
      go_wp2_with fail
      refine (sput_c x 4 (by omega) (by omega) _).mono ?_
      rintro e' w7 ⟨A7, c7, rfl, hc7, hC7, hb7⟩
      have hl7 : (outS c k).length + (putS x 4).length ≤ 140737488355328 := by
        have h1 := HX.out.2
        have h2 := HM.out.1
        rw [putS4_len]
        omega
      have H7 := hid (And.intro (Kd.R_below hI.out.1 hb7) (And.intro hC7 (And.intro (below_step hI.out.2.1 hb7) (blk_below hI.out.2.2 hb7))))
      clear hC7 hb7
      go_wp2_with (at_builtin; refine app_c (w0 := w) w.heap.size rfl (.tmp 24) (.tmp 27) rfl _ (outS c k) (putS x 4) A7 c7 rfl rfl H7.out.1 H7.out.2.1 H7.out.2.2.1 H7.out.2.2.1.size hl7 ?_; intro v8 w8 hr hb hg hat; have hN := blk_grown H7.out.2.2.2 hg (fun e => by have h1 := Kd.R_types H7.out.1 H7.out.2.2.2 (by simp [Kd.int, Kd.scalar]); exact h1.1 _ e.symm |>.2 rfl); have H8 := hid (And.intro hr (And.intro hb hN)); clear hr hb hg hat hN hl7)
      go_roundw
      case rel => exact ⟨k + 1, by omega, by go_num, hid ⟨by rw [outS_step c k hk1, ← HX.out.1]; exact H8.out.1, H8.out.2⟩⟩
      case measure => simp [intOf]; omega
    · have hk1 : k = c.length := by omega
      subst hk1
      have hcs : ∀ W, Below wr.heap.size wr W → (W.cell? ⟨w.heap.size, 1, none⟩ = some (.int .i64 e) ∧ W.cell? ⟨w.heap.size, 2, none⟩ = some (.slice Ad d.length cd) ∧ W.cell? ⟨w.heap.size, 3, none⟩ = some (.int .i64 wq) ∧ W.cell? ⟨w.heap.size, 4, none⟩ = some (.int .i64 mo)) := fun W hb => ⟨blk_cell (blk_below hI.out.2.2 hb) 1, blk_cell (blk_below hI.out.2.2 hb) 2, blk_cell (blk_below hI.out.2.2 hb) 3, blk_cell (blk_below hI.out.2.2 hb) 4⟩
      have HS := hid hcs
      clear hcs
      go_wp2
      refine start_ (n := 20) (S := fun W => W.cell? ⟨w.heap.size, 1, none⟩ = some (.int .i64 e) ∧ W.cell? ⟨w.heap.size, 2, none⟩ = some (.slice Ad d.length cd) ∧ W.cell? ⟨w.heap.size, 3, none⟩ = some (.int .i64 wq) ∧ W.cell? ⟨w.heap.size, 4, none⟩ = some (.int .i64 mo)) (ds := []) #[false, false, false, false, false, false, false, false, false, false, false, false, false, false, false, false, false, false, false, false] (by kernel_rfl) rfl rfl (HS.out _ (below_drew (Below.refl _ _))) (fun hHeld => ?_)
      refine pure_ (i := 0) (N := (some 30)) (v := ?_) (a' := ?_) #[true, false, false, false, false, false, false, false, false, false, false, false, false, false, false, false, false, false, false, false] rfl rfl (by kernel_rfl) (fun _ _ _ h => h) (Or.inl ⟨by rfl, ?_⟩) ?_ ?_
      rotate_left
      · intro w'
        go_simp
        with_reducible rfl
      rotate_left
      · simp only [Act.put, List.setIfInBounds_toArray, List.set_cons_zero, List.set_cons_succ, i64_w]
        rfl
      refine pure_ (i := 1) (N := (some 31)) (v := ?_) (a' := ?_) #[true, true, false, false, false, false, false, false, false, false, false, false, false, false, false, false, false, false, false, false] rfl rfl (by kernel_rfl) (fun _ _ _ h => h) (Or.inl ⟨by rfl, ?_⟩) ?_ ?_
      rotate_left
      · intro w'
        go_simp
        with_reducible rfl
      rotate_left
      · simp only [Act.put, List.setIfInBounds_toArray, List.set_cons_zero, List.set_cons_succ, i64_w]
        rfl
      refine take_ (i := 2) (N := (some 32)) (v := ?_) (a' := ?_) #[true, true, true, false, false, false, false, false, false, false, false, false, false, false, false, false, false, false, false, false] rfl rfl (by kernel_rfl) (fun _ _ _ h => h) (Or.inl ⟨by rfl, ?_⟩) hHeld ?_ ?_
      rotate_left
      · rintro w' ⟨s0, s1, s2, s3⟩
        go_simp
        with_reducible rfl
      rotate_left
      · simp only [Act.put, List.setIfInBounds_toArray, List.set_cons_zero, List.set_cons_succ, i64_w]
        rfl
      refine pure_ (i := 4) (N := (some 34)) (v := ?_) (a' := ?_) #[true, true, true, false, true, false, false, false, false, false, false, false, false, false, false, false, false, false, false, false] rfl rfl (by kernel_rfl) (fun _ _ _ h => h) (Or.inl ⟨by rfl, ?_⟩) ?_ ?_
      rotate_left
      · intro w'
        go_simp
        with_reducible rfl
      rotate_left
      · simp only [Act.put, List.setIfInBounds_toArray, List.set_cons_zero, List.set_cons_succ, i64_w]
        rfl
      refine take_ (i := 5) (N := (some 35)) (v := ?_) (a' := ?_) #[true, true, true, false, true, true, false, false, false, false, false, false, false, false, false, false, false, false, false, false] rfl rfl (by kernel_rfl) (fun _ _ _ h => h) (Or.inl ⟨by rfl, ?_⟩) hHeld ?_ ?_
      rotate_left
      · rintro w' ⟨s0, s1, s2, s3⟩
        go_simp
        with_reducible rfl
      rotate_left
      · simp only [Act.put, List.setIfInBounds_toArray, List.set_cons_zero, List.set_cons_succ, i64_w]
        rfl
      refine pure_ (i := 6) (N := (some 36)) (v := ?_) (a' := ?_) #[true, true, true, false, true, true, true, false, false, false, false, false, false, false, false, false, false, false, false, false] rfl rfl (by kernel_rfl) (fun _ _ _ h => h) (Or.inl ⟨by rfl, ?_⟩) ?_ ?_
      rotate_left
      · intro w'
        go_simp
        with_reducible rfl
      rotate_left
      · simp only [Act.put, List.setIfInBounds_toArray, List.set_cons_zero, List.set_cons_succ, i64_w]
        rfl
      refine pure_ (i := 8) (N := (some 38)) (v := ?_) (a' := ?_) #[true, true, true, false, true, true, true, false, true, false, false, false, false, false, false, false, false, false, false, false] rfl rfl (by kernel_rfl) (fun _ _ _ h => h) (Or.inl ⟨by rfl, ?_⟩) ?_ ?_
      rotate_left
      · intro w'
        go_simp
        with_reducible rfl
      rotate_left
      · simp only [Act.put, List.setIfInBounds_toArray, List.set_cons_zero, List.set_cons_succ, i64_w]
        rfl
      refine take_ (i := 9) (N := (some 39)) (v := ?_) (a' := ?_) #[true, true, true, false, true, true, true, false, true, true, false, false, false, false, false, false, false, false, false, false] rfl rfl (by kernel_rfl) (fun _ _ _ h => h) (Or.inl ⟨by rfl, ?_⟩) hHeld ?_ ?_
      rotate_left
      · rintro w' ⟨s0, s1, s2, s3⟩
        go_simp
        with_reducible rfl
      rotate_left
      · simp only [Act.put, List.setIfInBounds_toArray, List.set_cons_zero, List.set_cons_succ, i64_w]
        rfl
      refine pure_ (i := 10) (N := (some 40)) (v := ?_) (a' := ?_) #[true, true, true, false, true, true, true, false, true, true, true, false, false, false, false, false, false, false, false, false] rfl rfl (by kernel_rfl) (fun _ _ _ h => h) (Or.inl ⟨by rfl, ?_⟩) ?_ ?_
      rotate_left
      · intro w'
        go_simp
        with_reducible rfl
      rotate_left
      · simp only [Act.put, List.setIfInBounds_toArray, List.set_cons_zero, List.set_cons_succ, i64_w]
        rfl
      refine take_ (i := 11) (N := (some 41)) (v := ?_) (a' := ?_) #[true, true, true, false, true, true, true, false, true, true, true, true, false, false, false, false, false, false, false, false] rfl rfl (by kernel_rfl) (fun _ _ _ h => h) (Or.inl ⟨by rfl, ?_⟩) hHeld ?_ ?_
      rotate_left
      · rintro w' ⟨s0, s1, s2, s3⟩
        go_simp
        with_reducible rfl
      rotate_left
      · simp only [Act.put, List.setIfInBounds_toArray, List.set_cons_zero, List.set_cons_succ, i64_w]
        rfl
      refine pure_ (i := 13) (N := (some 43)) (v := ?_) (a' := ?_) #[true, true, true, false, true, true, true, false, true, true, true, true, false, true, false, false, false, false, false, false] rfl rfl (by kernel_rfl) (fun _ _ _ h => h) (Or.inl ⟨by rfl, ?_⟩) ?_ ?_
      rotate_left
      · intro w'
        go_simp
        with_reducible rfl
      rotate_left
      · simp only [Act.put, List.setIfInBounds_toArray, List.set_cons_zero, List.set_cons_succ, i64_w]
        rfl
      refine take_ (i := 14) (N := (some 44)) (v := ?_) (a' := ?_) #[true, true, true, false, true, true, true, false, true, true, true, true, false, true, true, false, false, false, false, false] rfl rfl (by kernel_rfl) (fun _ _ _ h => h) (Or.inl ⟨by rfl, ?_⟩) hHeld ?_ ?_
      rotate_left
      · rintro w' ⟨s0, s1, s2, s3⟩
        go_simp
        with_reducible rfl
      rotate_left
      · simp only [Act.put, List.setIfInBounds_toArray, List.set_cons_zero, List.set_cons_succ, i64_w]
        rfl
      refine one_ (i := 3) (N := (some 33)) #[true, true, true, true, true, true, true, false, true, true, true, true, false, true, true, false, false, false, false, false] rfl rfl (by kernel_rfl) (by decide) (fun K hK => ?_)
      refine goes_ Try.func35 (by kernel_rfl) rfl #[.int .i64 e, .int .i64 4] (by rfl) rfl rfl (by first | rfl | (simp only [List.map_toArray, List.map_cons, List.map_nil]; rfl)) ?_
      refine (sput_c e 4 (by omega) (by omega) _).mono ?_
      rintro e' w3 ⟨A3, c3_, rfl, hc3, hC3, hb3⟩
      have HB3 := hid (Below.trans (below_drew (Below.refl wr.heap.size wr)) hb3)
      have HP3 := hid (And.intro hC3 hc3)
      clear hb3 hC3 hc3
      refine ⟨_, rfl, ?_⟩
      refine hK.out _ _ (HS.out _ HB3.out) (fun hHeld => ?_)
      clear hK K
      refine norm_ (a' := ?_) ?_ ?_
      rotate_left
      · show Act.put _ (some 33) _ = _
        simp only [Act.put, List.setIfInBounds_toArray, List.set_cons_zero, List.set_cons_succ, i64_w]
        rfl
      refine one_ (i := 7) (N := (some 37)) #[true, true, true, true, true, true, true, true, true, true, true, true, false, true, true, false, false, false, false, false] rfl rfl (by kernel_rfl) (by decide) (fun K hK => ?_)
      refine goes_ Try.func35 (by kernel_rfl) rfl #[.int .i64 (d.length : Int), .int .i64 4] (by rfl) rfl rfl (by first | rfl | (simp only [List.map_toArray, List.map_cons, List.map_nil]; rfl)) ?_
      refine (sput_c (d.length : Int) 4 (by omega) (by omega) _).mono ?_
      rintro e' w7 ⟨A7, c7_, rfl, hc7, hC7, hb7⟩
      have HB7 := hid (HB3.out.trans (hb7.mono HB3.out.size))
      have HP7 := hid (And.intro hC7 hc7)
      have nP := hid (And.intro (Kd.C_below HP3.out.1 hb7) HP3.out.2)
      clear HP3
      have HP3 := nP
      clear nP
      clear hb7 hC7 hc7
      refine ⟨_, rfl, ?_⟩
      refine hK.out _ _ (HS.out _ HB7.out) (fun hHeld => ?_)
      clear hK K
      refine norm_ (a' := ?_) ?_ ?_
      rotate_left
      · show Act.put _ (some 37) _ = _
        simp only [Act.put, List.setIfInBounds_toArray, List.set_cons_zero, List.set_cons_succ, i64_w]
        rfl
      refine one_ (i := 12) (N := (some 42)) #[true, true, true, true, true, true, true, true, true, true, true, true, true, true, true, false, false, false, false, false] rfl rfl (by kernel_rfl) (by decide) (fun K hK => ?_)
      refine goes_ Try.func35 (by kernel_rfl) rfl #[.int .i64 wq, .int .i64 4] (by rfl) rfl rfl (by first | rfl | (simp only [List.map_toArray, List.map_cons, List.map_nil]; rfl)) ?_
      refine (sput_c wq 4 (by omega) (by omega) _).mono ?_
      rintro e' w12 ⟨A12, c12_, rfl, hc12, hC12, hb12⟩
      have HB12 := hid (HB7.out.trans (hb12.mono HB7.out.size))
      have HP12 := hid (And.intro hC12 hc12)
      have nP := hid (And.intro (Kd.C_below HP3.out.1 hb12) HP3.out.2)
      clear HP3
      have HP3 := nP
      clear nP
      have nP := hid (And.intro (Kd.C_below HP7.out.1 hb12) HP7.out.2)
      clear HP7
      have HP7 := nP
      clear nP
      clear hb12 hC12 hc12
      refine ⟨_, rfl, ?_⟩
      refine hK.out _ _ (HS.out _ HB12.out) (fun hHeld => ?_)
      clear hK K
      refine norm_ (a' := ?_) ?_ ?_
      rotate_left
      · show Act.put _ (some 42) _ = _
        simp only [Act.put, List.setIfInBounds_toArray, List.set_cons_zero, List.set_cons_succ, i64_w]
        rfl
      refine one_ (i := 15) (N := (some 45)) #[true, true, true, true, true, true, true, true, true, true, true, true, true, true, true, true, false, false, false, false] rfl rfl (by kernel_rfl) (by decide) (fun K hK => ?_)
      refine goes_ Try.func35 (by kernel_rfl) rfl #[.int .i64 mo, .int .i64 4] (by rfl) rfl rfl (by first | rfl | (simp only [List.map_toArray, List.map_cons, List.map_nil]; rfl)) ?_
      refine (sput_c mo 4 (by omega) (by omega) _).mono ?_
      rintro e' w15 ⟨A15, c15_, rfl, hc15, hC15, hb15⟩
      have HB15 := hid (HB12.out.trans (hb15.mono HB12.out.size))
      have HP15 := hid (And.intro hC15 hc15)
      have nP := hid (And.intro (Kd.C_below HP3.out.1 hb15) HP3.out.2)
      clear HP3
      have HP3 := nP
      clear nP
      have nP := hid (And.intro (Kd.C_below HP7.out.1 hb15) HP7.out.2)
      clear HP7
      have HP7 := nP
      clear nP
      have nP := hid (And.intro (Kd.C_below HP12.out.1 hb15) HP12.out.2)
      clear HP12
      have HP12 := nP
      clear nP
      clear hb15 hC15 hc15
      refine ⟨_, rfl, ?_⟩
      refine hK.out _ _ (HS.out _ HB15.out) (fun hHeld => ?_)
      clear hK K
      refine norm_ (a' := ?_) ?_ ?_
      rotate_left
      · show Act.put _ (some 45) _ = _
        simp only [Act.put, List.setIfInBounds_toArray, List.set_cons_zero, List.set_cons_succ, i64_w]
        rfl
      refine one_ (i := 16) (N := (some 46)) #[true, true, true, true, true, true, true, true, true, true, true, true, true, true, true, true, true, false, false, false] rfl rfl (by kernel_rfl) (by decide) (fun K hK => ?_)
      go_simp
      have HB16 := hid (HB15.out.alloc HB15.out.size (.cells #[.slice A6 (outS c c.length).length c6, .slice A3 (putS e 4).length c3_, .slice A7 (putS (d.length : Int) 4).length c7_, .slice Ad d.length cd, .slice A12 (putS wq 4).length c12_, .slice A15 (putS mo 4).length c15_] 22))
      refine hK.out _ _ (HS.out _ HB16.out) (fun hHeld => ?_)
      clear hK K
      refine one_ (i := 17) (N := (some 47)) #[true, true, true, true, true, true, true, true, true, true, true, true, true, true, true, true, true, true, false, false] rfl rfl (by kernel_rfl) (by decide) (fun K hK => ?_)
      refine goes_ Try.func89 (by kernel_rfl) rfl #[.slice (some ⟨w15.heap.size, 0, none⟩) 6 6] (by rfl) rfl rfl (by first | rfl | (simp only [List.map_toArray, List.map_cons, List.map_nil]; rfl)) ?_
      refine (concat_c (some ⟨w15.heap.size, 0, none⟩) 6 [outS c c.length, putS e 4, putS (d.length : Int) 4, d, putS wq 4, putS mo 4] _ ?_ (by simp) (by simp) ?_).mono ?_
      · refine CL_block (blk_new w15 _) (by simp) (fun j l hj => ?_)
        have q := (Kd.R_reads' hI.out.1).2
        match j, hj with
        | 0, hj => simp at hj; subst hj; exact ⟨A6, c6, rfl, hc6, Kd.C_alloc (Kd.C_below q.2 HB15.out) _⟩
        | 1, hj => simp at hj; subst hj; exact ⟨A3, c3_, rfl, HP3.out.2, Kd.C_alloc HP3.out.1 _⟩
        | 2, hj => simp at hj; subst hj; exact ⟨A7, c7_, rfl, HP7.out.2, Kd.C_alloc HP7.out.1 _⟩
        | 3, hj => simp at hj; subst hj; exact ⟨Ad, cd, rfl, hcd, Kd.C_alloc (Kd.C_below (Kd.C_below HC.out.2 hI.out.2.1) HB15.out) _⟩
        | 4, hj => simp at hj; subst hj; exact ⟨A12, c12_, rfl, HP12.out.2, Kd.C_alloc HP12.out.1 _⟩
        | 5, hj => simp at hj; subst hj; exact ⟨A15, c15_, rfl, HP15.out.2, Kd.C_alloc HP15.out.1 _⟩
        | j + 6, hj => simp at hj
      · have h1 := HM.out
        simp only [List.flatten_cons, List.flatten_nil, List.length_append, List.length_nil, putS4_len, outS_len c c.length (Nat.le_refl _)]
        omega
      rintro e' w17 ⟨v17, rfl, hR17, hb17⟩
      have HB17 := hid (HB16.out.trans (hb17.mono HB16.out.size))
      have HR17 := hid hR17
      clear hR17 hb17
      refine ⟨_, rfl, ?_⟩
      refine hK.out _ _ (HS.out _ HB17.out) (fun hHeld => ?_)
      clear hK K
      refine norm_ (a' := ?_) ?_ ?_
      rotate_left
      · show Act.put _ (some 47) _ = _
        simp only [Act.put, List.setIfInBounds_toArray, List.set_cons_zero, List.set_cons_succ, i64_w]
        rfl
      refine pure_ (i := 18) (N := (some 2)) (v := ?_) (a' := ?_) #[true, true, true, true, true, true, true, true, true, true, true, true, true, true, true, true, true, true, true, false] rfl rfl (by kernel_rfl) (fun _ _ _ h => h) (Or.inl ⟨by rfl, ?_⟩) ?_ ?_
      rotate_left
      · intro w'
        go_simp
        with_reducible rfl
      rotate_left
      · simp only [Act.put, List.setIfInBounds_toArray, List.set_cons_zero, List.set_cons_succ, i64_w]
        rfl
      refine pure_ (i := 19) (N := (some 3)) (v := ?_) (a' := ?_) #[true, true, true, true, true, true, true, true, true, true, true, true, true, true, true, true, true, true, true, true] rfl rfl (by kernel_rfl) (fun _ _ _ h => h) (Or.inl ⟨by rfl, ?_⟩) ?_ ?_
      rotate_left
      · intro w'
        go_simp
        with_reducible rfl
      rotate_left
      · simp only [Act.put, List.setIfInBounds_toArray, List.set_cons_zero, List.set_cons_succ, i64_w]
        rfl
      refine done_ (by kernel_rfl) ?_
      go_wp2
      go_ret2
      have hz := HB15.out.size
      have hz2 := hI.out.2.1.size
      refine ⟨v17, rfl, ?_, hI.out.2.1.trans (HB17.out.mono hz2)⟩
      have h1 := Kd.R_lower (base' := w.heap.size) HR17.out (by simp; omega)
      have h2 : [outS c c.length, putS e 4, putS (d.length : Int) 4, d, putS wq 4, putS mo 4].flatten = imgW c e d wq mo := by
        rw [← outS_all]
        simp [List.flatten]
      rw [h2] at h1
      exact h1
end Go.Proofs.Ytmcfihpbiilbcaa.H
