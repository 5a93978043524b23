/- The walks of the laws of layer 5. -/
import Derived.Test.YtkolcgnembaghaaStoreR
namespace Go.Proofs.Ytkolcgnembaghaa.H
open Go.RowKit Go.Proofs.YtkolcgnembaghaaW.PrintWords Go.Proofs.YtkolcgnembaghaaW.PrintLast Go.Proofs.YtkolcgnembaghaaW.PrintMore Go.Proofs.Ytkolcgnembaghaa.F
set_option linter.unusedVariables false
set_option linter.unusedSimpArgs false

theorem kb {W w' : World} {B : Nat} {o : Obj} (hb : Below W.heap.size W w') (h : W.heap[B]? = some o) : w'.heap[B]? = some o := (hb.block B (Array.getElem?_eq_some_iff.1 h).1).trans h
theorem ka {W : World} {B : Nat} {o o' : Obj} (h : W.heap[B]? = some o) : (W.alloc o').heap[B]? = some o := (Below.heap_alloc W o' B (Array.getElem?_eq_some_iff.1 h).1).trans h

theorem load_n (n : Int) (A : Option Addr) (c m : Nat) (l : List Int) (at_ : Int) (wide : Bool) (w : World) (hm : l.length = m) (hC : Kd.C (Kd.int .u8) w A m l) (hc : m ≤ c) (hB : Bytes l) (hl : m ≤ 4611686018427387904) (h0 : 0 ≤ at_) (h1 : at_ ≤ 4294967295) :
    Calls Try.prog 33 #[.agg #[.int .i64 n, .slice A m c], .int .u32 at_, .bool wide] w fun e w' => e = .returned (.tuple #[.int .u32 (loadS l at_ wide).1, .bool (loadS l at_ wide).2]) ∧ Below w.heap.size w w' := by
  subst hm; exact load_c n A c l at_ wide w hC hc hB hl h0 h1
theorem msame_n (n m : Int) (A B : Option Addr) (c d p q : Nat) (l k : List Int) (w : World) (hp : l.length = p) (hq : k.length = q) (hC : Kd.C (Kd.int .u8) w A p l) (hc : p ≤ c) (hD : Kd.C (Kd.int .u8) w B q k) (hd : q ≤ d) (hl : p ≤ 4611686018427387904) :
    Calls Try.prog 37 #[.agg #[.int .i64 n, .slice A p c], .agg #[.int .i64 m, .slice B q d]] w fun e w' => e = .returned (.bool (decide (n = m ∧ l = k))) ∧ Below w.heap.size w w' := by
  subst hp; subst hq; exact msame_c n m A B c d l k w hC hc hD hd hl
/-- What a save leaves: a row of its own. -/
def Own (w : World) (base g m cap : Nat) (l : List Int) : Prop :=
  l.length = m ∧ base ≤ g ∧ m ≤ cap ∧ cap ≤ maxLen ∧ ∃ L : List Value, w.heap[g]? = some (.cells L.toArray 5 (0, 0)) ∧ L.length = cap ∧ L.take m = encs (Value.int .u8) l
theorem Own.reads {w : World} {base g m cap : Nat} {l : List Int} (h : Own w base g m cap l) : Kd.C (Kd.int .u8) w (some ⟨g, 0, none⟩) m l := by
  obtain ⟨rfl, h1, h2, h3, L, h4, h5, h6⟩ := h
  have h3' : cap ≤ 9223372036854775807 := h3
  refine C_block (l := l) h4 (by omega) fun j p hj => ?_
  have hj' : j < l.length := (List.getElem?_eq_some_iff.1 hj).1
  have h7 : (L.take l.length)[j]? = some (Value.int .u8 p) := by rw [h6]; simp [encs, hj]
  rw [List.getElem?_take_of_lt hj'] at h7
  simpa using h7
theorem Own.keep {w w' : World} {base g m cap : Nat} {l : List Int} (h : Own w base g m cap l) (hb : Below w.heap.size w w') : Own w' base g m cap l := by
  obtain ⟨h0, h1, h2, h3, L, h4, h5, h6⟩ := h
  exact ⟨h0, h1, h2, h3, L, kb hb h4, h5, h6⟩
theorem save_y (n : Int) (A : Option Addr) (c m : Nat) (l : List Int) (at_ w0 : Int) (wide : Bool) (w : World) (hl0 : l.length = m) (hC : Kd.C (Kd.int .u8) w A m l) (hc : m ≤ c) (hl : m ≤ 140737488351232) (h0 : 0 ≤ at_) (h1 : at_ ≤ 4294967295) (hw0 : 0 ≤ w0) (hw1 : w0 ≤ 4294967295) (hm : mayS n m at_ wide = true) :
    Calls Try.prog 35 #[.agg #[.int .i64 n, .slice A m c], .int .u32 at_, .int .u32 w0, .bool wide] w fun e w' => ∃ g cap, e = .returned (.tuple #[.agg #[.int .i64 n, .slice (some ⟨g, 0, none⟩) m cap], .bool true]) ∧ m ≤ cap ∧ Hid (Own w' w.heap.size g m cap (putAt l (at_ - 65536).toNat (bsS w0 wide))) ∧ Below w.heap.size w w' := by
  subst hl0
  refine (save_yes n A c l at_ w0 wide w hC hc hl h0 h1 hw0 hw1 hm).mono ?_
  rintro e w' ⟨v, rfl, hr, hb⟩
  have ho : okS l.length at_ wide = true := by unfold mayS at hm; simp at hm; exact hm.1
  obtain ⟨o1, o2, o3⟩ := okS_true ho
  have hs := szS_range wide
  have hlen : (putAt l (at_ - 65536).toNat (bsS w0 wide)).length = l.length := putAt_length (by rw [bsS_length]; omega)
  obtain ⟨g, cap, L, rfl, a1, a2, a3, a4, a5, a6⟩ := RB_form hr (by omega)
  rw [hlen] at a3 a6 ⊢
  exact ⟨g, cap, rfl, a3, ⟨hlen, a1, a3, a4, L, a2, a5, a6⟩, hb⟩
theorem rsave_y (n : Int) (A : Option Addr) (c m : Nat) (l : List Int) (at_ w0 : Int) (wide : Bool) (w : World) (hl0 : l.length = m) (hC : Kd.C (Kd.int .u8) w A m l) (hc : m ≤ c) (hB : Bytes l) (hl : m ≤ 140737488351232) (h0 : 0 ≤ at_) (h1 : at_ ≤ 4294967295) (hw0 : 0 ≤ w0) (hw1 : w0 ≤ 4294967295) (hm : mayS n m at_ wide = true) :
    Calls Try.prog 36 #[.agg #[.int .i64 n, .slice A m c], .int .u32 at_, .int .u32 w0, .bool wide] w fun e w' => ∃ g cap, e = .returned (.tuple #[.agg #[.int .i64 n, .slice (some ⟨g, 0, none⟩) m cap], .bool true]) ∧ m ≤ cap ∧ Hid (Own w' w.heap.size g m cap (putAt l (at_ - 65536).toNat (bsS w0 wide))) ∧ Below w.heap.size w w' := by
  subst hl0
  refine (rsave_yes n A c l at_ w0 wide w hC hc hB hl h0 h1 hw0 hw1 hm).mono ?_
  rintro e w' ⟨v, rfl, hr, hb⟩
  have ho : okS l.length at_ wide = true := by unfold mayS at hm; simp at hm; exact hm.1
  obtain ⟨o1, o2, o3⟩ := okS_true ho
  have hs := szS_range wide
  have hlen : (putAt l (at_ - 65536).toNat (bsS w0 wide)).length = l.length := putAt_length (by rw [bsS_length]; omega)
  obtain ⟨g, cap, L, rfl, a1, a2, a3, a4, a5, a6⟩ := RB_form hr (by omega)
  rw [hlen] at a3 a6 ⊢
  exact ⟨g, cap, rfl, a3, ⟨hlen, a1, a3, a4, L, a2, a5, a6⟩, hb⟩
theorem save_n (n : Int) (A : Option Addr) (c m : Nat) (l : List Int) (at_ w0 : Int) (wide : Bool) (w : World) (hl0 : l.length = m) (hC : Kd.C (Kd.int .u8) w A m l) (hc : m ≤ c) (hl : m ≤ 140737488351232) (h0 : 0 ≤ at_) (h1 : at_ ≤ 4294967295) (hm : mayS n m at_ wide = false) :
    Calls Try.prog 35 #[.agg #[.int .i64 n, .slice A m c], .int .u32 at_, .int .u32 w0, .bool wide] w fun e w' => e = .returned (.tuple #[.agg #[.int .i64 n, .slice A m c], .bool false]) ∧ Below w.heap.size w w' := by
  subst hl0; exact save_no n A c l at_ w0 wide w hC hc hl h0 h1 hm
theorem rsave_n (n : Int) (A : Option Addr) (c m : Nat) (l : List Int) (at_ w0 : Int) (wide : Bool) (w : World) (hl0 : l.length = m) (hC : Kd.C (Kd.int .u8) w A m l) (hc : m ≤ c) (hB : Bytes l) (h0 : 0 ≤ at_) (h1 : at_ ≤ 4294967295) (hm : mayS n m at_ wide = false) :
    Calls Try.prog 36 #[.agg #[.int .i64 n, .slice A m c], .int .u32 at_, .int .u32 w0, .bool wide] w fun e w' => e = .returned (.tuple #[.agg #[.int .i64 n, .slice A m c], .bool false]) ∧ Below w.heap.size w w' := by
  subst hl0; exact rsave_no n A c l at_ w0 wide w hC hc hB h0 h1 hm

def z8 : List Int := [0, 0, 0, 0, 0, 0, 0, 0]
def p8 : List Int := [0, 0, 0, 0, 4, 3, 2, 1]
theorem z8_read {w : World} {g : Nat} (h : w.heap[g]? = some (.cells #[.int .u8 0, .int .u8 0, .int .u8 0, .int .u8 0, .int .u8 0, .int .u8 0, .int .u8 0, .int .u8 0] 5 (0, 0))) : Kd.C (Kd.int .u8) w (some ⟨g, 0, none⟩) 8 z8 :=
  C_block (l := z8) h (by decide) fun j p hj => by
    unfold z8 at hj
    match j, hj with
    | 0, hj => simpa using hj
    | 1, hj => simpa using hj
    | 2, hj => simpa using hj
    | 3, hj => simpa using hj
    | 4, hj => simpa using hj
    | 5, hj => simpa using hj
    | 6, hj => simpa using hj
    | 7, hj => simpa using hj
    | j + 8, hj => simp at hj
theorem p8_eq : putAt z8 ((65540 : Int) - 65536).toNat (bsS 16909060 true) = p8 := by decide +kernel

set_option maxRecDepth 100000 in
theorem awake5_c (w : World) : Calls Try.prog 32 #[] w fun e w' => e = .returned (.bool true) ∧ Below w.heap.size w w' := by
  have hmk : ∀ w, (Instr.makeSlice 23 (.int .i64 8) (.int .i64 8)).run Try.prog w = .ok (.slice (some ⟨w.heap.size, 0, none⟩) 8 8) (w.alloc (.cells #[.int .u8 0, .int .u8 0, .int .u8 0, .int .u8 0, .int .u8 0, .int .u8 0, .int .u8 0, .int .u8 0] 5)) := fun _ => by kernel_rfl
  have l1 : (loadS p8 65541 false).1 = 3 := by decide +kernel
  have l2 : (loadS p8 65541 false).2 = true := by decide +kernel
  go_enter Try.func32, Try.ntmps32
  go_wp2_with fail
  have z0 := hid (ka (o' := .cells #[.int .i64 4, .slice (some ⟨w.heap.size, 0, none⟩) 8 8] 41) (heap_alloc_new w (.cells #[.int .u8 0, .int .u8 0, .int .u8 0, .int .u8 0, .int .u8 0, .int .u8 0, .int .u8 0, .int .u8 0] 5)))
  have m0 := hid (blk_at1 w (.cells #[.int .u8 0, .int .u8 0, .int .u8 0, .int .u8 0, .int .u8 0, .int .u8 0, .int .u8 0, .int .u8 0] 5) (.cells #[.int .i64 4, .slice (some ⟨w.heap.size, 0, none⟩) 8 8] 41))
  refine (save_y 4 _ 8 8 z8 65540 16909060 true _ rfl (z8_read z0.out) (by omega) (by omega) (by omega) (by omega) (by omega) (by omega) (by decide +kernel)).mono ?_
  rintro e w1 ⟨g, cap, rfl, hcap, hown, hb1⟩
  have z1 := hid (kb hb1 z0.out)
  have m1 := hid (kb hb1 m0.out)
  have B1 := hid (bthen (below_alloc (below_alloc (Below.refl w.heap.size w) _) _) hb1)
  obtain ⟨m10, m11, m12, m13, m14⟩ := blk2 m1.out
  clear hb1 z0 m0
  go_wp2_with fail
  refine (save_n 4 _ 8 8 z8 65536 1 true _ rfl (z8_read (ka z1.out)) (by omega) (by omega) (by omega) (by omega) (by decide +kernel)).mono ?_
  rintro e w2 ⟨rfl, hb2⟩
  have z2 := hid (kb hb2 (ka z1.out))
  have m2 := hid (kb hb2 (ka m1.out))
  have n2 := hid (kb hb2 (heap_alloc_new w1 _))
  have B2 := hid (bthen (below_alloc B1.out _) hb2)
  have O2 := hid ((hown.out.keep (below_alloc (Below.refl _ _) _)).keep hb2)
  obtain ⟨n20, n21, n22, n23, n24⟩ := blk2 n2.out
  clear hb2 z1 m1 hown m10 m11 m12 m13 m14
  go_wp2_with fail
  have O2' := O2.out
  rw [p8_eq] at O2'
  have O3 := hid O2'
  clear O2 O2'
  refine (load_n 4 _ cap 8 p8 65541 false _ rfl ((O3.out.keep (below_alloc (Below.refl _ _) _)).reads) hcap (by unfold Bytes; decide) (by omega) (by omega) (by omega)).mono ?_
  rintro e w3 ⟨rfl, hb3⟩
  have z3 := kb hb3 (ka z2.out)
  have m3 := hid (kb hb3 (ka m2.out))
  have n3 := hid (kb hb3 (ka n2.out))
  have B3 := hid (bthen (below_alloc B2.out _) hb3)
  have O4 := hid ((O3.out.keep (below_alloc (Below.refl _ _) _)).keep hb3)
  obtain ⟨n30, n31, n32, n33, n34⟩ := blk2 n3.out
  obtain ⟨m30, m31, m32, m33, m34⟩ := blk2 m3.out
  have hz : w3.cell? ⟨w.heap.size, 4, none⟩ = some (.int .u8 0) := by simp [World.cell?, z3]
  obtain ⟨_, _, _, _, L, hL, hLl, hLt⟩ := O4.out
  have hg : w3.cell? ⟨g, 4, none⟩ = some (.int .u8 4) := by
    have h7 : (L.take 8)[4]? = some (Value.int .u8 4) := by rw [hLt]; rfl
    rw [List.getElem?_take_of_lt (by omega)] at h7
    simp [World.cell?, hL, h7]
  clear hb3 z2 m2 n2 z3 O3 n20 n21 n22 n23 n24 hL hLl hLt
  go_wp2
  go_ret
  exact ⟨rfl, B3.out⟩

set_option maxRecDepth 100000 in
theorem loads_walk (n : Int) (A : Option Addr) (c : Nat) (l : List Int) (at_ : Int) (wide : Bool) (w : World) (hC : Kd.C (Kd.int .u8) w A l.length l) (hc : l.length ≤ c) (hB : Bytes l) (hm : c ≤ maxLen) (h0 : 0 ≤ at_) (h1 : at_ ≤ 4294967295) :
    Calls Try.prog 8 #[.agg #[.int .i64 n, .slice A l.length c], .int .u32 at_, .bool wide] w fun e w' => e = .returned (.bool true) ∧ Below w.heap.size w w' := by
  have HC := hid hC
  have HBy := hid hB
  have hlm : l.length ≤ 9223372036854775807 := Nat.le_trans hc hm
  clear hC hB
  by_cases hlen : l.length ≤ 2000
  · have HI : decide (2000 < (l.length : Int)) = false := by simp; omega
    go_enter Try.func8, Try.ntmps8
    go_wp2_with fail
    refine (awake5_c _).mono ?_
    rintro e w1 ⟨rfl, hb1⟩
    have m1 := hid (kb hb1 (heap_alloc_new w _))
    have B1 := hid (bthen (below_alloc (Below.refl w.heap.size w) _) hb1)
    obtain ⟨m10, m11, m12, m13, m14⟩ := blk2 m1.out
    clear hb1
    go_wp2_with fail
    refine (load_n n A c l.length l at_ wide _ rfl (Kd.C_below HC.out B1.out) hc HBy.out (by omega) h0 h1).mono ?_
    rintro e w2 ⟨rfl, hb2⟩
    have m2 := hid (kb hb2 m1.out)
    have B2 := hid (bthen B1.out hb2)
    clear hb2 m10 m11 m12 m13 m14
    obtain ⟨m10, m11, m12, m13, m14⟩ := blk2 m2.out
    go_wp2_with fail
    refine (rload_c n A c l at_ wide _ (Kd.C_below HC.out B2.out) hc HBy.out h0 h1).mono ?_
    rintro e w3 ⟨rfl, hb3⟩
    have B3 := hid (bthen B2.out hb3)
    clear hb3
    go_wp2
    go_ret
    exact ⟨by simp, B3.out⟩
  · have HI : decide (2000 < (l.length : Int)) = true := by simp; omega
    go_enter Try.func8, Try.ntmps8
    go_wp2_with fail
    refine (awake5_c _).mono ?_
    rintro e w1 ⟨rfl, hb1⟩
    have m1 := hid (kb hb1 (heap_alloc_new w _))
    have B1 := hid (bthen (below_alloc (Below.refl w.heap.size w) _) hb1)
    obtain ⟨m10, m11, m12, m13, m14⟩ := blk2 m1.out
    clear hb1
    go_wp2_with fail
    refine (awake5_c _).mono ?_
    rintro e w2 ⟨rfl, hb2⟩
    have B2 := hid (bthen B1.out hb2)
    clear hb2
    go_wp2
    go_ret
    exact ⟨rfl, B2.out⟩

set_option maxRecDepth 100000 in
theorem saves_walk (n : Int) (A : Option Addr) (c : Nat) (l : List Int) (at_ w0 : Int) (wide : Bool) (w : World) (hC : Kd.C (Kd.int .u8) w A l.length l) (hc : l.length ≤ c) (hB : Bytes l) (hm : c ≤ maxLen) (h0 : 0 ≤ at_) (h1 : at_ ≤ 4294967295) (hw0 : 0 ≤ w0) (hw1 : w0 ≤ 4294967295) :
    Calls Try.prog 9 #[.agg #[.int .i64 n, .slice A l.length c], .int .u32 at_, .int .u32 w0, .bool wide] w fun e w' => e = .returned (.bool true) ∧ Below w.heap.size w w' := by
  have HC := hid hC
  have HBy := hid hB
  have hlm : l.length ≤ 9223372036854775807 := Nat.le_trans hc hm
  clear hC hB
  by_cases hlen : l.length ≤ 2000
  · have HI : decide (2000 < (l.length : Int)) = false := by simp; omega
    cases hmay : mayS n l.length at_ wide
    · have HM := hid hmay
      clear hmay
      go_enter Try.func9, Try.ntmps9
      go_wp2_with fail
      refine (awake5_c _).mono ?_
      rintro e w1 ⟨rfl, hb1⟩
      have m1 := hid (kb hb1 (heap_alloc_new w _))
      have B1 := hid (bthen (below_alloc (Below.refl w.heap.size w) _) hb1)
      obtain ⟨m10, m11, m12, m13, m14⟩ := blk2 m1.out
      clear hb1
      go_wp2_with fail
      refine (save_n n A c l.length l at_ w0 wide _ rfl (Kd.C_below HC.out B1.out) hc (by omega) h0 h1 HM.out).mono ?_
      rintro e w2 ⟨rfl, hb2⟩
      have m2 := hid (kb hb2 m1.out)
      have B2 := hid (bthen B1.out hb2)
      clear hb2 m10 m11 m12 m13 m14
      obtain ⟨m10, m11, m12, m13, m14⟩ := blk2 m2.out
      go_wp2_with fail
      refine (rsave_n n A c l.length l at_ w0 wide _ rfl (Kd.C_below HC.out (below_alloc B2.out _)) hc HBy.out h0 h1 HM.out).mono ?_
      rintro e w3 ⟨rfl, hb3⟩
      have m3 := hid (kb hb3 (ka m2.out))
      have n3 := hid (kb hb3 (heap_alloc_new w2 _))
      have B3 := hid (bthen (below_alloc B2.out _) hb3)
      clear hb3 m10 m11 m12 m13 m14
      obtain ⟨n10, n11, n12, n13, n14⟩ := blk2 n3.out
      go_wp2_with fail
      refine (msame_n n n A A c c l.length l.length l l _ rfl rfl (Kd.C_below HC.out (below_alloc B3.out _)) hc (Kd.C_below HC.out (below_alloc B3.out _)) hc (by omega)).mono ?_
      rintro e w4 ⟨rfl, hb4⟩
      have B4 := hid (bthen (below_alloc B3.out _) hb4)
      clear hb4
      go_wp2
      go_ret
      exact ⟨by simp, B4.out⟩
    · have HM := hid hmay
      clear hmay
      go_enter Try.func9, Try.ntmps9
      go_wp2_with fail
      refine (awake5_c _).mono ?_
      rintro e w1 ⟨rfl, hb1⟩
      have m1 := hid (kb hb1 (heap_alloc_new w _))
      have B1 := hid (bthen (below_alloc (Below.refl w.heap.size w) _) hb1)
      obtain ⟨m10, m11, m12, m13, m14⟩ := blk2 m1.out
      clear hb1
      go_wp2_with fail
      refine (save_y n A c l.length l at_ w0 wide _ rfl (Kd.C_below HC.out B1.out) hc (by omega) h0 h1 hw0 hw1 HM.out).mono ?_
      rintro e w2 ⟨g, cap, rfl, hcap, hown, hb2⟩
      have m2 := hid (kb hb2 m1.out)
      have B2 := hid (bthen B1.out hb2)
      clear hb2 m10 m11 m12 m13 m14
      obtain ⟨m10, m11, m12, m13, m14⟩ := blk2 m2.out
      go_wp2_with fail
      refine (rsave_y n A c l.length l at_ w0 wide _ rfl (Kd.C_below HC.out (below_alloc B2.out _)) hc HBy.out (by omega) h0 h1 hw0 hw1 HM.out).mono ?_
      rintro e w3 ⟨g', cap', rfl, hcap', hown', hb3⟩
      have m3 := hid (kb hb3 (ka m2.out))
      have n3 := hid (kb hb3 (heap_alloc_new w2 _))
      have B3 := hid (bthen (below_alloc B2.out _) hb3)
      have O3 := hid ((hown.out.keep (below_alloc (Below.refl _ _) _)).keep hb3)
      clear hb3 m10 m11 m12 m13 m14 hown
      obtain ⟨n10, n11, n12, n13, n14⟩ := blk2 n3.out
      go_wp2_with fail
      refine (msame_n n n _ _ cap cap' l.length l.length _ _ _ O3.out.1 hown'.out.1 ((O3.out.keep (below_alloc (Below.refl _ _) _)).reads) hcap ((hown'.out.keep (below_alloc (Below.refl _ _) _)).reads) hcap' (by omega)).mono ?_
      rintro e w4 ⟨rfl, hb4⟩
      have B4 := hid (bthen (below_alloc B3.out _) hb4)
      clear hb4
      go_wp2
      go_ret
      exact ⟨by simp, B4.out⟩
  · have HI : decide (2000 < (l.length : Int)) = true := by simp; omega
    go_enter Try.func9, Try.ntmps9
    go_wp2_with fail
    refine (awake5_c _).mono ?_
    rintro e w1 ⟨rfl, hb1⟩
    have m1 := hid (kb hb1 (heap_alloc_new w _))
    have B1 := hid (bthen (below_alloc (Below.refl w.heap.size w) _) hb1)
    obtain ⟨m10, m11, m12, m13, m14⟩ := blk2 m1.out
    clear hb1
    go_wp2_with fail
    refine (awake5_c _).mono ?_
    rintro e w2 ⟨rfl, hb2⟩
    have B2 := hid (bthen B1.out hb2)
    clear hb2
    go_wp2
    go_ret
    exact ⟨rfl, B2.out⟩
end Go.Proofs.Ytkolcgnembaghaa.H
