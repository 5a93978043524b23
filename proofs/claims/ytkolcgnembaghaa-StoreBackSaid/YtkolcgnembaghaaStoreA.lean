/- The walks of the laws of layer 5: StoreApart. -/
import Derived.Test.YtkolcgnembaghaaStoreL
import Derived.Test.YtkolcgnembaghaaStoreN
namespace Go.Proofs.Ytkolcgnembaghaa.H
open Go.RowKit Go.Proofs.YtkolcgnembaghaaW.PrintWords Go.Proofs.YtkolcgnembaghaaW.PrintLast Go.Proofs.YtkolcgnembaghaaW.PrintMore Go.Proofs.Ytkolcgnembaghaa.F
set_option linter.unusedVariables false
set_option linter.unusedSimpArgs false
theorem mayS_ok {n : Int} {len : Nat} {at_ : Int} {wide : Bool} (h : mayS n len at_ wide = true) : okS len at_ wide = true := by unfold mayS at h; simp at h; exact h.1
set_option maxRecDepth 100000 in
theorem apart_nn (n : Int) (A : Option Addr) (c : Nat) (l : List Int) (a b x y : Int) (w : World) (hC : Kd.C (Kd.int .u8) w A l.length l) (hc : l.length ≤ c) (hB : Bytes l) (hm : c ≤ maxLen) (a0 : 0 ≤ a) (a1 : a ≤ 4294967295) (b0 : 0 ≤ b) (b1 : b ≤ 4294967295) (x0 : 0 ≤ x) (x1 : x ≤ 4294967295) (y0 : 0 ≤ y) (y1 : y ≤ 4294967295) (hlen : l.length ≤ 2000) (HM1 : Hid (mayS n l.length a true = false)) (HM2 : Hid (mayS n l.length b true = false)) :
    Calls Try.prog 12 #[.agg #[.int .i64 n, .slice A l.length c], .int .u32 a, .int .u32 b, .int .u32 x, .int .u32 y] w fun e w' => e = .returned (.bool true) ∧ Below w.heap.size w w' := by
  have HC := hid hC
  have HBy := hid hB
  have hlm : l.length ≤ 9223372036854775807 := Nat.le_trans hc hm
  clear hC hB
  have HI : decide (2000 < (l.length : Int)) = false := by simp; omega
  go_enter Try.func12, Try.ntmps12
  go_wp2_with fail
  refine (awake5_c _).mono ?_
  rintro e w1 ⟨rfl, hb1⟩
  have m1 := hid (kb hb1 (heap_alloc_new w _))
  have B1 := hid (bthen (below_alloc (Below.refl w.heap.size w) _) hb1)
  obtain ⟨m10, m11, m12, m13, m14⟩ := blk2 m1.out
  clear hb1
  go_wp2_with fail
  refine (save_n n A c l.length l a x true _ rfl (Kd.C_below HC.out B1.out) hc (by omega) a0 a1 HM1.out).mono ?_
  rintro e w2 ⟨rfl, hb2⟩
  have n2 := hid (heap_alloc_new w2 (.cells #[.int .i64 n, .slice A l.length c] 41))
  have B2 := hid (bthen B1.out hb2)
  clear hb2 m10 m11 m12 m13 m14
  obtain ⟨n10, n11, n12, n13, n14⟩ := blk2 n2.out
  go_wp2_with fail
  refine (save_n n A c l.length l b y true _ rfl (Kd.C_below HC.out (below_alloc B2.out _)) hc (by omega) b0 b1 HM2.out).mono ?_
  rintro e w3 ⟨rfl, hb3⟩
  have B3 := hid (bthen (below_alloc B2.out _) hb3)
  clear hb3
  go_wp2
  go_ret
  exact ⟨rfl, by repeat (first | exact B3.out | refine below_alloc ?_ _)⟩

set_option maxRecDepth 100000 in
theorem apart_ny (n : Int) (A : Option Addr) (c : Nat) (l : List Int) (a b x y : Int) (w : World) (hC : Kd.C (Kd.int .u8) w A l.length l) (hc : l.length ≤ c) (hB : Bytes l) (hm : c ≤ maxLen) (a0 : 0 ≤ a) (a1 : a ≤ 4294967295) (b0 : 0 ≤ b) (b1 : b ≤ 4294967295) (x0 : 0 ≤ x) (x1 : x ≤ 4294967295) (y0 : 0 ≤ y) (y1 : y ≤ 4294967295) (hlen : l.length ≤ 2000) (HM1 : Hid (mayS n l.length a true = false)) (HM2 : Hid (mayS n l.length b true = true)) :
    Calls Try.prog 12 #[.agg #[.int .i64 n, .slice A l.length c], .int .u32 a, .int .u32 b, .int .u32 x, .int .u32 y] w fun e w' => e = .returned (.bool true) ∧ Below w.heap.size w w' := by
  have HC := hid hC
  have HBy := hid hB
  have hlm : l.length ≤ 9223372036854775807 := Nat.le_trans hc hm
  clear hC hB
  have HI : decide (2000 < (l.length : Int)) = false := by simp; omega
  go_enter Try.func12, Try.ntmps12
  go_wp2_with fail
  refine (awake5_c _).mono ?_
  rintro e w1 ⟨rfl, hb1⟩
  have m1 := hid (kb hb1 (heap_alloc_new w _))
  have B1 := hid (bthen (below_alloc (Below.refl w.heap.size w) _) hb1)
  obtain ⟨m10, m11, m12, m13, m14⟩ := blk2 m1.out
  clear hb1
  go_wp2_with fail
  refine (save_n n A c l.length l a x true _ rfl (Kd.C_below HC.out B1.out) hc (by omega) a0 a1 HM1.out).mono ?_
  rintro e w2 ⟨rfl, hb2⟩
  have n2 := hid (heap_alloc_new w2 (.cells #[.int .i64 n, .slice A l.length c] 41))
  have B2 := hid (bthen B1.out hb2)
  clear hb2 m10 m11 m12 m13 m14
  obtain ⟨n10, n11, n12, n13, n14⟩ := blk2 n2.out
  go_wp2_with fail
  refine (save_y n A c l.length l b y true _ rfl (Kd.C_below HC.out (below_alloc B2.out _)) hc (by omega) b0 b1 y0 y1 HM2.out).mono ?_
  rintro e w3 ⟨g', cap', rfl, hcap', hown', hb3⟩
  have B3 := hid (bthen (below_alloc B2.out _) hb3)
  clear hb3
  go_wp2
  go_ret
  exact ⟨rfl, by repeat (first | exact B3.out | refine below_alloc ?_ _)⟩

set_option maxRecDepth 100000 in
theorem apart_yn (n : Int) (A : Option Addr) (c : Nat) (l : List Int) (a b x y : Int) (w : World) (hC : Kd.C (Kd.int .u8) w A l.length l) (hc : l.length ≤ c) (hB : Bytes l) (hm : c ≤ maxLen) (a0 : 0 ≤ a) (a1 : a ≤ 4294967295) (b0 : 0 ≤ b) (b1 : b ≤ 4294967295) (x0 : 0 ≤ x) (x1 : x ≤ 4294967295) (y0 : 0 ≤ y) (y1 : y ≤ 4294967295) (hlen : l.length ≤ 2000) (HM1 : Hid (mayS n l.length a true = true)) (HM2 : Hid (mayS n l.length b true = false)) :
    Calls Try.prog 12 #[.agg #[.int .i64 n, .slice A l.length c], .int .u32 a, .int .u32 b, .int .u32 x, .int .u32 y] w fun e w' => e = .returned (.bool true) ∧ Below w.heap.size w w' := by
  have HC := hid hC
  have HBy := hid hB
  have hlm : l.length ≤ 9223372036854775807 := Nat.le_trans hc hm
  clear hC hB
  have HI : decide (2000 < (l.length : Int)) = false := by simp; omega
  go_enter Try.func12, Try.ntmps12
  go_wp2_with fail
  refine (awake5_c _).mono ?_
  rintro e w1 ⟨rfl, hb1⟩
  have m1 := hid (kb hb1 (heap_alloc_new w _))
  have B1 := hid (bthen (below_alloc (Below.refl w.heap.size w) _) hb1)
  obtain ⟨m10, m11, m12, m13, m14⟩ := blk2 m1.out
  clear hb1
  go_wp2_with fail
  refine (save_y n A c l.length l a x true _ rfl (Kd.C_below HC.out B1.out) hc (by omega) a0 a1 x0 x1 HM1.out).mono ?_
  rintro e w2 ⟨g, cap, rfl, hcap, hown, hb2⟩
  have n2 := hid (heap_alloc_new w2 (.cells #[.int .i64 n, .slice (some ⟨g, 0, none⟩) l.length cap] 41))
  have B2 := hid (bthen B1.out hb2)
  have O2 := hid (hown.out.keep (below_alloc (Below.refl _ _) (.cells #[.int .i64 n, .slice (some ⟨g, 0, none⟩) l.length cap] 41)))
  clear hb2 m10 m11 m12 m13 m14 hown
  obtain ⟨n10, n11, n12, n13, n14⟩ := blk2 n2.out
  go_wp2_with fail
  refine (save_n n _ cap l.length _ b y true _ O2.out.1 O2.out.reads hcap (by omega) b0 b1 HM2.out).mono ?_
  rintro e w3 ⟨rfl, hb3⟩
  have B3 := hid (bthen (below_alloc B2.out _) hb3)
  clear hb3
  go_wp2
  go_ret
  exact ⟨rfl, by repeat (first | exact B3.out | refine below_alloc ?_ _)⟩

set_option maxRecDepth 100000 in
theorem apart_yy (n : Int) (A : Option Addr) (c : Nat) (l : List Int) (a b x y : Int) (w : World) (hC : Kd.C (Kd.int .u8) w A l.length l) (hc : l.length ≤ c) (hB : Bytes l) (hm : c ≤ maxLen) (a0 : 0 ≤ a) (a1 : a ≤ 4294967295) (b0 : 0 ≤ b) (b1 : b ≤ 4294967295) (x0 : 0 ≤ x) (x1 : x ≤ 4294967295) (y0 : 0 ≤ y) (y1 : y ≤ 4294967295) (hlen : l.length ≤ 2000) (HM1 : Hid (mayS n l.length a true = true)) (HM2 : Hid (mayS n l.length b true = true)) :
    Calls Try.prog 12 #[.agg #[.int .i64 n, .slice A l.length c], .int .u32 a, .int .u32 b, .int .u32 x, .int .u32 y] w fun e w' => e = .returned (.bool true) ∧ Below w.heap.size w w' := by
  have HC := hid hC
  have HBy := hid hB
  have hlm : l.length ≤ 9223372036854775807 := Nat.le_trans hc hm
  clear hC hB
  have HI : decide (2000 < (l.length : Int)) = false := by simp; omega
  have hlt := load_two l a b x y (mayS_ok HM1.out) (mayS_ok HM2.out) x0 x1 y0 y1
  have q1 : (loadS (putAt (putAt l (a - 65536).toNat (bsS x true)) (b - 65536).toNat (bsS y true)) a true).1 = if a = b then y else x := by rw [hlt.1]
  have q2 : (loadS (putAt (putAt l (a - 65536).toNat (bsS x true)) (b - 65536).toNat (bsS y true)) a true).2 = true := by rw [hlt.1]
  have q3 : (loadS (putAt (putAt l (a - 65536).toNat (bsS x true)) (b - 65536).toNat (bsS y true)) b true).1 = y := by rw [hlt.2]
  have q4 : (loadS (putAt (putAt l (a - 65536).toNat (bsS x true)) (b - 65536).toNat (bsS y true)) b true).2 = true := by rw [hlt.2]
  clear hlt
  have HBs := hid (putAt_bytes (i := (b - 65536).toNat) (putAt_bytes (i := (a - 65536).toNat) HBy.out (bsS_bytes x true x0 x1)) (bsS_bytes y true y0 y1))
  have main : ∀ (r : Bool) (z : Int), (a == b) = r → (if a = b then y else x) = z → Hid (z = if r = true then y else x) → Calls Try.prog 12 #[.agg #[.int .i64 n, .slice A l.length c], .int .u32 a, .int .u32 b, .int .u32 x, .int .u32 y] w fun e w' => e = .returned (.bool true) ∧ Below w.heap.size w w' := by
    intro r z hr1 hr2 hz
    rw [hr2] at q1
    clear hr2
    have Q1 := hid q1
    have Q2 := hid q2
    have Q3 := hid q3
    have Q4 := hid q4
    clear q1 q2 q3 q4
    go_enter Try.func12, Try.ntmps12
    go_wp2_with fail
    refine (awake5_c _).mono ?_
    rintro e w1 ⟨rfl, hb1⟩
    have m1 := hid (kb hb1 (heap_alloc_new w _))
    have B1 := hid (bthen (below_alloc (Below.refl w.heap.size w) _) hb1)
    obtain ⟨m10, m11, m12, m13, m14⟩ := blk2 m1.out
    clear hb1
    go_wp2_with fail
    refine (save_y n A c l.length l a x true _ rfl (Kd.C_below HC.out B1.out) hc (by omega) a0 a1 x0 x1 HM1.out).mono ?_
    rintro e w2 ⟨g, cap, rfl, hcap, hown, hb2⟩
    have n2 := hid (heap_alloc_new w2 (.cells #[.int .i64 n, .slice (some ⟨g, 0, none⟩) l.length cap] 41))
    have B2 := hid (bthen B1.out hb2)
    have O2 := hid (hown.out.keep (below_alloc (Below.refl _ _) (.cells #[.int .i64 n, .slice (some ⟨g, 0, none⟩) l.length cap] 41)))
    clear hb2 m10 m11 m12 m13 m14 hown
    obtain ⟨n10, n11, n12, n13, n14⟩ := blk2 n2.out
    go_wp2_with fail
    refine (save_y n _ cap l.length _ b y true _ O2.out.1 O2.out.reads hcap (by omega) b0 b1 y0 y1 HM2.out).mono ?_
    rintro e w3 ⟨g', cap', rfl, hcap', hown', hb3⟩
    have B3 := hid (bthen (below_alloc B2.out _) hb3)
    have o3 := hid (heap_alloc_new w3 (.cells #[.int .i64 n, .slice (some ⟨g', 0, none⟩) l.length cap'] 41))
    have O3 := hid (hown'.out.keep (below_alloc (Below.refl _ _) (.cells #[.int .i64 n, .slice (some ⟨g', 0, none⟩) l.length cap'] 41)))
    clear hb3 hown'
    obtain ⟨o30, o31, o32, o33, o34⟩ := blk2 o3.out
    go_wp2_with fail
    refine (load_n n _ cap' l.length _ a true _ O3.out.1 O3.out.reads hcap' HBs.out (by omega) a0 a1).mono ?_
    rintro e w4 ⟨rfl, hb4⟩
    rw [Q1.out, Q2.out]
    have B4 := hid (bthen (below_alloc B3.out _) hb4)
    have o4 := hid (kb hb4 o3.out)
    have O4 := hid (O3.out.keep hb4)
    clear hb4
    obtain ⟨o40, o41, o42, o43, o44⟩ := blk2 o4.out
    go_wp2_with fail
    refine (load_n n _ cap' l.length _ b true _ O4.out.1 O4.out.reads hcap' HBs.out (by omega) b0 b1).mono ?_
    rintro e w5 ⟨rfl, hb5⟩
    rw [Q3.out, Q4.out]
    have B5 := hid (bthen B4.out hb5)
    clear hb5
    cases r
    · obtain rfl : z = x := hz.out
      go_wp2
      go_ret
      exact ⟨by simp, B5.out⟩
    · obtain rfl : z = y := hz.out
      go_wp2
      go_ret
      exact ⟨by simp, B5.out⟩
  by_cases e : a = b
  · exact main true y (by simp [e]) (by simp [e]) rfl
  · exact main false x (by simp [e]) (by simp [e]) rfl

set_option maxRecDepth 100000 in
theorem apart5_walk (n : Int) (A : Option Addr) (c : Nat) (l : List Int) (a b x y : Int) (w : World) (hC : Kd.C (Kd.int .u8) w A l.length l) (hc : l.length ≤ c) (hB : Bytes l) (hm : c ≤ maxLen) (a0 : 0 ≤ a) (a1 : a ≤ 4294967295) (b0 : 0 ≤ b) (b1 : b ≤ 4294967295) (x0 : 0 ≤ x) (x1 : x ≤ 4294967295) (y0 : 0 ≤ y) (y1 : y ≤ 4294967295)  :
    Calls Try.prog 12 #[.agg #[.int .i64 n, .slice A l.length c], .int .u32 a, .int .u32 b, .int .u32 x, .int .u32 y] w fun e w' => e = .returned (.bool true) ∧ Below w.heap.size w w' := by
  have HC := hid hC
  have HBy := hid hB
  have hlm : l.length ≤ 9223372036854775807 := Nat.le_trans hc hm
  clear hC hB
  by_cases hlen : l.length ≤ 2000
  · cases h1 : mayS n l.length a true <;> cases h2 : mayS n l.length b true
    · exact apart_nn n A c l a b x y w HC.out hc HBy.out hm a0 a1 b0 b1 x0 x1 y0 y1 hlen h1 h2
    · exact apart_ny n A c l a b x y w HC.out hc HBy.out hm a0 a1 b0 b1 x0 x1 y0 y1 hlen h1 h2
    · exact apart_yn n A c l a b x y w HC.out hc HBy.out hm a0 a1 b0 b1 x0 x1 y0 y1 hlen h1 h2
    · exact apart_yy n A c l a b x y w HC.out hc HBy.out hm a0 a1 b0 b1 x0 x1 y0 y1 hlen h1 h2
  · have HI : decide (2000 < (l.length : Int)) = true := by simp; omega
    go_enter Try.func12, Try.ntmps12
    go_wp2_with fail
    refine (awake5_c _).mono ?_
    rintro e w1 ⟨rfl, hb1⟩
    have m1 := hid (kb hb1 (heap_alloc_new w _))
    have B1 := hid (bthen (below_alloc (Below.refl w.heap.size w) _) hb1)
    obtain ⟨m10, m11, m12, m13, m14⟩ := blk2 m1.out
    clear hb1
    go_wp2_with fail
    refine (awake5_c _).mono ?_
    rintro e w2 ⟨rfl, hb2⟩
    have B2 := hid (bthen B1.out hb2)
    clear hb2
    go_wp2
    go_ret
    exact ⟨rfl, B2.out⟩

end Go.Proofs.Ytkolcgnembaghaa.H
