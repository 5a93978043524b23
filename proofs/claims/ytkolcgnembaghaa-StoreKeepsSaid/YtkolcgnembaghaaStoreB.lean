/- The walk of the law StoreBack. -/
import Derived.Test.YtkolcgnembaghaaStoreA
namespace Go.Proofs.Ytkolcgnembaghaa.H
open Go.RowKit Go.Proofs.YtkolcgnembaghaaW.PrintWords Go.Proofs.YtkolcgnembaghaaW.PrintLast Go.Proofs.YtkolcgnembaghaaW.PrintMore Go.Proofs.Ytkolcgnembaghaa.F
set_option linter.unusedVariables false
set_option linter.unusedSimpArgs false

theorem C_at {w : World} {A : Option Addr} {m : Nat} {l : List Int} (h : Kd.C (Kd.int .u8) w A m l) (k : Nat) (hk : k < m) : ∃ ad, A = some ad ∧ w.cell? (ad.add k) = some (.int .u8 (l.getD k 0)) := by
  obtain ⟨ad, e, hc⟩ := h.2.2 (by omega)
  have hl : k < l.length := by have := h.1; omega
  obtain ⟨c, hs, hr, hcell⟩ := hc k _ (List.getElem?_eq_getElem hl)
  refine ⟨ad, e, ?_⟩
  have hr' : c = [.int .u8 l[k]] := hr
  have := hcell 0 (.int .u8 l[k]) (by rw [hr']; rfl)
  rw [show k * (Kd.int .u8).sz + 0 = k from Nat.mul_one k] at this
  rw [this, List.getD_eq_getElem?_getD, List.getElem?_eq_getElem hl]; rfl

/-- The loop's state: the memory that came in, the one that was saved. -/
def Two (w : World) (n : Int) (A : Option Addr) (c m B N g cap : Nat) (l l' : List Int) (wx : World) : Prop :=
  wx.heap[B]? = some (.cells #[.int .i64 n, .slice A m c] 41 (0, 0)) ∧ wx.heap[N]? = some (.cells #[.int .i64 n, .slice (some ⟨g, 0, none⟩) m cap] 41 (0, 0)) ∧
  Kd.C (Kd.int .u8) wx A m l ∧ Kd.C (Kd.int .u8) wx (some ⟨g, 0, none⟩) m l' ∧ Below w.heap.size w wx
theorem Two.drewN {w : World} {n : Int} {A : Option Addr} {c m B N g cap : Nat} {l l' : List Int} {wx : World} (h : Two w n A c m B N g cap l l' wx) (k : Nat) : Two w n A c m B N g cap l l' (wx.drewN k) := by
  have hb : Below wx.heap.size wx (wx.drewN k) := pw_below_drewN (Below.refl _ _) _
  exact ⟨kb hb h.1, kb hb h.2.1, Kd.C_below h.2.2.1 hb, Kd.C_below h.2.2.2.1 hb, pw_below_drewN h.2.2.2.2 _⟩

set_option maxRecDepth 100000 in
theorem back_y (n : Int) (A : Option Addr) (c : Nat) (l : List Int) (at_ w0 : Int) (wide : Bool) (w : World) (hC : Kd.C (Kd.int .u8) w A l.length l) (hc : l.length ≤ c) (hB : Bytes l) (hm : c ≤ maxLen) (h0 : 0 ≤ at_) (h1 : at_ ≤ 4294967295) (hw0 : 0 ≤ w0) (hw1 : w0 ≤ 4294967295) (hlen : l.length ≤ 2000) (HM : Hid (mayS n l.length at_ wide = true)) :
    Calls Try.prog 10 #[.agg #[.int .i64 n, .slice A l.length c], .int .u32 at_, .int .u32 w0, .bool wide] w fun e w' => e = .returned (.bool true) ∧ Below w.heap.size w w' := by
  have HC := hid hC
  have HBy := hid hB
  have hlm : l.length ≤ 9223372036854775807 := Nat.le_trans hc hm
  clear hC hB
  have HI : decide (2000 < (l.length : Int)) = false := by simp; omega
  have hls := load_same l at_ w0 wide (mayS_ok HM.out) hw0 hw1
  have HQ1 : Hid ((loadS (putAt l (at_ - 65536).toNat (bsS w0 wide)) at_ wide).1 = if wide then w0 else w0 % 256) := by unfold Hid; rw [hls]
  have HQ2 : Hid ((loadS (putAt l (at_ - 65536).toNat (bsS w0 wide)) at_ wide).2 = true) := by unfold Hid; rw [hls]
  clear hls
  have HBs := hid (putAt_bytes (i := (at_ - 65536).toNat) HBy.out (bsS_bytes w0 wide hw0 hw1))
  have hn : n ≤ at_ - 65536 := by have := HM.out; unfold mayS at this; simp at this; omega
  obtain ⟨o1, o2, o3⟩ := okS_true (mayS_ok HM.out)
  clear o3
  go_enter Try.func10, Try.ntmps10
  go_wp2_with fail
  refine (awake5_c _).mono ?_
  rintro e w1 ⟨rfl, hb1⟩
  have m1 := hid (kb hb1 (heap_alloc_new w _))
  have B1 := hid (bthen (below_alloc (Below.refl w.heap.size w) _) hb1)
  obtain ⟨m10, m11, m12, m13, m14⟩ := blk2 m1.out
  clear hb1
  go_wp2_with fail
  refine (save_y n A c l.length l at_ w0 wide _ rfl (Kd.C_below HC.out B1.out) hc (by omega) h0 h1 hw0 hw1 HM.out).mono ?_
  rintro e w2 ⟨g, cap, rfl, hcap, hown, hb2⟩
  have n2 := hid (heap_alloc_new w2 (.cells #[.int .i64 n, .slice (some ⟨g, 0, none⟩) l.length cap] 41))
  have m2 := hid (ka (o' := .cells #[.int .i64 n, .slice (some ⟨g, 0, none⟩) l.length cap] 41) (kb hb2 m1.out))
  have B2 := hid (bthen B1.out hb2)
  have O2 := hid (hown.out.keep (below_alloc (Below.refl _ _) (.cells #[.int .i64 n, .slice (some ⟨g, 0, none⟩) l.length cap] 41)))
  clear hb2 m10 m11 m12 m13 m14 hown
  obtain ⟨n10, n11, n12, n13, n14⟩ := blk2 n2.out
  go_wp2_with fail
  refine (load_n n _ cap l.length _ at_ wide _ O2.out.1 O2.out.reads hcap HBs.out (by omega) h0 h1).mono ?_
  rintro e w3 ⟨rfl, hb3⟩
  rw [HQ2.out]
  have n3 := hid (kb hb3 n2.out)
  have m3 := hid (kb hb3 m2.out)
  have B3 := hid (bthen (below_alloc B2.out _) hb3)
  have O3 := hid (O2.out.keep hb3)
  clear hb3 n10 n11 n12 n13 n14
  obtain ⟨n10, n11, n12, n13, n14⟩ := blk2 n3.out
  obtain ⟨m10, m11, m12, m13, m14⟩ := blk2 m3.out
  have T3 : Hid (Two w n A c l.length w.heap.size w2.heap.size g cap l (putAt l (at_ - 65536).toNat (bsS w0 wide)) w3) := ⟨m3.out, n3.out, Kd.C_below HC.out B3.out, O3.out.reads, B3.out⟩
  clear m3 n3 O3 O2 B3 B2 B1 m2 n2 m1
  cases wide
  · obtain ⟨q, hq⟩ : ∃ q, (loadS (putAt l (at_ - 65536).toNat (bsS w0 false)) at_ false).1 = q := ⟨_, rfl⟩
    have hq' : q = w0 % 256 := by rw [← hq]; exact HQ1.out
    rw [hq]
    subst hq'
    clear hq
    go_wp2_with fail
    go_loopw [14] (fun s14 wx => ∃ k : Nat, k ≤ l.length ∧ s14 = .int .i64 k ∧ Hid (Two w n A c l.length w.heap.size w2.heap.size g cap l (putAt l (at_ - 65536).toNat (bsS w0 false)) wx)) (fun s14 _ => l.length - (intOf s14).toNat)
    case atStart => exact ⟨0, by omega, rfl, T3⟩
    case round =>
      obtain ⟨k, hk, rfl, T4⟩ := hrel
      obtain ⟨m20, m21, m22, m23, m24⟩ := blk2 T4.out.1
      obtain ⟨n20, n21, n22, n23, n24⟩ := blk2 T4.out.2.1
      by_cases hlt : k < l.length
      · obtain ⟨ad, rfl, cA⟩ := C_at T4.out.2.2.1 k hlt
        obtain ⟨ad', hg', cG⟩ := C_at T4.out.2.2.2.1 k hlt
        obtain rfl : ⟨g, 0, none⟩ = ad' := by injection hg'
        rw [add_plain] at cG
        clear hg'
        have i0 : (0 : Int) ≤ (k : Int) := by omega
        have i1 : (k : Int) < (l.length : Int) := by omega
        have hoth := put_other l at_ w0 false (mayS_ok HM.out) k
        obtain ⟨p, hp⟩ : ∃ p, (putAt l (at_ - 65536).toNat (bsS w0 false)).getD k 0 = p := ⟨_, rfl⟩
        obtain ⟨q', hq'⟩ : ∃ q', l.getD k 0 = q' := ⟨_, rfl⟩
        rw [hp] at cG hoth
        rw [hq'] at cA hoth
        clear hp hq'
        by_cases hpq : p = q'
        · have d0 : (p != q') = false := by simp [hpq]
          clear hpq hoth
          go_wp2_with fail
          go_quiet (fail)
          go_wp2
          go_roundw
          case rel => exact ⟨k + 1, by omega, by go_num, T4.out.drewN _⟩
          case measure => simp [intOf]; omega
        · have d0 : (p != q') = true := by simp [hpq]
          have hin : at_ - 65536 ≤ (k : Int) ∧ (k : Int) < at_ - 65536 + 1 := by
            refine ⟨?_, ?_⟩
            · rcases Int.lt_or_le (k : Int) (at_ - 65536) with h | h
              · exact absurd (hoth (.inl h)) hpq
              · exact h
            · rcases Int.lt_or_le (k : Int) (at_ - 65536 + 1) with h | h
              · exact h
              · exact absurd (hoth (.inr h)) hpq
          obtain ⟨hin1, hin2⟩ := hin
          have d1 : decide ((k : Int) < at_ - 65536) = false := by simp; omega
          have d2 : decide ((k : Int) < n) = false := by simp; omega
          have d3 : decide (at_ - 65536 < (k : Int)) = false := by simp; omega
          clear hpq hoth
          go_wp2_with fail
          go_quiet (fail)
          go_wp2
          go_roundw
          case rel => exact ⟨k + 1, by omega, by go_num, T4.out.drewN _⟩
          case measure => simp [intOf]; omega
      · have i1 : (l.length : Int) ≤ (k : Int) := by omega
        go_wp2
        go_ret
        exact ⟨rfl, T4.out.2.2.2.2⟩
  · obtain ⟨q, hq⟩ : ∃ q, (loadS (putAt l (at_ - 65536).toNat (bsS w0 true)) at_ true).1 = q := ⟨_, rfl⟩
    have hq' : w0 = q := by rw [← hq]; exact HQ1.out.symm
    rw [hq]
    subst hq'
    clear hq
    go_wp2_with fail
    go_loopw [14] (fun s14 wx => ∃ k : Nat, k ≤ l.length ∧ s14 = .int .i64 k ∧ Hid (Two w n A c l.length w.heap.size w2.heap.size g cap l (putAt l (at_ - 65536).toNat (bsS w0 true)) wx)) (fun s14 _ => l.length - (intOf s14).toNat)
    case atStart => exact ⟨0, by omega, rfl, T3⟩
    case round =>
      obtain ⟨k, hk, rfl, T4⟩ := hrel
      obtain ⟨m20, m21, m22, m23, m24⟩ := blk2 T4.out.1
      obtain ⟨n20, n21, n22, n23, n24⟩ := blk2 T4.out.2.1
      by_cases hlt : k < l.length
      · obtain ⟨ad, rfl, cA⟩ := C_at T4.out.2.2.1 k hlt
        obtain ⟨ad', hg', cG⟩ := C_at T4.out.2.2.2.1 k hlt
        obtain rfl : ⟨g, 0, none⟩ = ad' := by injection hg'
        rw [add_plain] at cG
        clear hg'
        have i0 : (0 : Int) ≤ (k : Int) := by omega
        have i1 : (k : Int) < (l.length : Int) := by omega
        have hoth := put_other l at_ w0 true (mayS_ok HM.out) k
        obtain ⟨p, hp⟩ : ∃ p, (putAt l (at_ - 65536).toNat (bsS w0 true)).getD k 0 = p := ⟨_, rfl⟩
        obtain ⟨q', hq'⟩ : ∃ q', l.getD k 0 = q' := ⟨_, rfl⟩
        rw [hp] at cG hoth
        rw [hq'] at cA hoth
        clear hp hq'
        by_cases hpq : p = q'
        · have d0 : (p != q') = false := by simp [hpq]
          clear hpq hoth
          go_wp2_with fail
          go_quiet (fail)
          go_wp2
          go_roundw
          case rel => exact ⟨k + 1, by omega, by go_num, T4.out.drewN _⟩
          case measure => simp [intOf]; omega
        · have d0 : (p != q') = true := by simp [hpq]
          have hin : at_ - 65536 ≤ (k : Int) ∧ (k : Int) < at_ - 65536 + 4 := by
            refine ⟨?_, ?_⟩
            · rcases Int.lt_or_le (k : Int) (at_ - 65536) with h | h
              · exact absurd (hoth (.inl h)) hpq
              · exact h
            · rcases Int.lt_or_le (k : Int) (at_ - 65536 + 4) with h | h
              · exact h
              · exact absurd (hoth (.inr h)) hpq
          obtain ⟨hin1, hin2⟩ := hin
          have d1 : decide ((k : Int) < at_ - 65536) = false := by simp; omega
          have d2 : decide ((k : Int) < n) = false := by simp; omega
          have d3 : decide (at_ - 65536 + 4 ≤ (k : Int)) = false := by simp; omega
          have d5 : IntKind.i64.wrap (at_ - 65536 + 4) = at_ - 65536 + 4 := IntWalk.i64_in _ (by omega)
          clear hpq hoth
          go_wp2_with fail
          go_quiet (fail)
          go_wp2
          go_roundw
          case rel => exact ⟨k + 1, by omega, by go_num, T4.out.drewN _⟩
          case measure => simp [intOf]; omega
      · have i1 : (l.length : Int) ≤ (k : Int) := by omega
        go_wp2
        go_ret
        exact ⟨rfl, T4.out.2.2.2.2⟩

set_option maxRecDepth 100000 in
theorem sback_walk (n : Int) (A : Option Addr) (c : Nat) (l : List Int) (at_ w0 : Int) (wide : Bool) (w : World) (hC : Kd.C (Kd.int .u8) w A l.length l) (hc : l.length ≤ c) (hB : Bytes l) (hm : c ≤ maxLen) (h0 : 0 ≤ at_) (h1 : at_ ≤ 4294967295) (hw0 : 0 ≤ w0) (hw1 : w0 ≤ 4294967295) :
    Calls Try.prog 10 #[.agg #[.int .i64 n, .slice A l.length c], .int .u32 at_, .int .u32 w0, .bool wide] w fun e w' => e = .returned (.bool true) ∧ Below w.heap.size w w' := by
  have HC := hid hC
  have HBy := hid hB
  have hlm : l.length ≤ 9223372036854775807 := Nat.le_trans hc hm
  clear hC hB
  by_cases hlen : l.length ≤ 2000
  · cases hmay : mayS n l.length at_ wide
    · have HM := hid hmay
      have HI : decide (2000 < (l.length : Int)) = false := by simp; omega
      clear hmay
      go_enter Try.func10, Try.ntmps10
      go_wp2_with fail
      refine (awake5_c _).mono ?_
      rintro e w1 ⟨rfl, hb1⟩
      have m1 := hid (kb hb1 (heap_alloc_new w _))
      have B1 := hid (bthen (below_alloc (Below.refl w.heap.size w) _) hb1)
      obtain ⟨m10, m11, m12, m13, m14⟩ := blk2 m1.out
      clear hb1
      go_wp2_with fail
      refine (save_n n A c l.length l at_ w0 wide _ rfl (Kd.C_below HC.out B1.out) hc (by omega) h0 h1 HM.out).mono ?_
      rintro e w2 ⟨rfl, hb2⟩
      have m2 := hid (kb hb2 m1.out)
      have B2 := hid (bthen B1.out hb2)
      clear hb2 m10 m11 m12 m13 m14
      obtain ⟨m10, m11, m12, m13, m14⟩ := blk2 m2.out
      go_wp2_with fail
      refine (msame_n n n A A c c l.length l.length l l _ rfl rfl (Kd.C_below HC.out (below_alloc B2.out _)) hc (Kd.C_below HC.out (below_alloc B2.out _)) hc (by omega)).mono ?_
      rintro e w4 ⟨rfl, hb4⟩
      have B4 := hid (bthen (below_alloc B2.out _) hb4)
      clear hb4
      go_wp2
      go_ret
      exact ⟨by simp, B4.out⟩
    · exact back_y n A c l at_ w0 wide w HC.out hc HBy.out hm h0 h1 hw0 hw1 hlen hmay
  · have HI : decide (2000 < (l.length : Int)) = true := by simp; omega
    go_enter Try.func10, Try.ntmps10
    go_wp2_with fail
    refine (awake5_c _).mono ?_
    rintro e w1 ⟨rfl, hb1⟩
    have m1 := hid (kb hb1 (heap_alloc_new w _))
    have B1 := hid (bthen (below_alloc (Below.refl w.heap.size w) _) hb1)
    obtain ⟨m10, m11, m12, m13, m14⟩ := blk2 m1.out
    clear hb1
    go_wp2_with fail
    refine (awake5_c _).mono ?_
    rintro e w2 ⟨rfl, hb2⟩
    have B2 := hid (bthen B1.out hb2)
    clear hb2
    go_wp2
    go_ret
    exact ⟨rfl, B2.out⟩
end Go.Proofs.Ytkolcgnembaghaa.H
