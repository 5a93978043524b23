/- The walk of the law StoreKeeps. -/
import Derived.Test.YtkolcgnembaghaaStoreB
namespace Go.Proofs.Ytkolcgnembaghaa.H
open Go.RowKit Go.Proofs.YtkolcgnembaghaaW.PrintWords Go.Proofs.YtkolcgnembaghaaW.PrintLast Go.Proofs.YtkolcgnembaghaaW.PrintMore Go.Proofs.Ytkolcgnembaghaa.F
set_option linter.unusedVariables false
set_option linter.unusedSimpArgs false

theorem app_step1 {ops : Array Oper} {o : Oper} {a : Act} {Q : Exit → Act → World → Prop} {K : Act → World → Prop} {w0 W : World} (base : Nat) (hw : Region.wanted o (yielded ops a.tmps) = true) (s x : Operand)
    (ho : o.op = .call { callee := .builtin .append, args := #[s, x], argTypes := #[23, 23] }) (v : Value) (l : List Int) (A : Option Addr) (c : Nat) (hs : a.eval s = v) (hx : a.eval x = .slice A l.length c)
    (HO : RB W base v []) (HR : CB W A l) (HB : Below base w0 W) (hbase : base ≤ W.heap.size) (hl : l.length ≤ 140737488355328)
    (h : ∀ (A' : Option Addr) (c' : Nat) (w1 : World), l.length ≤ c' → Hid (RB w1 base (.slice A' l.length c') l) → Below base w0 w1 → W.grownBy w1 v.ownBlock → K (a.put o.dst (.slice A' l.length c')) w1) :
    if Region.wanted o (yielded ops a.tmps) = true then Oper.wp Try.prog o a W K Q else K (a.put o.dst undef) W := by
  refine app_step base hw s x ho v [] l A c hs hx HO HR HB hbase (by simpa using hl) ?_
  intro v1 w1 hr hb hgr _
  obtain ⟨A', c', rfl, h1, h2⟩ := Kd.R_reads (xs := l) hr
  exact h A' c' w1 h1 hr hb hgr

/-- Behind 'was := api.Mem{..}'. -/
def Was (n : Int) (l : List Int) (w1 : World) (s9 : Value) (wx : World) : Prop :=
  ∃ (A' : Option Addr) (c' B : Nat), s9 = .pointer (some ⟨B, 0, none⟩) ∧ wx.heap[B]? = some (.cells #[.int .i64 n, .slice A' l.length c'] 41 (0, 0)) ∧ w1.heap.size ≤ B ∧ l.length ≤ c' ∧ CB wx A' l ∧ Below w1.heap.size w1 wx

theorem two_set1 {w : World} {B : Nat} {a b : Value} (x y : Value) (hB : w.heap[B]? = some (.cells #[a, b] 41 (0, 0))) :
    ((w.setCell ⟨B, 0, none⟩ x).setCell ⟨B, 1, none⟩ y).heap[B]? = some (.cells #[x, y] 41 (0, 0)) := by
  simp [World.setCell, Array.getElem?_modify, hB]
theorem RB_two {w : World} {base B : Nat} {v : Value} {l : List Int} {a b : Value} (h : RB w base v l) (hB : w.heap[B]? = some (.cells #[a, b] 41 (0, 0))) (x y : Value) : RB ((w.setCell ⟨B, 0, none⟩ x).setCell ⟨B, 1, none⟩ y) base v l := by
  have h1 := Kd.R_set h hB (by intro q hq; have : q = 5 := by simpa [Kd.int, Kd.scalar] using hq
                               subst this; decide) 0 x
  have hB1 : (w.setCell ⟨B, 0, none⟩ x).heap[B]? = some (.cells #[x, b] 41 (0, 0)) := by simp [World.setCell, Array.getElem?_modify, hB]
  exact Kd.R_set h1 hB1 (by intro q hq; have : q = 5 := by simpa [Kd.int, Kd.scalar] using hq
                            subst this; decide) 1 y
theorem RB_reads {w : World} {base : Nat} {A : Option Addr} {c : Nat} {l : List Int} (h : RB w base (.slice A l.length c) l) : CB w A l := by
  obtain ⟨A', c', he, h1, h2⟩ := Kd.R_reads h
  injection he with e1 e2 e3
  subst e1
  exact h2

/-- The state of the loop that turns the saved memory's bytes. -/
def Xo (wS : World) (n : Int) (len N g cap : Nat) (wx : World) : Prop :=
  wx.heap[N]? = some (.cells #[.int .i64 n, .slice (some ⟨g, 0, none⟩) len cap] 41 (0, 0)) ∧ (∃ L : List Value, wx.heap[g]? = some (.cells L.toArray 5 (0, 0)) ∧ L.length = cap ∧ ∀ j, j < len → ∃ x : Int, L[j]? = some (.int .u8 x)) ∧ len ≤ cap ∧ wS.heap.size ≤ g ∧ Below wS.heap.size wS wx
theorem Xo.step {wS : World} {n : Int} {len N g cap : Nat} {wx : World} (h : Xo wS n len N g cap wx) (k : Nat) (y : Int) : Xo wS n len N g cap (wx.setCell ⟨g, k, none⟩ (.int .u8 y)) := by
  obtain ⟨a1, ⟨L, a2, a3, a4⟩, a5, a6, a7⟩ := h
  have h3 : N ≠ g := by
    rintro rfl
    rw [a1] at a2
    injection a2 with a2
    injection a2 with _ a2
    exact absurd a2 (by decide)
  refine ⟨by rw [Below.heap_setCell _ _ _ _ (by simpa using h3)]; exact a1, ⟨L.set k (.int .u8 y), by simp [World.setCell, Array.getElem?_modify, a2], by simpa using a3, fun j hj => ?_⟩, a5, a6, a7.setCell (by simpa using a6) _⟩
  rw [List.getElem?_set]
  split
  · rename_i e
    subst e
    rw [if_pos (by omega)]
    exact ⟨y, rfl⟩
  · exact a4 j hj
theorem Xo.drew {wS : World} {n : Int} {len N g cap : Nat} {wx : World} (h : Xo wS n len N g cap wx) : Xo wS n len N g cap wx.drew := ⟨h.1, h.2.1, h.2.2.1, h.2.2.2.1, h.2.2.2.2.drew⟩

set_option maxRecDepth 100000 in
theorem was_c (n : Int) (A : Option Addr) (c : Nat) (l : List Int) (at_ w0 : Int) (wide : Bool) (w : World) (hC : Kd.C (Kd.int .u8) w A l.length l) (hc : l.length ≤ c) (hB : Bytes l) (hm : c ≤ maxLen) (h0 : 0 ≤ at_) (h1 : at_ ≤ 4294967295) (hw0 : 0 ≤ w0) (hw1 : w0 ≤ 4294967295) (hlen : l.length ≤ 2000) :
    Calls Try.prog 11 #[.agg #[.int .i64 n, .slice A l.length c], .int .u32 at_, .int .u32 w0, .bool wide] w fun e w' => e = .returned (.bool true) ∧ Below w.heap.size w w' := by
  have HC := hid hC
  have HBy := hid hB
  have hlm : l.length ≤ 9223372036854775807 := Nat.le_trans hc hm
  clear hC hB
  have HI : decide (2000 < (l.length : Int)) = false := by simp; omega
  go_enter Try.func11, Try.ntmps11
  go_wp2_with fail
  refine (awake5_c _).mono ?_
  rintro e w1 ⟨rfl, hb1⟩
  have m1 := hid (kb hb1 (heap_alloc_new w _))
  have B1 := hid (bthen (below_alloc (Below.refl w.heap.size w) _) hb1)
  obtain ⟨m10, m11, m12, m13, m14⟩ := blk2 m1.out
  clear hb1
  have ne0 : ¬ w.heap.size = w1.heap.size := by omega
  have ne1 : ¬ w.heap.size = w1.heap.size + 1 := by omega
  have ne2 : ¬ w1.heap.size = w.heap.size := by omega
  have ne3 : ¬ w1.heap.size + 1 = w.heap.size := by omega
  go_wp2_with fail
  go_cut [9] (fun s9 wx => Was n l w1 s9 wx)
  case first =>
    go_region_held3 (fun w' => w'.cell? ⟨w.heap.size, 0, none⟩ = some (.int .i64 n) ∧ w'.cell? ⟨w.heap.size, 1, none⟩ = some (.slice A l.length c)) (go_keep)
      ((refine app_step1 (w0 := w1) w1.heap.size (by rfl) _ _ (by rfl) _ l A c (by rfl) (by rfl) (by first | exact R_empty_at (heap_alloc_new _ _) (Nat.le_refl _) | exact R_empty_at (blk_at0 _ _ _) (Nat.le_refl _) | exact R_empty_at (blk_at1 _ _ _) (Nat.le_succ _)) (Kd.C_below HC.out (by repeat (first | exact B1.out | refine below_alloc ?_ _ | refine below_drew ?_))) (by repeat (first | exact Below.refl _ _ | refine below_alloc ?_ _ | refine below_drew ?_)) (by first | (simp; done) | (simp; omega)) (by omega) ?_; intro A' c' w2 hg2 hg1 hb2 hgr; have qc := grown_cell hgr; have qf := grown_frozen hgr; have qs := hgr.size; have k0 := (hb2.cell (p := ⟨w.heap.size, 0, none⟩) m14).trans m10; have k1 := (hb2.cell (p := ⟨w.heap.size, 1, none⟩) m14).trans m11; have k2 : w.heap.size < w2.heap.size := Nat.lt_of_lt_of_le m14 hb2.size))
    · go_wp2_with fail
      go_meet
      exact ⟨A', c', w2.heap.size, rfl, heap_alloc_new _ _, hb2.size, hg2, Kd.C_below (RB_reads hg1.out) (below_alloc (Below.refl _ _) _), below_alloc hb2 _⟩
    · go_wp2_with fail
      go_meet
      have hB := (hgr.block (w1.heap.size + 1) (by simp) (by show some (w1.heap.size + 1) ≠ some w1.heap.size; simp)).trans (blk_at1 w1 _ _)
      exact ⟨A', c', w1.heap.size + 1, rfl, two_set1 _ _ hB, by omega, hg2, RB_reads (RB_two hg1.out hB _ _), (hb2.setCell (by simp) _).setCell (by simp) _⟩
    · go_wp2_with fail
      go_meet
      have hB := (hgr.block w1.heap.size (by simp; omega) (by show some w1.heap.size ≠ some (w1.heap.size + 1); simp)).trans (blk_at0 w1 _ _)
      exact ⟨A', c', w1.heap.size, rfl, two_set1 _ _ hB, by omega, hg2, RB_reads (RB_two hg1.out hB _ _), (hb2.setCell (by simp) _).setCell (by simp) _⟩
  case rest =>
    obtain ⟨A', c', B, rfl, hB, hB1, hc', hC', hb2⟩ := hcut
    have HBo := hid hB
    have HC' := hid hC'
    have hBlt := (blk2 hB).2.2.2.2
    have HB2 := hid (bthen B1.out hb2)
    have m2 := hid (kb hb2 m1.out)
    clear hB hC' hb2 m10 m11 m12 m13 m14 ne0 ne1 ne2 ne3
    obtain ⟨m10, m11, m12, m13, m14⟩ := blk2 m2.out
    go_wp2_with fail
    cases hmay : mayS n l.length at_ wide
    · have HM := hid hmay
      clear hmay
      refine (save_n n A c l.length l at_ w0 wide _ rfl (Kd.C_below HC.out HB2.out) hc (by omega) h0 h1 HM.out).mono ?_
      rintro e w3 ⟨rfl, hb3⟩
      have m3 := hid (ka (o' := .cells #[.int .i64 n, .slice A l.length c] 41) (kb hb3 m2.out))
      have b3 := hid (ka (o' := .cells #[.int .i64 n, .slice A l.length c] 41) (kb hb3 HBo.out))
      have HB3 := hid (below_alloc (bthen HB2.out hb3) (.cells #[.int .i64 n, .slice A l.length c] 41))
      have HC3 := hid (Kd.C_below HC'.out (below_alloc hb3 (.cells #[.int .i64 n, .slice A l.length c] 41)))
      clear hb3 m10 m11 m12 m13 m14
      obtain ⟨m10, m11, m12, m13, m14⟩ := blk2 m3.out
      obtain ⟨b10, b11, b12, b13, b14⟩ := blk2 b3.out
      go_wp2_with fail
      refine (msame_n n n A A' c c' l.length l.length l l _ rfl rfl (Kd.C_below HC.out HB3.out) hc HC3.out hc' (by omega)).mono ?_
      rintro e w4 ⟨rfl, hb4⟩
      have B4 := hid (bthen HB3.out hb4)
      clear hb4
      go_wp2
      go_ret
      exact ⟨by simp, B4.out⟩
    · have HM := hid hmay
      clear hmay
      refine (save_y n A c l.length l at_ w0 wide _ rfl (Kd.C_below HC.out HB2.out) hc (by omega) h0 h1 hw0 hw1 HM.out).mono ?_
      rintro e w3 ⟨g, cap, rfl, hcap, hown, hb3⟩
      have hX : Xo wc n l.length w3.heap.size g cap (w3.alloc (.cells #[.int .i64 n, .slice (some ⟨g, 0, none⟩) l.length cap] 41)) := by
        obtain ⟨o1, o2, o3, o4, L, o5, o6, o7⟩ := hown.out
        refine ⟨heap_alloc_new _ _, ⟨L, ka o5, o6, fun j hj => ?_⟩, hcap, o2, below_alloc hb3 _⟩
        have h7 : (L.take l.length)[j]? = some (Value.int .u8 ((putAt l (at_ - 65536).toNat (bsS w0 wide))[j]'(by omega))) := by
          rw [o7]; simp [encs, List.getElem?_eq_getElem (show j < (putAt l (at_ - 65536).toNat (bsS w0 wide)).length by omega)]
        rw [List.getElem?_take_of_lt hj] at h7
        exact ⟨_, h7⟩
      have HX := hid hX
      have hBm := (blk2 m2.out).2.2.2.2
      clear hX hown hb3 m10 m11 m12 m13 m14
      go_wp2_with fail
      go_loopw [12] (fun s12 wx => ∃ k : Nat, k ≤ l.length ∧ s12 = .int .i64 k ∧ Hid (Xo wc n l.length w3.heap.size g cap wx)) (fun s12 _ => l.length - (intOf s12).toNat)
      case atStart => exact ⟨0, by omega, rfl, HX⟩
      case round =>
        obtain ⟨k, hk, rfl, hx⟩ := hrel
        obtain ⟨n10, n11, n12, n13, n14⟩ := blk2 hx.out.1
        by_cases hlt : k < l.length
        · obtain ⟨L, hL, hLl, hLx⟩ := hx.out.2.1
          obtain ⟨x, hxk⟩ := hLx k hlt
          have c1 : wr.cell? ⟨g, k, none⟩ = some (.int .u8 x) := by simp [World.cell?, hL, hxk]
          have c2 : wr.frozen? ⟨g, k, none⟩ = false := by simp [World.frozen?, hL]
          have i0 : (0 : Int) ≤ (k : Int) := by omega
          have i1 : (k : Int) < (l.length : Int) := by omega
          clear hL hLl hLx hxk
          go_wp2_with fail
          go_region
          go_wp2
          go_roundw
          case rel => exact ⟨k + 1, by omega, by go_num, by first | exact (hx.out.step _ _).drew | exact hx.out.drew.step _ _⟩
          case measure => simp [intOf]; omega
        · have i1 : (l.length : Int) ≤ (k : Int) := by omega
          have m4 := kb (B := w.heap.size) (hx.out.2.2.2.2) m2.out
          have b4 := kb (B := B) (hx.out.2.2.2.2) HBo.out
          obtain ⟨m10, m11, m12, m13, m14⟩ := blk2 m4
          obtain ⟨b10, b11, b12, b13, b14⟩ := blk2 b4
          clear m4 b4
          have B4 := hid (bthen HB2.out hx.out.2.2.2.2)
          go_wp2_with fail
          refine (msame_n n n A A' c c' l.length l.length l l _ rfl rfl (Kd.C_below HC.out B4.out) hc (Kd.C_below HC'.out hx.out.2.2.2.2) hc' (by omega)).mono ?_
          rintro e w4 ⟨rfl, hb4⟩
          have B5 := hid (bthen B4.out hb4)
          clear hb4
          go_wp2
          go_ret
          exact ⟨by simp, B5.out⟩

set_option maxRecDepth 100000 in
theorem keeps_walk (n : Int) (A : Option Addr) (c : Nat) (l : List Int) (at_ w0 : Int) (wide : Bool) (w : World) (hC : Kd.C (Kd.int .u8) w A l.length l) (hc : l.length ≤ c) (hB : Bytes l) (hm : c ≤ maxLen) (h0 : 0 ≤ at_) (h1 : at_ ≤ 4294967295) (hw0 : 0 ≤ w0) (hw1 : w0 ≤ 4294967295) :
    Calls Try.prog 11 #[.agg #[.int .i64 n, .slice A l.length c], .int .u32 at_, .int .u32 w0, .bool wide] w fun e w' => e = .returned (.bool true) ∧ Below w.heap.size w w' := by
  by_cases hlen : l.length ≤ 2000
  · exact was_c n A c l at_ w0 wide w hC hc hB hm h0 h1 hw0 hw1 hlen
  · have hlm : l.length ≤ 9223372036854775807 := Nat.le_trans hc hm
    have HI : decide (2000 < (l.length : Int)) = true := by simp; omega
    clear hC hB
    go_enter Try.func11, Try.ntmps11
    go_wp2_with fail
    refine (awake5_c _).mono ?_
    rintro e w1 ⟨rfl, hb1⟩
    have m1 := hid (kb hb1 (heap_alloc_new w _))
    have B1 := hid (bthen (below_alloc (Below.refl w.heap.size w) _) hb1)
    obtain ⟨m10, m11, m12, m13, m14⟩ := blk2 m1.out
    clear hb1
    go_wp2_with fail
    refine (awake5_c _).mono ?_
    rintro e w2 ⟨rfl, hb2⟩
    have B2 := hid (bthen B1.out hb2)
    clear hb2
    go_wp2
    go_ret
    exact ⟨rfl, B2.out⟩
end Go.Proofs.Ytkolcgnembaghaa.H
