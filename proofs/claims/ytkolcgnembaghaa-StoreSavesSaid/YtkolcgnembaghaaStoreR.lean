/- The contract of the reference's Save. -/
import Derived.Test.YtkolcgnembaghaaStoreC
namespace Go.Proofs.Ytkolcgnembaghaa.H
open Go.RowKit Go.Proofs.YtkolcgnembaghaaW.PrintWords Go.Proofs.YtkolcgnembaghaaW.PrintLast Go.Proofs.YtkolcgnembaghaaW.PrintMore Go.Proofs.Ytkolcgnembaghaa.F
set_option linter.unusedVariables false
set_option linter.unusedSimpArgs false

theorem app_step {ops : Array Oper} {o : Oper} {a : Act} {Q : Exit → Act → World → Prop} {K : Act → World → Prop} {w0 W : World} (base : Nat) (hw : Region.wanted o (yielded ops a.tmps) = true) (s x : Operand)
    (ho : o.op = .call { callee := .builtin .append, args := #[s, x], argTypes := #[23, 23] }) (v : Value) (xs ys : List Int) (A : Option Addr) (c : Nat) (hs : a.eval s = v) (hx : a.eval x = .slice A ys.length c)
    (HO : RB W base v xs) (HR : CB W A ys) (HB : Below base w0 W) (hbase : base ≤ W.heap.size) (hl : xs.length + ys.length ≤ 140737488355328)
    (h : ∀ v1 w1, RB w1 base v1 (xs ++ ys) → Below base w0 w1 → W.grownBy w1 v.ownBlock → (v1.ownBlock = v.ownBlock ∨ ∃ b, v1.ownBlock = some b ∧ W.heap.size ≤ b) → K (a.put o.dst v1) w1) :
    if Region.wanted o (yielded ops a.tmps) = true then Oper.wp Try.prog o a W K Q else K (a.put o.dst undef) W :=
  Kd.R_append_rows_step (Kd.int .u8) (Rr := fun x cs => cs = [Value.int .u8 x]) base hw s x 23 5 (.int .u8 0) 1 ho Try.underlying23 info5 rfl (by decide) (by omega) v xs ys A ys.length c (fun _ => True) (fun k => some k ≠ v.ownBlock) hs hx HO HR (fun _ _ h => h) (fun _ h => ⟨trivial, h⟩) (fun _ _ => trivial) HB hbase (by omega) h

theorem RB_form {W : World} {base : Nat} {v : Value} {l : List Int} (h : RB W base v l) (hl : 0 < l.length) :
    ∃ g cap L, v = .slice (some ⟨g, 0, none⟩) l.length cap ∧ base ≤ g ∧ W.heap[g]? = some (.cells (List.toArray L) 5 (0, 0)) ∧ l.length ≤ cap ∧ cap ≤ maxLen ∧ L.length = cap ∧ L.take l.length = encs (Value.int .u8) l := by
  have hown := Kd.own_of_R h
  rcases hown.2 with ⟨_, h0l⟩ | ⟨g, cap, cur, hv, hg0, hg1, hg2, hg3, hg4, hg5⟩
  · omega
  · exact ⟨g, cap, cur.toList, hv, hg0, by simpa using hg1, hg2, hg3, by simpa using hg4, by simpa using hg5⟩
/-- append([]byte{}, l...), l not empty: as a step of a region that draws. -/
theorem app_step0 {ops : Array Oper} {o : Oper} {a : Act} {Q : Exit → Act → World → Prop} {K : Act → World → Prop} {w0 W : World} (base : Nat) (hw : Region.wanted o (yielded ops a.tmps) = true) (s x : Operand)
    (ho : o.op = .call { callee := .builtin .append, args := #[s, x], argTypes := #[23, 23] }) (v : Value) (l : List Int) (A : Option Addr) (c : Nat) (hs : a.eval s = v) (hx : a.eval x = .slice A l.length c)
    (HO : RB W base v []) (HR : CB W A l) (HB : Below base w0 W) (hbase : base ≤ W.heap.size) (hl : l.length ≤ 140737488355328) (hpos : 0 < l.length)
    (h : ∀ (g cap : Nat) (L : List Value) (w1 : World), Hid (base ≤ g) → Hid (w1.heap[g]? = some (.cells (List.toArray L) 5 (0, 0))) → l.length ≤ cap → cap ≤ maxLen → Hid (L.length = cap) → Hid (L.take l.length = encs (Value.int .u8) l) → Below base w0 w1 → W.grownBy w1 v.ownBlock → K (a.put o.dst (.slice (some ⟨g, 0, none⟩) l.length cap)) w1) :
    if Region.wanted o (yielded ops a.tmps) = true then Oper.wp Try.prog o a W K Q else K (a.put o.dst undef) W := by
  refine app_step base hw s x ho v [] l A c hs hx HO HR HB hbase (by simpa using hl) ?_
  intro v1 w1 hr hb hgr _
  obtain ⟨g, cap, L, rfl, h0, h1, h2, h3, h4, h5⟩ := RB_form (l := l) hr hpos
  exact h g cap L w1 h0 h1 h2 h3 h4 h5 hb hgr

theorem rput_form (x : Int) (h0 : 0 ≤ x) (h1 : x ≤ 4294967295) (w : World) :
    Calls Try.prog 21 #[.int .u32 x] w fun e w' => ∃ g cap L, e = .returned (.slice (some ⟨g, 0, none⟩) 4 cap) ∧ w.heap.size ≤ g ∧ Hid (w'.heap[g]? = some (.cells (List.toArray L) 5 (0, 0))) ∧ Hid (L.take 4 = encs (Value.int .u8) (bsS x true)) ∧ Below w.heap.size w w' := by
  refine (rput_c x h0 h1 w).mono ?_
  rintro e w' ⟨v, rfl, hr, hb⟩
  obtain ⟨g, cap, L, rfl, h2, h3, h4, h5, h6, h7⟩ := RB_form hr (by simp)
  exact ⟨g, cap, L, rfl, h2, h3, h7, hb⟩

theorem R_empty_at {W : World} {base H : Nat} (h : W.heap[H]? = some (.cells #[] 5 (0, 0))) (hb : base ≤ H) : RB W base (.slice (some ⟨H, 0, none⟩) 0 0) [] :=
  ⟨fun _ _ => trivial, [], ⟨⟨rfl, .inr ⟨H, 0, #[], rfl, hb, h, Nat.le_refl _, by decide, rfl, rfl⟩⟩, Reps.none _ _⟩⟩

theorem grown_cell {W w1 : World} {H : Nat} (h : W.grownBy w1 (some H)) : ∀ b o, b < W.heap.size → ¬ b = H → w1.cell? ⟨b, o, none⟩ = W.cell? ⟨b, o, none⟩ :=
  fun b o hb hn => World.cell?_of_block (w := W) (a := ⟨b, o, none⟩) (h.block b hb (fun e => hn (by injection e)))
theorem grown_frozen {W w1 : World} {H : Nat} (h : W.grownBy w1 (some H)) : ∀ b o, b < W.heap.size → ¬ b = H → w1.frozen? ⟨b, o, none⟩ = W.frozen? ⟨b, o, none⟩ :=
  fun b o hb hn => World.frozen?_of_block (w := W) (a := ⟨b, o, none⟩) (h.block b hb (fun e => hn (by injection e)))

theorem two_set {w : World} {B g : Nat} {a b : Value} {L : Array Value} (x y : Value) (hB : w.heap[B]? = some (.cells #[a, b] 41 (0, 0))) (hg : w.heap[g]? = some (.cells L 5 (0, 0))) :
    ((w.setCell ⟨B, 0, none⟩ x).setCell ⟨B, 1, none⟩ y).heap[B]? = some (.cells #[x, y] 41 (0, 0)) ∧ ((w.setCell ⟨B, 0, none⟩ x).setCell ⟨B, 1, none⟩ y).heap[g]? = some (.cells L 5 (0, 0)) := by
  have hne : g ≠ B := by
    rintro rfl
    rw [hB] at hg
    injection hg with hg
    injection hg with _ hg
    exact absurd hg (by decide)
  refine ⟨by simp [World.setCell, Array.getElem?_modify, hB], ?_⟩
  rw [Below.heap_setCell _ _ _ _ (by simpa using hne), Below.heap_setCell _ _ _ _ (by simpa using hne)]
  exact hg

/-- Behind 'out := api.Mem{..}': out's block, and the row of its bytes. -/
def Made (n : Int) (l : List Int) (base B0 : Nat) (w1 : World) (s13 : Value) (wx : World) : Prop :=
  ∃ (g cap B : Nat) (L : List Value), s13 = .pointer (some ⟨B, 0, none⟩) ∧ wx.heap[B]? = some (.cells #[.int .i64 n, .slice (some ⟨g, 0, none⟩) l.length cap] 41 (0, 0)) ∧ w1.heap.size ≤ B ∧
    w1.heap.size ≤ g ∧ wx.heap[g]? = some (.cells (List.toArray L) 5 (0, 0)) ∧ l.length ≤ cap ∧ cap ≤ maxLen ∧ L.length = cap ∧ L.take l.length = encs (Value.int .u8) l ∧ Below w1.heap.size w1 wx

set_option maxRecDepth 100000 in
theorem rsave_no (n : Int) (A : Option Addr) (c : Nat) (l : List Int) (at_ w0 : Int) (wide : Bool) (w : World) (hC : CB w A l) (hc : l.length ≤ c) (hB : Bytes l) (h0 : 0 ≤ at_) (h1 : at_ ≤ 4294967295) (hm : mayS n l.length at_ wide = false) :
    Calls Try.prog 36 #[.agg #[.int .i64 n, .slice A l.length c], .int .u32 at_, .int .u32 w0, .bool wide] w fun e w' => e = .returned (.tuple #[.agg #[.int .i64 n, .slice A l.length c], .bool false]) ∧ Below w.heap.size w w' := by
  have HC := hid hC
  clear hC
  have HBy := hid hB
  clear hB
  have main : ∀ b, okS l.length at_ wide = b → (b = true → at_ - 65536 < n) → Calls Try.prog 36 #[.agg #[.int .i64 n, .slice A l.length c], .int .u32 at_, .int .u32 w0, .bool wide] w fun e w' => e = .returned (.tuple #[.agg #[.int .i64 n, .slice A l.length c], .bool false]) ∧ Below w.heap.size w w' := by
    intro b hb hn
    have hl2 : (loadS l at_ wide).2 = b := by unfold loadS; rw [hb]; cases b <;> rfl
    have HL2 := hid hl2
    clear hl2
    cases b
    · clear hm hn
      go_enter Try.func36, Try.ntmps36
      go_wp2_with fail
      refine (rload_c n A c l at_ wide _ (Kd.C_below HC.out (below_alloc (below_alloc (Below.refl _ _) _) _)) hc HBy.out h0 h1).mono ?_
      rintro e w1 ⟨rfl, hb1⟩
      rw [HL2.out]
      have m1 := (hb1.block w.heap.size (by simp; omega)).trans (blk_at0 w _ _)
      have r1 := (hb1.block (w.heap.size + 1) (by simp)).trans (blk_at1 w _ _)
      obtain ⟨m10, m11, m12, m13, m14⟩ := blk2 m1
      obtain ⟨r10, r11, r12, r13, r14⟩ := blk2 r1
      have HB := hid (bthen (below_alloc (below_alloc (Below.refl w.heap.size w) _) _) hb1)
      clear hb1 m1 r1
      go_wp2
      refine bodyPost_ret (v := .tuple #[.agg #[.int .i64 n, .slice A l.length c], .bool false]) (by simp [results, Try.results36, go_sem, m10, m11, m12, m13, m14, r10, r11, r12, r13, r14]) rfl ⟨rfl, ?_⟩
      repeat (first | exact HB.out | refine Below.setCell ?_ (by simp) _)
    · have hn' := hn rfl
      clear hm hn
      go_enter Try.func36, Try.ntmps36
      go_wp2_with fail
      refine (rload_c n A c l at_ wide _ (Kd.C_below HC.out (below_alloc (below_alloc (Below.refl _ _) _) _)) hc HBy.out h0 h1).mono ?_
      rintro e w1 ⟨rfl, hb1⟩
      rw [HL2.out]
      have m1 := (hb1.block w.heap.size (by simp; omega)).trans (blk_at0 w _ _)
      have r1 := (hb1.block (w.heap.size + 1) (by simp)).trans (blk_at1 w _ _)
      obtain ⟨m10, m11, m12, m13, m14⟩ := blk2 m1
      obtain ⟨r10, r11, r12, r13, r14⟩ := blk2 r1
      have HB := hid (bthen (below_alloc (below_alloc (Below.refl w.heap.size w) _) _) hb1)
      clear hb1 m1 r1
      go_wp2
      refine bodyPost_ret (v := .tuple #[.agg #[.int .i64 n, .slice A l.length c], .bool false]) (by simp [results, Try.results36, go_sem, m10, m11, m12, m13, m14, r10, r11, r12, r13, r14]) rfl ⟨rfl, ?_⟩
      repeat (first | exact HB.out | refine Below.setCell ?_ (by simp) _)
  exact main _ rfl (fun h => by unfold mayS at hm; rw [h] at hm; simpa using hm)

theorem splice_snoc {L cs : List Value} {off : Nat} (x : Value) (h : off + cs.length < L.length) : (splice L off cs).set (off + cs.length) x = splice L off (cs ++ [x]) := by
  unfold splice
  have h1 : (L.take off ++ cs).length = off + cs.length := by rw [List.length_append, List.length_take]; omega
  rw [← List.append_assoc, List.set_append_right _ _ (by omega), h1, Nat.sub_self, List.drop_eq_getElem_cons h, List.set_cons_zero]
  simp [Nat.add_assoc]

/-- The state of the loop: k bytes of four have been saved. -/
def St (w : World) (n : Int) (len : Nat) (g cap B p i : Nat) (L P : List Value) (w0 : Int) (k : Nat) (wx : World) : Prop :=
  wx.heap[g]? = some (.cells (splice L i (encs (Value.int .u8) ((bsS w0 true).take k))).toArray 5 (0, 0)) ∧
  wx.heap[B]? = some (.cells #[.int .i64 n, .slice (some ⟨g, 0, none⟩) len cap] 41 (0, 0)) ∧
  wx.heap[p]? = some (.cells P.toArray 5 (0, 0)) ∧
  wx.heap[w.heap.size + 1]? = some (.cells #[.int .i64 0, .slice none 0 0] 41 (0, 0)) ∧ Below w.heap.size w wx

theorem St.step {w wx : World} {n : Int} {len g cap B p i : Nat} {L P : List Value} {w0 : Int} {k : Nat} (h : St w n len g cap B p i L P w0 k wx) (hk : k < 4) (hi : i + k < L.length) (h1 : g ≠ p) (h2 : w.heap.size + 1 < g) (x : Int) (hx : (bsS w0 true)[k]? = some x) :
    St w n len g cap B p i L P w0 (k + 1) (wx.setCell ⟨g, i + k, none⟩ (.int .u8 x)) := by
  obtain ⟨a1, a2, a3, a4, a5⟩ := h
  have h3 : g ≠ B := by
    rintro rfl
    rw [a1] at a2
    injection a2 with a2
    injection a2 with _ a2
    exact absurd a2 (by decide)
  refine ⟨?_, ?_, ?_, ?_, a5.setCell (by simp; omega) _⟩
  · have hl : ((bsS w0 true).take k).length = k := by rw [List.length_take]; have : (bsS w0 true).length = 4 := rfl; omega
    have e : (bsS w0 true).take (k + 1) = (bsS w0 true).take k ++ [x] := by
      rw [List.take_add_one, hx]; rfl
    have e2 : splice L i (encs (Value.int .u8) ((bsS w0 true).take (k + 1))) = (splice L i (encs (Value.int .u8) ((bsS w0 true).take k))).set (i + k) (.int .u8 x) := by
      rw [e]
      have h4 : (encs (Value.int .u8) ((bsS w0 true).take k)).length = k := by simp only [encs, List.length_map]; exact hl
      have := splice_snoc (L := L) (cs := encs (Value.int .u8) ((bsS w0 true).take k)) (off := i) (.int .u8 x) (by rw [h4]; omega)
      rw [h4] at this
      rw [this]; simp [encs]
    rw [e2]
    simp [World.setCell, Array.getElem?_modify, a1]
  · rw [Below.heap_setCell _ _ _ _ (by simpa using Ne.symm h3)]; exact a2
  · rw [Below.heap_setCell _ _ _ _ (by simpa using Ne.symm h1)]; exact a3
  · rw [Below.heap_setCell _ _ _ _ (by simp; omega)]; exact a4
theorem St.drew {w wx : World} {n : Int} {len g cap B p i : Nat} {L P : List Value} {w0 : Int} {k : Nat} (h : St w n len g cap B p i L P w0 k wx) : St w n len g cap B p i L P w0 k wx.drew :=
  ⟨h.1, h.2.1, h.2.2.1, h.2.2.2.1, h.2.2.2.2.drew⟩
theorem St.cellP {w wx : World} {n : Int} {len g cap B p i : Nat} {L P : List Value} {w0 : Int} {k : Nat} (h : St w n len g cap B p i L P w0 k wx) (hP : P.take 4 = encs (Value.int .u8) (bsS w0 true)) (j : Nat) (x : Int) (hx : (bsS w0 true)[j]? = some x) : wx.cell? ⟨p, j, none⟩ = some (.int .u8 x) := by
  have hj : j < 4 := by have := (List.getElem?_eq_some_iff.1 hx).1; simpa [bsS] using this
  have : P[j]? = some (.int .u8 x) := by
    have h1 : (P.take 4)[j]? = some (.int .u8 x) := by rw [hP]; simp [encs, hx]
    rw [List.getElem?_take_of_lt hj] at h1
    exact h1
  simp [World.cell?, h.2.2.1, this]
theorem St.cellG {w wx : World} {n : Int} {len g cap B p i : Nat} {L P : List Value} {w0 : Int} {k : Nat} (h : St w n len g cap B p i L P w0 k wx) (hi : i + 4 ≤ L.length ∨ k = 0) (hk : k ≤ 4) (j : Nat) (hj : j < L.length) : (∃ v, wx.cell? ⟨g, j, none⟩ = some v) ∧ wx.frozen? ⟨g, j, none⟩ = false := by
  have hl : ((bsS w0 true).take k).length = k := by rw [List.length_take]; have : (bsS w0 true).length = 4 := rfl; omega
  have h4 : (encs (Value.int .u8) ((bsS w0 true).take k)).length = k := by simp only [encs, List.length_map]; exact hl
  have hlen : (splice L i (encs (Value.int .u8) ((bsS w0 true).take k))).length = L.length := by
    rcases hi with hi | hi
    · exact length_splice _ _ _ (by rw [h4]; omega)
    · subst hi; simp [splice, encs]
  refine ⟨⟨(splice L i (encs (Value.int .u8) ((bsS w0 true).take k)))[j]'(by omega), ?_⟩, by simp [World.frozen?, h.1]⟩
  simp [World.cell?, h.1, List.getElem?_eq_getElem (show j < (splice L i (encs (Value.int .u8) ((bsS w0 true).take k))).length by omega)]

set_option maxRecDepth 100000 in
theorem rsave_yes (n : Int) (A : Option Addr) (c : Nat) (l : List Int) (at_ w0 : Int) (wide : Bool) (w : World) (hC : CB w A l) (hc : l.length ≤ c) (hB : Bytes l) (hl : l.length ≤ 140737488351232) (h0 : 0 ≤ at_) (h1 : at_ ≤ 4294967295) (hw0 : 0 ≤ w0) (hw1 : w0 ≤ 4294967295) (hm : mayS n l.length at_ wide = true) :
    Calls Try.prog 36 #[.agg #[.int .i64 n, .slice A l.length c], .int .u32 at_, .int .u32 w0, .bool wide] w fun e w' => ∃ v, e = .returned (.tuple #[.agg #[.int .i64 n, v], .bool true]) ∧ RB w' w.heap.size v (putAt l (at_ - 65536).toNat (bsS w0 wide)) ∧ Below w.heap.size w w' := by
  have HC := hid hC
  have HBy := hid hB
  clear hC hB
  have ho : okS l.length at_ wide = true := by unfold mayS at hm; simp at hm; exact hm.1
  have hn : n ≤ at_ - 65536 := by unfold mayS at hm; simp at hm; omega
  have hl2 : (loadS l at_ wide).2 = true := by unfold loadS; rw [ho]; rfl
  have HL2 := hid hl2
  obtain ⟨o1, o2, o3⟩ := okS_true ho
  have HO := hid ho
  clear hm o3 hl2 ho
  go_enter Try.func36, Try.ntmps36
  go_wp2_with fail
  refine (rload_c n A c l at_ wide _ (Kd.C_below HC.out (below_alloc (below_alloc (Below.refl _ _) _) _)) hc HBy.out h0 h1).mono ?_
  rintro e w1 ⟨rfl, hb1⟩
  rw [HL2.out]
  have m1 := (hb1.block w.heap.size (by simp; omega)).trans (blk_at0 w _ _)
  have r1 := (hb1.block (w.heap.size + 1) (by simp)).trans (blk_at1 w _ _)
  have HB1 := hid (bthen (below_alloc (below_alloc (Below.refl w.heap.size w) _) _) hb1)
  have M1 := hid m1
  have R1 := hid r1
  obtain ⟨m10, m11, m12, m13, m14⟩ := blk2 m1
  obtain ⟨r10, r11, r12, r13, r14⟩ := blk2 r1
  clear hb1 m1 r1
  go_wp2_with fail
  have hpos : 0 < l.length := by have := szS_range wide; omega
  have ne0 : ¬ w.heap.size = w1.heap.size := by omega
  have ne1 : ¬ w.heap.size = w1.heap.size + 1 := by omega
  have ne2 : ¬ w1.heap.size = w.heap.size := by omega
  have ne3 : ¬ w1.heap.size + 1 = w.heap.size := by omega
  go_cut [13] (fun s13 wx => Made n l w.heap.size w.heap.size w1 s13 wx)
  case first =>
    go_region_held3 (fun w' => w'.cell? ⟨w.heap.size, 0, none⟩ = some (.int .i64 n) ∧ w'.cell? ⟨w.heap.size, 1, none⟩ = some (.slice A l.length c)) (go_keep)
      ((refine app_step0 (w0 := w1) w1.heap.size (by rfl) _ _ (by rfl) _ l A c (by rfl) (by rfl) (by first | exact R_empty_at (heap_alloc_new _ _) (Nat.le_refl _) | exact R_empty_at (blk_at0 _ _ _) (Nat.le_refl _) | exact R_empty_at (blk_at1 _ _ _) (Nat.le_succ _)) (Kd.C_below HC.out (by repeat (first | exact HB1.out | refine below_alloc ?_ _ | refine below_drew ?_))) (by repeat (first | exact Below.refl _ _ | refine below_alloc ?_ _ | refine below_drew ?_)) (by first | (simp; done) | (simp; omega)) (by omega) hpos ?_; intro g cap L w2 hg0 hg1 hg2 hg3 hg4 hg5 hb2 hgr; have qc := grown_cell hgr; have qf := grown_frozen hgr; have qs := hgr.size; have k0 := (hb2.cell (p := ⟨w.heap.size, 0, none⟩) m14).trans m10; have k1 := (hb2.cell (p := ⟨w.heap.size, 1, none⟩) m14).trans m11; have k2 : w.heap.size < w2.heap.size := Nat.lt_of_lt_of_le m14 hb2.size))
    · go_wp2_with fail
      go_meet
      exact ⟨g, cap, w2.heap.size, L, rfl, heap_alloc_new _ _, hb2.size, hg0.out, (Below.heap_alloc _ _ _ (Array.getElem?_eq_some_iff.1 hg1.out).1).trans hg1.out, hg2, hg3, hg4.out, hg5.out, below_alloc hb2 _⟩
    · go_wp2_with fail
      go_meet
      have hB := (hgr.block (w1.heap.size + 1) (by simp) (by show some (w1.heap.size + 1) ≠ some w1.heap.size; simp)).trans (blk_at1 w1 _ _)
      obtain ⟨t1, t2⟩ := two_set (.int .i64 n) (.slice (some ⟨g, 0, none⟩) l.length cap) hB hg1.out
      exact ⟨g, cap, w1.heap.size + 1, L, rfl, t1, by omega, hg0.out, t2, hg2, hg3, hg4.out, hg5.out, (hb2.setCell (by simp) _).setCell (by simp) _⟩
    · go_wp2_with fail
      go_meet
      have hB := (hgr.block w1.heap.size (by simp; omega) (by show some w1.heap.size ≠ some (w1.heap.size + 1); simp)).trans (blk_at0 w1 _ _)
      obtain ⟨t1, t2⟩ := two_set (.int .i64 n) (.slice (some ⟨g, 0, none⟩) l.length cap) hB hg1.out
      exact ⟨g, cap, w1.heap.size, L, rfl, t1, by omega, hg0.out, t2, hg2, hg3, hg4.out, hg5.out, (hb2.setCell (by simp) _).setCell (by simp) _⟩
  case rest =>
    obtain ⟨g, cap, B, L, rfl, hB, hB1, hg0, hg1, hg2, hg3, hg4, hg5, hb2⟩ := hcut
    have HBo := hid hB
    have HG := hid hg1
    have HL := hid hg4
    have HLt := hid hg5
    have hBlt := (blk2 hB).2.2.2.2
    have hglt : g < wc.heap.size := (Array.getElem?_eq_some_iff.1 hg1).1
    have HB2 := hid (bthen HB1.out hb2)
    have r3 := (hb2.block _ r14).trans R1.out
    have R3 := hid r3
    clear hB hg1 hg4 hg5 r3
    go_wp2_with fail
    refine (rput_form w0 hw0 hw1 _).mono ?_
    rintro e w3 ⟨p, pc, P, rfl, hp0, hp1, hp2, hp3⟩
    have m4 := (hp3.block B hBlt).trans HBo.out
    have g4 := (hp3.block g hglt).trans HG.out
    have r4 := (hp3.block _ (blk2 R3.out).2.2.2.2).trans R3.out
    have HB3 := hid (bthen HB2.out hp3)
    have G4 := hid g4
    have M4 := hid m4
    have R4 := hid r4
    have hp0' : g < p := by omega
    obtain ⟨m40, m41, m42, m43, m44⟩ := blk2 m4
    clear g4 m4 r4 hp3 hb2 m10 m11 m12 m13 r10 r11 r12 r13 r14 m14 ne0 ne1 ne2 ne3
    have hgB := (blk2 R1.out).2.2.2.2
    obtain ⟨i, hi⟩ : ∃ i : Nat, (i : Int) = at_ - 65536 := ⟨(at_ - 65536).toNat, by omega⟩
    have hiN : (at_ - 65536).toNat = i := by omega
    have HI := hid hiN
    have hLl : L.length = cap := HL.out
    have hS0 : Hid (St w n l.length g cap B p i L P w0 0 w3) := ⟨by simpa [splice, encs] using G4.out, M4.out, hp1.out, R4.out, HB3.out⟩
    have hs := szS_range wide
    have q0 := hS0.out.cellP hp2.out 0 (w0 % 256) rfl
    obtain ⟨⟨v0, q1⟩, q2⟩ := hS0.out.cellG (.inr rfl) (by omega) i (by omega)
    have q3 : i < l.length := by omega
    rw [← hiN] at q1 q2 q3
    have q4 : 0 ≤ at_ - 65536 := by omega
    have q5 : at_ - 65536 < (l.length : Int) := by omega
    have q6 : ¬ g = B := by
      intro e
      have a1 := G4.out
      rw [e, M4.out] at a1
      injection a1 with a1
      injection a1 with _ a1
      exact absurd a1 (by decide)
    have q7 : ¬ g = p := by omega
    have q8 : ¬ B = g := fun e => q6 e.symm
    have q9 : ¬ p = g := fun e => q7 e.symm
    clear hi hiN hLl hs
    go_wp2_with fail
    go_region_held3 (fun w' => w'.cell? ⟨B, 1, none⟩ = some (.slice (some ⟨g, 0, none⟩) l.length cap) ∧ w'.cell? ⟨p, 0, none⟩ = some (.int .u8 (w0 % 256))) (go_keep) (fail)
    have HS1 : Hid (St w n l.length g cap B p i L P w0 1 (w3.setCell ⟨g, (at_ - 65536).toNat, none⟩ (.int .u8 (w0 % 256))).drew) := by
      have := (hS0.out.step (by omega) (by rw [HL.out]; have := HI.out; omega) q7 (by omega) (w0 % 256) rfl).drew
      rw [HI.out]; exact this
    obtain ⟨W4, hW4⟩ : ∃ W4, W4 = (w3.setCell ⟨g, (at_ - 65536).toNat, none⟩ (.int .u8 (w0 % 256))).drew := ⟨_, rfl⟩
    rw [← hW4] at HS1 ⊢
    clear hW4 q0 q1 q2 v0 m40 m41 m42 m43 m44
    have hfin : ∀ (bs : List Int) (wx : World), i + bs.length ≤ l.length → wx.heap[g]? = some (.cells (splice L i (encs (Value.int .u8) bs)).toArray 5 (0, 0)) → RB wx w.heap.size (.slice (some ⟨g, 0, none⟩) l.length cap) (putAt l i bs) := by
      intro bs wx hle h1
      exact RB_mk l.length (putAt_length hle).symm (by omega) h1 hg2 hg3 (by rw [List.size_toArray, length_splice _ _ _ (by have := HL.out; simp [encs]; omega)]; exact HL.out) (by exact splice_take L l bs i (by rw [HL.out]; exact hg2) hle HLt.out)
    have HFIN := hid hfin
    clear hfin
    cases wide
    · go_wp2_with fail
      go_loopw [15] (fun s15 wx => s15 = .int .i64 1 ∧ Hid (St w n l.length g cap B p i L P w0 1 wx)) (fun s15 _ => 4 - (intOf s15).toNat)
      case atStart => exact ⟨rfl, HS1⟩
      case round =>
        obtain ⟨rfl, hst⟩ := hrel
        obtain ⟨m50, m51, m52, m53, m54⟩ := blk2 hst.out.2.1
        obtain ⟨r50, r51, r52, r53, r54⟩ := blk2 hst.out.2.2.2.1
        go_wp2
        refine bodyPost_ret (v := .tuple #[.agg #[.int .i64 n, .slice (some ⟨g, 0, none⟩) l.length cap], .bool true]) (by simp [results, Try.results36, go_sem, m50, m51, m52, m53, m54, r50, r51, r52, r53, r54]) rfl ⟨_, rfl, ?_, ?_⟩
        · rw [HI.out]
          refine HFIN.out (bsS w0 false) _ (by have := HI.out; have : (bsS w0 false).length = 1 := rfl; have o2' : at_ - 65536 + 1 ≤ (l.length : Int) := o2; omega) ?_
          repeat (first | exact hst.out.1 | refine (Below.heap_setCell _ _ _ _ (by simp; omega)).trans ?_)
        · repeat (first | exact hst.out.2.2.2.2 | refine Below.setCell ?_ (by simp) _)
    · go_wp2_with fail
      go_loopw [15] (fun s15 wx => ∃ k : Nat, 1 ≤ k ∧ k ≤ 4 ∧ s15 = .int .i64 k ∧ Hid (St w n l.length g cap B p i L P w0 k wx)) (fun s15 _ => 4 - (intOf s15).toNat)
      case atStart => exact ⟨1, by omega, by omega, rfl, HS1⟩
      case round =>
        obtain ⟨k, hk1, hk2, rfl, hst⟩ := hrel
        obtain ⟨m50, m51, m52, m53, m54⟩ := blk2 hst.out.2.1
        by_cases hk : k < 4
        · have o2' : at_ - 65536 + 4 ≤ (l.length : Int) := o2
          obtain ⟨x, hx⟩ : ∃ x, (bsS w0 true)[k]? = some x := ⟨_, List.getElem?_eq_getElem (show k < (bsS w0 true).length from hk)⟩
          have q0 := hst.out.cellP hp2.out k x hx
          have HX := hid hx
          have e1 : (at_ - 65536 + (k : Int)).toNat = i + k := by have := HI.out; omega
          obtain ⟨⟨v0, q1⟩, q2⟩ := hst.out.cellG (.inl (by have := HL.out; have := HI.out; omega)) hk2 (i + k) (by have := HL.out; have := HI.out; omega)
          rw [← e1] at q1 q2
          have E1 := hid e1
          have b1 : 0 ≤ at_ - 65536 + (k : Int) := by omega
          have b2 : at_ - 65536 + (k : Int) < (l.length : Int) := by omega
          have b3 : (0 : Int) ≤ (k : Int) := by omega
          have b4 : (k : Int) < 4 := by omega
          have bw : IntKind.i64.wrap (at_ - 65536 + (k : Int)) = at_ - 65536 + (k : Int) := IntWalk.i64_in _ (by omega)
          clear hx e1
          go_wp2_with fail
          go_region_held3 (fun w' => w'.cell? ⟨B, 1, none⟩ = some (.slice (some ⟨g, 0, none⟩) l.length cap) ∧ w'.cell? ⟨p, k, none⟩ = some (.int .u8 x)) (go_keep) (fail)
          go_wp2_with fail
          go_roundw
          case rel =>
            refine ⟨k + 1, by omega, by omega, by go_num, ?_⟩
            rw [E1.out]
            exact (hst.out.step hk (by have := HL.out; have := HI.out; omega) q7 (by omega) x HX.out).drew
          case measure => simp [intOf]; omega
        · have hk4 : k = 4 := by omega
          subst hk4
          obtain ⟨r50, r51, r52, r53, r54⟩ := blk2 hst.out.2.2.2.1
          go_wp2
          refine bodyPost_ret (v := .tuple #[.agg #[.int .i64 n, .slice (some ⟨g, 0, none⟩) l.length cap], .bool true]) (by simp [results, Try.results36, go_sem, m50, m51, m52, m53, m54, r50, r51, r52, r53, r54]) rfl ⟨_, rfl, ?_, ?_⟩
          · rw [HI.out]
            refine HFIN.out (bsS w0 true) _ (by have := HI.out; have : (bsS w0 true).length = 4 := rfl; have o2' : at_ - 65536 + 4 ≤ (l.length : Int) := o2; omega) ?_
            repeat (first | exact hst.out.1 | refine (Below.heap_setCell _ _ _ _ (by simp; omega)).trans ?_)
          · repeat (first | exact hst.out.2.2.2.2 | refine Below.setCell ?_ (by simp) _)
end Go.Proofs.Ytkolcgnembaghaa.H
