/- The contracts of layer 5's functions. -/
import Derived.Test.YtkolcgnembaghaaStoreM
import Derived.Laws.CopyOwn
import Derived.Deep.RegionLaw
import Derived.Deep.RegionHeld3
namespace Go.Proofs.Ytkolcgnembaghaa.H
open Go.RowKit Go.Proofs.YtkolcgnembaghaaW.PrintWords Go.Proofs.YtkolcgnembaghaaW.PrintLast Go.Proofs.YtkolcgnembaghaaW.PrintMore Go.Proofs.Ytkolcgnembaghaa.F
set_option linter.unusedVariables false
set_option linter.unusedSimpArgs false

abbrev RB (w : World) (base : Nat) (v : Value) (l : List Int) : Prop := Kd.R (Kd.int .u8) 5 w base (fun _ => True) v l
abbrev CB (w : World) (A : Option Addr) (l : List Int) : Prop := Kd.C (Kd.int .u8) w A l.length l

theorem info5 : (Try.prog.info? 5).map (fun i => (i.zero, i.size, i.bytes)) = some (some (.int .u8 0), 1, 1) := by kernel_rfl
theorem app_c {ops : Array Oper} {rest : List Oper} {o : Oper} {a : Act} {Q : Exit → Act → World → Prop} {w0 W : World} (base : Nat) (hgd : o.guard = none) (s x : Operand)
    (ho : o.op = .call { callee := .builtin .append, args := #[s, x], argTypes := #[23, 23] }) (v : Value) (xs ys : List Int) (A : Option Addr) (c : Nat) (hs : a.eval s = v) (hx : a.eval x = .slice A ys.length c)
    (HO : RB W base v xs) (HR : CB W A ys) (HB : Below base w0 W) (hbase : base ≤ W.heap.size) (hl : xs.length + ys.length ≤ 140737488355328)
    (h : ∀ v1 w1, RB w1 base v1 (xs ++ ys) → Below base w0 w1 → W.grownBy w1 v.ownBlock → (v1.ownBlock = v.ownBlock ∨ ∃ b, v1.ownBlock = some b ∧ W.heap.size ≤ b) → wpList Try.prog ops Q rest (a.put o.dst v1) w1) :
    wpList Try.prog ops Q (o :: rest) a W :=
  Kd.R_append_row (Value.int .u8) 0 base hgd s x 23 5 (.int .u8 0) 1 ho Try.underlying23 info5 rfl (by omega) v xs ys A ys.length c (fun _ => True) hs hx (fun _ _ => trivial) HO HR HB hbase (by omega) h

theorem R_empty (w : World) : RB (w.alloc (.cells #[] 5)) w.heap.size (.slice (some ⟨w.heap.size, 0, none⟩) 0 0) [] :=
  ⟨fun _ _ => trivial, [], ⟨World.ownsRow_made w #[] 0 (Nat.le_refl _) (by decide) (by simp), Reps.none _ _⟩⟩

theorem eq_nil_some (a : Addr) (n c : Nat) (w : World) : (binOp .eql 23 (.slice (some a) n c) (.slice none 0 0)).run Try.prog w = .ok (.bool false) w := by
  have h : ∀ d : Nat, (Op.equalIn (d + 1) 23 (.slice (some a) n c) (.slice none 0 0)).run Try.prog w = .ok false w := fun d => by
    simp [Op.equalIn, run_underlying Try.underlying23]
  simp only [binOp]
  simp [Op.equal, Op.maxDepth, h 9999]
theorem eq_nil_none (n c : Nat) (w : World) : (binOp .eql 23 (.slice none n c) (.slice none 0 0)).run Try.prog w = .ok (.bool true) w := by
  have h : ∀ d : Nat, (Op.equalIn (d + 1) 23 (.slice none n c) (.slice none 0 0)).run Try.prog w = .ok true w := fun d => by
    simp [Op.equalIn, run_underlying Try.underlying23]
  simp only [binOp]
  simp [Op.equal, Op.maxDepth, h 9999]

theorem clone_c (A : Option Addr) (c : Nat) (l : List Int) (w : World) (hC : CB w A l) (hc : l.length ≤ c) (hl : l.length ≤ 140737488351232) :
    Calls Try.prog 54 #[.slice A l.length c] w fun e w' => ∃ v, e = .returned v ∧ RB w' w.heap.size v l ∧ Below w.heap.size w w' := by
  have HC := hid hC
  clear hC
  rcases A with _ | a
  · have hn : l = [] := by
      have := HC.out.2.2
      rcases Nat.eq_zero_or_pos l.length with h | h
      · exact List.eq_nil_of_length_eq_zero h
      · obtain ⟨ad, h, _⟩ := this h; cases h
    subst hn
    have he := eq_nil_none 0 c
    go_enter Try.func54, Try.ntmps54
    go_wp2
    go_ret
    exact ⟨_, rfl, Kd.R_nil _ _ _ _ _, Below.refl _ _⟩
  · have he := eq_nil_some a l.length c
    go_enter Try.func54, Try.ntmps54
    go_wp2_with (at_builtin; refine app_c (w0 := w) w.heap.size rfl (.tmp 5) (.tmp 6) rfl _ [] l (some a) c rfl rfl (R_empty w) (Kd.C_below HC.out ((Below.refl _ _).alloc (Nat.le_refl _) _)) ((Below.refl _ _).alloc (Nat.le_refl _) _) (by simp) (by simp; omega) ?_; intro v1 w1 hr hb hg hat)
    go_ret
    exact ⟨_, rfl, hr, hb⟩

theorem place_c (n : Int) (A : Option Addr) (c : Nat) (l : List Int) (at_ : Int) (wide : Bool) (w : World) (hC : CB w A l) (hc : l.length ≤ c) (hl : l.length ≤ 4611686018427387904) (h0 : 0 ≤ at_) (h1 : at_ ≤ 4294967295) :
    Calls Try.prog 51 #[.agg #[.int .i64 n, .slice A l.length c], .int .u32 at_, .bool wide] w fun e w' => e = .returned (.tuple #[.int .i64 (at_ - 65536), .bool (okS l.length at_ wide)]) ∧ Below w.heap.size w w' :=
  store_place.calls n A c l at_ wide _ _ w hC hc (place_eq n l at_ wide hl h0 h1)
theorem size_c (wide : Bool) (w : World) : Calls Try.prog 52 #[.bool wide] w fun e w' => e = .returned (.int .i64 (szS wide)) ∧ Drawn0 w w' := store_size.calls wide _ w (size_eq wide)
theorem load_c (n : Int) (A : Option Addr) (c : Nat) (l : List Int) (at_ : Int) (wide : Bool) (w : World) (hC : CB w A l) (hc : l.length ≤ c) (hB : Bytes l) (hl : l.length ≤ 4611686018427387904) (h0 : 0 ≤ at_) (h1 : at_ ≤ 4294967295) :
    Calls Try.prog 33 #[.agg #[.int .i64 n, .slice A l.length c], .int .u32 at_, .bool wide] w fun e w' => e = .returned (.tuple #[.int .u32 (loadS l at_ wide).1, .bool (loadS l at_ wide).2]) ∧ Below w.heap.size w w' :=
  store_Load.calls 5 n A c l at_ wide _ _ w hC hc (load_eq n l at_ wide hB hl h0 h1)
theorem rload_c (n : Int) (A : Option Addr) (c : Nat) (l : List Int) (at_ : Int) (wide : Bool) (w : World) (hC : CB w A l) (hc : l.length ≤ c) (hB : Bytes l) (h0 : 0 ≤ at_) (h1 : at_ ≤ 4294967295) :
    Calls Try.prog 34 #[.agg #[.int .i64 n, .slice A l.length c], .int .u32 at_, .bool wide] w fun e w' => e = .returned (.tuple #[.int .u32 (loadS l at_ wide).1, .bool (loadS l at_ wide).2]) ∧ Below w.heap.size w w' :=
  spliceref05_Load.calls 6 n A c l at_ wide _ _ w hC hc (refload_eq n l at_ wide hB h0 h1)
theorem msame_c (n m : Int) (A B : Option Addr) (c d : Nat) (l k : List Int) (w : World) (hC : CB w A l) (hc : l.length ≤ c) (hD : CB w B k) (hd : k.length ≤ d) (hl : l.length ≤ 4611686018427387904) :
    Calls Try.prog 37 #[.agg #[.int .i64 n, .slice A l.length c], .agg #[.int .i64 m, .slice B k.length d]] w fun e w' => e = .returned (.bool (decide (n = m ∧ l = k))) ∧ Below w.heap.size w w' :=
  spliceref05_Same.calls (l.length + 1) n A c l m B d k _ w hC hc hD hd (refmemsame_eq n m l k hl)

theorem bcell {W w1 : World} (hb : Below W.heap.size W w1) : (∀ b o, b < W.heap.size → w1.cell? ⟨b, o, none⟩ = W.cell? ⟨b, o, none⟩) ∧ (∀ b o, b < W.heap.size → w1.frozen? ⟨b, o, none⟩ = W.frozen? ⟨b, o, none⟩) :=
  ⟨fun b o h => hb.cell (p := ⟨b, o, none⟩) h, fun b o h => hb.frozen (p := ⟨b, o, none⟩) h⟩
theorem bthen {w W W' : World} (h : Below w.heap.size w W) (k : Below W.heap.size W W') : Below w.heap.size w W' := below_then h h.size k

set_option maxRecDepth 100000 in
theorem save_no (n : Int) (A : Option Addr) (c : Nat) (l : List Int) (at_ w0 : Int) (wide : Bool) (w : World) (hC : CB w A l) (hc : l.length ≤ c) (hl : l.length ≤ 140737488351232) (h0 : 0 ≤ at_) (h1 : at_ ≤ 4294967295) (hm : mayS n l.length at_ wide = false) :
    Calls Try.prog 35 #[.agg #[.int .i64 n, .slice A l.length c], .int .u32 at_, .int .u32 w0, .bool wide] w fun e w' => e = .returned (.tuple #[.agg #[.int .i64 n, .slice A l.length c], .bool false]) ∧ Below w.heap.size w w' := by
  have HC := hid hC
  clear hC
  have main : ∀ b, okS l.length at_ wide = b → (b = true → at_ - 65536 < n) → Calls Try.prog 35 #[.agg #[.int .i64 n, .slice A l.length c], .int .u32 at_, .int .u32 w0, .bool wide] w fun e w' => e = .returned (.tuple #[.agg #[.int .i64 n, .slice A l.length c], .bool false]) ∧ Below w.heap.size w w' := by
    intro b hb hn
    cases b
    · clear hm hn
      go_enter Try.func35, Try.ntmps35
      go_wp2_with fail
      refine (place_c n A c l at_ wide _ (Kd.C_below HC.out (below_alloc (below_alloc (Below.refl _ _) _) _)) hc (by omega) h0 h1).mono ?_
      rintro e w1 ⟨rfl, hb1⟩
      obtain ⟨hcc, hff⟩ := bcell hb1
      have hz : w.heap.size + 1 < w1.heap.size := by have := hb1.size; simp at this; omega
      have HB := hid (bthen (below_alloc (below_alloc (Below.refl w.heap.size w) _) _) hb1)
      clear hb1
      go_wp2
      refine bodyPost_ret (v := .tuple #[.agg #[.int .i64 n, .slice A l.length c], .bool false]) (by simp [results, Try.results35, go_sem, hcc, hz]) rfl ⟨rfl, ?_⟩
      repeat (first | exact HB.out | refine Below.setCell ?_ (by simp) _)
    · have hn' := hn rfl
      clear hm hn
      go_enter Try.func35, Try.ntmps35
      go_wp2_with fail
      refine (place_c n A c l at_ wide _ (Kd.C_below HC.out (below_alloc (below_alloc (Below.refl _ _) _) _)) hc (by omega) h0 h1).mono ?_
      rintro e w1 ⟨rfl, hb1⟩
      obtain ⟨hcc, hff⟩ := bcell hb1
      have hz : w.heap.size + 1 < w1.heap.size := by have := hb1.size; simp at this; omega
      have HB := hid (bthen (below_alloc (below_alloc (Below.refl w.heap.size w) _) _) hb1)
      clear hb1
      go_wp2
      refine bodyPost_ret (v := .tuple #[.agg #[.int .i64 n, .slice A l.length c], .bool false]) (by simp [results, Try.results35, go_sem, hcc, hz]) rfl ⟨rfl, ?_⟩
      repeat (first | exact HB.out | refine Below.setCell ?_ (by simp) _)
  exact main _ rfl (fun h => by unfold mayS at hm; rw [h] at hm; simpa using hm)

theorem blk2 {w : World} {B : Nat} {a b : Value} {t : TypeId} (h : w.heap[B]? = some (.cells #[a, b] t (0, 0))) :
    w.cell? ⟨B, 0, none⟩ = some a ∧ w.cell? ⟨B, 1, none⟩ = some b ∧ w.frozen? ⟨B, 0, none⟩ = false ∧ w.frozen? ⟨B, 1, none⟩ = false ∧ B < w.heap.size := by
  refine ⟨by simp [World.cell?, h], by simp [World.cell?, h], by simp [World.frozen?, h], by simp [World.frozen?, h], (Array.getElem?_eq_some_iff.1 h).1⟩
theorem sl_from (a : Addr) (n c : Nat) (i : Int) (h0 : 0 ≤ i) (h1 : i ≤ n) (hc : i < c) (W : World) : (Instr.slice 23 (.slice (some a) n c) (some (.int .i64 i)) none none).run Try.prog W = .ok (.slice (some (a.add i.toNat)) (n - i.toNat) (c - i.toNat)) W := by
  have hel : Try.prog.elem 23 = 5 := by simp [Program.elem, Try.underlying23]
  obtain ⟨i0, hi, hz0, hz1, hz2⟩ := info_parts info5
  rw [run_slice_l W 23 (some a) n c (by rw [hel]; exact Try.underlying23) .i64 i h0 h1, hel]
  simp [sizeOf, typeInfo, hi, hz1, sliced, Result.andThen]
  omega

theorem bs_cells {W : World} {p : Nat} {w0 : Int} {t : TypeId} (wide : Bool) (h : W.heap[p]? = some (.cells #[.int .u8 (w0 % 256), .int .u8 (w0 / 256 % 256), .int .u8 (w0 / 65536 % 256), .int .u8 (w0 / 16777216)] t (0, 0))) :
    ∀ (j : Nat) (v : Value), (encs (Value.int .u8) (bsS w0 wide))[j]? = some v → W.cell? ((⟨p, 0, none⟩ : Addr).add j) = some v := by
  intro j v hj
  rw [add_plain]
  cases wide
  · match j, hj with
    | 0, hj => simp [encs, bsS] at hj; simp [World.cell?, h, hj]
    | j + 1, hj => simp [encs, bsS] at hj
  · match j, hj with
    | 0, hj => simp [encs, bsS] at hj; simp [World.cell?, h, hj]
    | 1, hj => simp [encs, bsS] at hj; simp [World.cell?, h, hj]
    | 2, hj => simp [encs, bsS] at hj; simp [World.cell?, h, hj]
    | 3, hj => simp [encs, bsS] at hj; simp [World.cell?, h, hj]
    | j + 4, hj => simp [encs, bsS] at hj
theorem splice_take (L : List Value) (l bs : List Int) (off : Nat) (hL : l.length ≤ L.length) (hb : off + bs.length ≤ l.length) (h : L.take l.length = encs (Value.int .u8) l) :
    (splice L off (encs (Value.int .u8) bs)).take l.length = encs (Value.int .u8) (putAt l off bs) := by
  have e1 : (encs (Value.int .u8) bs).length = bs.length := by simp [encs]
  have e2 : L = encs (Value.int .u8) l ++ L.drop l.length := by rw [← h, List.take_append_drop]
  have e3 : (encs (Value.int .u8) l).length = l.length := by simp [encs]
  have e4 : splice L off (encs (Value.int .u8) bs) = encs (Value.int .u8) (putAt l off bs) ++ L.drop l.length := by
    unfold splice
    rw [e1]
    conv => lhs; rw [e2]
    rw [List.take_append_of_le_length (by omega), List.drop_append_of_le_length (by omega)]
    unfold putAt encs
    simp
  rw [e4, List.take_left' (by simp [encs]; exact putAt_length hb)]
theorem RB_mk {W : World} {base g cap : Nat} {l : List Int} {cur : Array Value} (n : Nat) (hn : n = l.length) (h0 : base ≤ g) (h1 : W.heap[g]? = some (.cells cur 5 (0, 0))) (h2 : n ≤ cap) (h3 : cap ≤ maxLen) (h4 : cur.size = cap) (h5 : cur.toList.take n = encs (Value.int .u8) l) :
    RB W base (.slice (some ⟨g, 0, none⟩) n cap) l := by
  subst hn
  exact Kd.R_of_own ⟨by simp [encs], .inr ⟨g, cap, cur, rfl, h0, h1, h2, h3, by omega, by simpa using h5⟩⟩ (fun _ _ => trivial)

theorem blk_at0 (w : World) (o o2 : Obj) : ((w.alloc o).alloc o2).heap[w.heap.size]? = some o := (Below.heap_alloc _ _ _ (by simp)).trans (heap_alloc_new _ _)
theorem blk_at1 (w : World) (o o2 : Obj) : ((w.alloc o).alloc o2).heap[w.heap.size + 1]? = some o2 := by
  have := heap_alloc_new (w.alloc o) o2
  simpa using this

set_option maxRecDepth 100000 in
theorem save_yes (n : Int) (A : Option Addr) (c : Nat) (l : List Int) (at_ w0 : Int) (wide : Bool) (w : World) (hC : CB w A l) (hc : l.length ≤ c) (hl : l.length ≤ 140737488351232) (h0 : 0 ≤ at_) (h1 : at_ ≤ 4294967295) (hw0 : 0 ≤ w0) (hw1 : w0 ≤ 4294967295) (hm : mayS n l.length at_ wide = true) :
    Calls Try.prog 35 #[.agg #[.int .i64 n, .slice A l.length c], .int .u32 at_, .int .u32 w0, .bool wide] w fun e w' => ∃ v, e = .returned (.tuple #[.agg #[.int .i64 n, v], .bool true]) ∧ RB w' w.heap.size v (putAt l (at_ - 65536).toNat (bsS w0 wide)) ∧ Below w.heap.size w w' := by
  have HC := hid hC
  clear hC
  have ho : okS l.length at_ wide = true := by unfold mayS at hm; simp at hm; exact hm.1
  have hn : n ≤ at_ - 65536 := by unfold mayS at hm; simp at hm; omega
  obtain ⟨o1, o2, o3⟩ := okS_true ho
  clear hm o3
  go_enter Try.func35, Try.ntmps35
  go_wp2_with fail
  refine (place_c n A c l at_ wide _ (Kd.C_below HC.out (below_alloc (below_alloc (Below.refl _ _) _) _)) hc (by omega) h0 h1).mono ?_
  rintro e w1 ⟨rfl, hb1⟩
  have m1 := (hb1.block w.heap.size (by simp; omega)).trans (blk_at0 w _ _)
  have r1 := (hb1.block (w.heap.size + 1) (by simp)).trans (blk_at1 w _ _)
  have HB1 := hid (bthen (below_alloc (below_alloc (Below.refl w.heap.size w) _) _) hb1)
  have M1 := hid m1
  have R1 := hid r1
  obtain ⟨m10, m11, m12, m13, m14⟩ := blk2 m1
  obtain ⟨r10, r11, r12, r13, r14⟩ := blk2 r1
  clear hb1 m1 r1
  go_wp2_with fail
  refine (put_c w0 hw0 hw1 _).mono ?_
  rintro e w2 ⟨rfl, hb2⟩
  have m2 := (hb2.block _ m14).trans M1.out
  have r2 := (hb2.block _ r14).trans R1.out
  have HB2 := hid (bthen HB1.out hb2)
  clear hb2 m10 m11 m12 m13 m14 r10 r11 r12 r13 r14
  have M2 := hid m2
  have R2 := hid r2
  obtain ⟨m20, m21, m22, m23, m24⟩ := blk2 m2
  obtain ⟨r20, r21, r22, r23, r24⟩ := blk2 r2
  clear m2 r2
  go_wp2_with fail
  refine (clone_c A c l _ (Kd.C_below HC.out (below_alloc HB2.out _)) hc hl).mono ?_
  rintro e w3 ⟨v, rfl, hR, hb3⟩
  have hz3 : w2.heap.size < w3.heap.size := by have := hb3.size; simp at this; omega
  have hown := Kd.own_of_R hR
  rcases hown.2 with ⟨_, h0l⟩ | ⟨g, cap, cur, rfl, hg0, hg1, hg2, hg3, hg4, hg5⟩
  · have := szS_range wide; omega
  have HB3 := hid (bthen (below_alloc HB2.out _) hb3)
  have HP := hid ((hb3.block w2.heap.size (by simp)).trans (heap_alloc_new w2 _))
  have HG := hid hg1
  have HG5 := hid hg5
  have HG4 := hid hg4
  have hg0' : w2.heap.size < g := by simp at hg0; omega
  have m3 := (hb3.block _ (by simp; omega)).trans ((Below.heap_alloc w2 _ _ m24).trans M2.out)
  have r3 := (hb3.block _ (by simp; omega)).trans ((Below.heap_alloc w2 _ _ r24).trans R2.out)
  have M3 := hid m3
  have R3 := hid r3
  obtain ⟨m30, m31, m32, m33, m34⟩ := blk2 m3
  obtain ⟨r30, r31, r32, r33, r34⟩ := blk2 r3
  clear hb3 hR hown hg1 hg4 hg5 hg0 m20 m21 m22 m23 m24 r20 r21 r22 r23 r24 m3 r3
  have hi0 : 0 ≤ at_ - 65536 := by omega
  have hs := szS_range wide
  have hsl := sl_from ⟨g, 0, none⟩ l.length cap (at_ - 65536) hi0 (by omega) (by omega)
  rw [add_plain] at hsl
  have hz4 : 0 ≤ szS wide := by omega
  have hz5 : szS wide ≤ 4 := by omega
  clear hs
  go_wp2_with fail
  obtain ⟨W, hW⟩ : ∃ W, W = w3.setCell ⟨w.heap.size, 1, none⟩ (.slice (some ⟨g, 0, none⟩) l.length cap) := ⟨_, rfl⟩
  rw [← hW]
  have M4 : Hid (W.heap[w.heap.size]? = some (.cells #[.int .i64 n, .slice (some ⟨g, 0, none⟩) l.length cap] 41 (0, 0))) := by
    rw [hW]; unfold Hid; simp [World.setCell, Array.getElem?_modify, M3.out]
  have R4 : Hid (W.heap[w.heap.size + 1]? = some (.cells #[.int .i64 0, .slice none 0 0] 41 (0, 0))) := by
    rw [hW]; unfold Hid; rw [Below.heap_setCell _ _ _ _ (by simp)]; exact R3.out
  have P4 := hid ((congrArg (fun x : World => x.heap[w2.heap.size]?) hW).trans ((Below.heap_setCell w3 ⟨w.heap.size, 1, none⟩ _ _ (by simp; have := (blk2 R2.out).2.2.2.2; omega)).trans HP.out))
  have G4 := hid ((congrArg (fun x : World => x.heap[g]?) hW).trans ((Below.heap_setCell w3 ⟨w.heap.size, 1, none⟩ _ _ (by simp; have := (blk2 R2.out).2.2.2.2; omega)).trans HG.out))
  have B4 : Hid (Below w.heap.size w W) := by rw [hW]; exact HB3.out.setCell (by simp) _
  have hz6 : w3.heap.size = W.heap.size := by rw [hW]; simp [World.setCell]
  clear hW m30 m31 m32 m33 m34 r30 r31 r32 r33 r34 M3 R3 HP HG HB3
  obtain ⟨m40, m41, m42, m43, m44⟩ := blk2 M4.out
  obtain ⟨L, rfl⟩ : ∃ L : List Value, cur = L.toArray := ⟨cur.toList, by simp⟩
  have hL : L.length = cap := by have := HG4.out; simpa using this
  have HL := hid hL
  have hLt : L.take l.length = encs (Value.int .u8) l := by have := HG5.out; simpa using this
  have HLt := hid hLt
  have hbl := bsS_length w0 wide
  have he1 : (encs (Value.int .u8) (bsS w0 wide)).length = (szS wide).toNat := by simp [encs, hbl]
  have HE := hid he1
  have hmin : (encs (Value.int .u8) (bsS w0 wide)).length = Nat.min (szS wide).toNat (l.length - (at_ - 65536).toNat) := by rw [he1]; show _ = min _ _; omega
  have hfit : (at_ - 65536).toNat + (encs (Value.int .u8) (bsS w0 wide)).length ≤ L.length := by rw [he1]; omega
  have HM := hid hmin
  have HF := hid hfit
  have HBC := hid (bs_cells (W := W) wide P4.out)
  clear hL hLt hbl he1 hmin hfit HG4 HG5
  have hlt : w.heap.size < w2.heap.size + 1 := by have := (blk2 R2.out).2.2.2.2; omega
  go_region_held3 (fun w' => w'.cell? ⟨w.heap.size, 1, none⟩ = some (.slice (some ⟨g, 0, none⟩) l.length cap)) ((first | exact (blk2 ((hb5.block w.heap.size hlt).trans M4.out)).2.1 | go_keep))
    (first | (go_at_call 52; refine (size_c wide _).mono ?_; rintro e w' ⟨rfl, ⟨nd, rfl⟩⟩) | (refine step_copy_splice rfl _ _ 23 23 (by rfl) 5 Try.underlying23 (by kernel_rfl) _ _ _ _ _ _ (by rfl) (by rfl) g (at_ - 65536).toNat L 5 G4.out (encs (Value.int .u8) (bsS w0 wide)) HM.out (fun _ => ⟨rfl, _, rfl, HBC.out⟩) HF.out (by intro v hv; simp [encs] at hv; obtain ⟨x, _, rfl⟩ := hv; rfl) (w2.heap.size + 1) W (pw_below_drewN (Below.refl _ _) _) (by omega) ?_; intro w5 HC5 hb5))
  have m5 := (hb5.block w.heap.size (by have := (blk2 R2.out).2.2.2.2; omega)).trans M4.out
  have r5 := (hb5.block (w.heap.size + 1) (by have := (blk2 R2.out).2.2.2.2; omega)).trans R4.out
  obtain ⟨m50, m51, m52, m53, m54⟩ := blk2 m5
  obtain ⟨r50, r51, r52, r53, r54⟩ := blk2 r5
  have B5 := hid (B4.out.trans (hb5.mono (show w.heap.size ≤ w2.heap.size + 1 by omega)))
  clear m5 r5 hb5 m40 m41 m42 m43 m44
  go_wp2
  refine bodyPost_ret (v := .tuple #[.agg #[.int .i64 n, .slice (some ⟨g, 0, none⟩) l.length cap], .bool true]) (by simp [results, Try.results35, go_sem, m50, m51, m52, m53, m54, r50, r51, r52, r53, r54]) rfl ⟨_, rfl, ?_, ?_⟩
  · refine RB_mk (cur := (splice L (at_ - 65536).toNat (encs (Value.int .u8) (bsS w0 wide))).toArray) l.length (putAt_length (by rw [bsS_length]; omega)).symm (by omega) ?_ hg2 hg3 (by rw [List.size_toArray, length_splice _ _ _ HF.out]; exact HL.out) (by exact splice_take L l (bsS w0 wide) _ (by rw [HL.out]; exact hg2) (by rw [bsS_length]; omega) HLt.out)
    have hlt2 := (blk2 R2.out).2.2.2.2
    repeat (first | exact HC5.out | refine (Below.heap_setCell _ _ _ _ (by simp; omega)).trans ?_)
  · repeat (first | exact B5.out | refine Below.setCell ?_ (by simp) _)
end Go.Proofs.Ytkolcgnembaghaa.H
