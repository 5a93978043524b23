/- Contracts of slices.Clone and of the scanner (layer 8). -/
import Derived.Test.YtmcfihpbiilbcaaScanM
import Derived.Laws.CopyOwn
import Derived.Deep.RegionLaw
import Derived.Deep.RegionHeld3
namespace Go.Proofs.Ytmcfihpbiilbcaa.H
open Go.RowKit Go.Proofs.YtmcfihpbiilbcaaW.PrintWords Go.Proofs.YtmcfihpbiilbcaaW.PrintLast Go.Proofs.YtmcfihpbiilbcaaW.PrintMore Go.Proofs.Ytmcfihpbiilbcaa.F
set_option linter.unusedVariables false
set_option linter.unusedSimpArgs false

abbrev RB (w : World) (base : Nat) (v : Value) (l : List Int) : Prop := Kd.R (Kd.int .u8) 5 w base (fun _ => True) v l
abbrev CB (w : World) (A : Option Addr) (l : List Int) : Prop := Kd.C (Kd.int .u8) w A l.length l

theorem info5 : (Try.prog.info? 5).map (fun i => (i.zero, i.size, i.bytes)) = some (some (.int .u8 0), 1, 1) := by kernel_rfl
theorem app_c {ops : Array Oper} {rest : List Oper} {o : Oper} {a : Act} {Q : Exit → Act → World → Prop} {w0 W : World} (base : Nat) (hgd : o.guard = none) (s x : Operand)
    (ho : o.op = .call { callee := .builtin .append, args := #[s, x], argTypes := #[22, 22] }) (v : Value) (xs ys : List Int) (A : Option Addr) (c : Nat) (hs : a.eval s = v) (hx : a.eval x = .slice A ys.length c)
    (HO : RB W base v xs) (HR : CB W A ys) (HB : Below base w0 W) (hbase : base ≤ W.heap.size) (hl : xs.length + ys.length ≤ 140737488355328)
    (h : ∀ v1 w1, RB w1 base v1 (xs ++ ys) → Below base w0 w1 → W.grownBy w1 v.ownBlock → (v1.ownBlock = v.ownBlock ∨ ∃ b, v1.ownBlock = some b ∧ W.heap.size ≤ b) → wpList Try.prog ops Q rest (a.put o.dst v1) w1) :
    wpList Try.prog ops Q (o :: rest) a W :=
  Kd.R_append_row (Value.int .u8) 0 base hgd s x 22 5 (.int .u8 0) 1 ho Try.underlying22 info5 rfl (by omega) v xs ys A ys.length c (fun _ => True) hs hx (fun _ _ => trivial) HO HR HB hbase (by omega) h

theorem R_empty (w : World) : RB (w.alloc (.cells #[] 5)) w.heap.size (.slice (some ⟨w.heap.size, 0, none⟩) 0 0) [] :=
  ⟨fun _ _ => trivial, [], ⟨World.ownsRow_made w #[] 0 (Nat.le_refl _) (by decide) (by simp), Reps.none _ _⟩⟩

theorem eq_nil_some (a : Addr) (n c : Nat) (w : World) : (binOp .eql 22 (.slice (some a) n c) (.slice none 0 0)).run Try.prog w = .ok (.bool false) w := by
  have h : ∀ d : Nat, (Op.equalIn (d + 1) 22 (.slice (some a) n c) (.slice none 0 0)).run Try.prog w = .ok false w := fun d => by
    simp [Op.equalIn, run_underlying Try.underlying22]
  simp only [binOp]
  simp [Op.equal, Op.maxDepth, h 9999]
theorem eq_nil_none (n c : Nat) (w : World) : (binOp .eql 22 (.slice none n c) (.slice none 0 0)).run Try.prog w = .ok (.bool true) w := by
  have h : ∀ d : Nat, (Op.equalIn (d + 1) 22 (.slice none n c) (.slice none 0 0)).run Try.prog w = .ok true w := fun d => by
    simp [Op.equalIn, run_underlying Try.underlying22]
  simp only [binOp]
  simp [Op.equal, Op.maxDepth, h 9999]

theorem clone_c (A : Option Addr) (c : Nat) (l : List Int) (w : World) (hC : CB w A l) (hc : l.length ≤ c) (hl : l.length ≤ 140737488351232) :
    Calls Try.prog 80 #[.slice A l.length c] w fun e w' => ∃ v, e = .returned v ∧ RB w' w.heap.size v l ∧ Below w.heap.size w w' := by
  have HC := hid hC
  clear hC
  rcases A with _ | a
  · have hn : l = [] := by
      have := HC.out.2.2
      rcases Nat.eq_zero_or_pos l.length with h | h
      · exact List.eq_nil_of_length_eq_zero h
      · obtain ⟨ad, h, _⟩ := this h; cases h
    subst hn
    have he := eq_nil_none 0 c
    go_enter Try.func80, Try.ntmps80
    go_wp2
    go_ret
    exact ⟨_, rfl, Kd.R_nil _ _ _ _ _, Below.refl _ _⟩
  · have he := eq_nil_some a l.length c
    go_enter Try.func80, Try.ntmps80
    go_wp2_with (at_builtin; refine app_c (w0 := w) w.heap.size rfl (.tmp 5) (.tmp 6) rfl _ [] l (some a) c rfl rfl (R_empty w) (Kd.C_below HC.out ((Below.refl _ _).alloc (Nat.le_refl _) _)) ((Below.refl _ _).alloc (Nat.le_refl _) _) (by simp) (by simp; omega) ?_; intro v1 w1 hr hb hg hat)
    go_ret
    exact ⟨_, rfl, hr, hb⟩

/-- A scanner: its block B holds the bytes (a row of the call's own, in another block) and how many are taken. -/
def Sc (w : World) (B : Nat) (l : List Int) (i : Int) : Prop :=
  ∃ v, w.heap[B]? = some (.cells #[v, .int .i64 i] 106 (0, 0)) ∧ Kd.R (Kd.int .u8) 5 w 0 (fun k => k ≠ B) v l
theorem Sc.lt {w : World} {B : Nat} {l : List Int} {i : Int} (h : Sc w B l i) : B < w.heap.size := by
  obtain ⟨v, h, _⟩ := h
  exact (Array.getElem?_eq_some_iff.1 h).1
theorem Sc.keep {w w' : World} {B : Nat} {l : List Int} {i : Int} (h : Sc w B l i) (k : ∀ b, b < w.heap.size → w'.heap[b]? = w.heap[b]?) : Sc w' B l i := by
  obtain ⟨v, h1, h2⟩ := h
  exact ⟨v, (k B (Array.getElem?_eq_some_iff.1 h1).1).trans h1, Kd.R_step h2 (fun b _ hb => k b hb)⟩
theorem Sc.below {w w' : World} {B : Nat} {l : List Int} {i : Int} (h : Sc w B l i) (k : Below w.heap.size w w') : Sc w' B l i := h.keep k.block
theorem heap_set (w : World) (B : Nat) (a b u : Value) (t : TypeId) (h : w.heap[B]? = some (.cells #[a, b] t (0, 0))) : (w.setCell ⟨B, 1, none⟩ u).heap[B]? = some (.cells #[a, u] t (0, 0)) := by
  have h0 : B < w.heap.size := (Array.getElem?_eq_some_iff.1 h).1
  simp [World.setCell, Array.getElem?_modify, h]
theorem Sc.move {w : World} {B : Nat} {l : List Int} {i j : Int} (h : Sc w B l i) : Sc (w.setCell ⟨B, 1, none⟩ (.int .i64 j)) B l j := by
  obtain ⟨v, h1, h2⟩ := h
  exact ⟨v, heap_set w B _ _ _ _ h1, Kd.R_step h2 (fun b hb _ => Below.heap_setCell _ _ _ _ hb)⟩

theorem new_c (A : Option Addr) (c : Nat) (l : List Int) (w : World) (hC : CB w A l) (hc : l.length ≤ c) (hl : l.length ≤ 140737488351232) :
    Calls Try.prog 31 #[.slice A l.length c] w fun e w' => ∃ B, e = .returned (.pointer (some ⟨B, 0, none⟩)) ∧ w.heap.size ≤ B ∧ Sc w' B l 0 ∧ Below w.heap.size w w' := by
  have HC := hid hC
  clear hC
  go_enter Try.func31, Try.ntmps31
  go_wp2_with fail
  refine (clone_c A c l _ HC.out hc hl).mono ?_
  rintro e w1 ⟨v, rfl, hR, hb⟩
  obtain ⟨A1, c1, rfl, _, _⟩ := Kd.R_reads hR
  go_wp2
  go_ret
  refine ⟨w1.heap.size, rfl, hb.size, ⟨_, heap_alloc_new _ _, ?_⟩, below_alloc hb _⟩
  have h1 := Kd.R_bound hR
  exact Kd.R_lower (Kd.R_step (Kd.R_mono h1 (fun k hk => by have := hk.2.2.1; omega)) (fun b _ hb => Below.heap_alloc _ _ _ hb)) (Nat.zero_le _)
end Go.Proofs.Ytmcfihpbiilbcaa.H
