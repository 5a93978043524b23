/- The scanner's Name and Count; the bytes of numbers. -/
import Derived.Test.YtmcfihpbiilbcaaScanF
import Derived.WalkSmall
namespace Go.Proofs.Ytmcfihpbiilbcaa.H
open Go.RowKit Go.Proofs.YtmcfihpbiilbcaaW.PrintWords Go.Proofs.YtmcfihpbiilbcaaW.PrintLast Go.Proofs.YtmcfihpbiilbcaaW.PrintMore Go.Proofs.Ytmcfihpbiilbcaa.F
set_option linter.unusedVariables false
set_option linter.unusedSimpArgs false
theorem put_c (x : Int) (h0 : 0 ≤ x) (h1 : x ≤ 4294967295) (w : World) :
    Calls Try.prog 85 #[.int .u32 x] w fun e w' => e = .returned (.agg #[.int .u8 (x % 256), .int .u8 (x / 256 % 256), .int .u8 (x / 65536 % 256), .int .u8 (x / 16777216)]) ∧ Below w.heap.size w w' := by
  go_enter Try.func85, Try.ntmps85
  go_wp2
  refine bodyPost_ret (v := .agg #[.int .u8 (x % 256), .int .u8 (x / 256 % 256), .int .u8 (x / 65536 % 256), .int .u8 (x / 16777216)]) (by simp [results, Try.results85, go_sem]) rfl ⟨rfl, (Below.refl _ _).alloc (Nat.le_refl _) _⟩
/-- Behind two methods of one scanner. -/
theorem step2 {w w1 w2 : World} {B : Nat} {l : List Int} {i j k : Int} (h : Sc w B l i) (h1 : Below w.heap.size (w.setCell ⟨B, 1, none⟩ (.int .i64 j)) w1) (h2 : Below w1.heap.size (w1.setCell ⟨B, 1, none⟩ (.int .i64 k)) w2) :
    Below w.heap.size (w.setCell ⟨B, 1, none⟩ (.int .i64 k)) w2 := by
  have hz : w.heap.size ≤ w1.heap.size := by have := h1.size; simpa using this
  refine ⟨h2.os.trans h1.os, h2.tape.trans h1.tape, h2.output.trans h1.output, ?_, fun b hb => ?_⟩
  · have := h2.size; simp at this ⊢; omega
  · rw [h2.block b (by omega)]
    by_cases e : b = B
    · subst e
      obtain ⟨v, hc, _⟩ := h
      rw [heap_set w b v (.int .i64 i) (.int .i64 k) 106 hc]
      have h3 := h1.block b hb
      rw [heap_set w b v (.int .i64 i) (.int .i64 j) 106 hc] at h3
      exact heap_set w1 b v (.int .i64 j) (.int .i64 k) 106 h3
    · rw [Below.heap_setCell w1 _ _ b e, Below.heap_setCell w _ _ b e, h1.block b hb, Below.heap_setCell w _ _ b e]
theorem Sc.after {w w1 : World} {B : Nat} {l : List Int} {i j : Int} (h : Sc w B l i) (h1 : Below w.heap.size (w.setCell ⟨B, 1, none⟩ (.int .i64 j)) w1) : Sc w1 B l j :=
  (h.move (j := j)).below (by simpa using h1)
/-- How long the name from i on is; whether it stands there, and is one. -/
def nameLen (l : List Int) (i : Int) : Int := wordOf (mid l i 1)
def nameOf (l : List Int) (i : Int) : ByteArray := strOfNums (mid l (i + 1) (nameLen l i))
set_option maxRecDepth 100000 in
theorem name_c (B : Nat) (l : List Int) (i : Int) (w : World) (h : Sc w B l i) (h0 : 0 ≤ i) (h1 : i + 1 ≤ l.length) (h2 : i + 1 + nameLen l i ≤ l.length) (hn : 0 ≤ nameLen l i) (hl : l.length ≤ 140737488351232) (hb : Bytes l) (hN : namedB (nameOf l i) = true) :
    Calls Try.prog 42 #[.pointer (some ⟨B, 0, none⟩)] w fun e w' => e = .returned (.string (nameOf l i)) ∧ Below w.heap.size (w.setCell ⟨B, 1, none⟩ (.int .i64 (i + 1 + nameLen l i))) w' := by
  have HS := hid h
  clear h
  go_enter Try.func42, Try.ntmps42
  go_wp2_with fail
  refine (number_c B l i 1 _ HS.out h0 h1 (by omega) hl hb).mono ?_
  rintro e w1 ⟨rfl, hw1⟩
  rw [show wordOf (mid l i 1) = nameLen l i from rfl]
  have HS1 := hid (HS.out.after hw1)
  have HW1 := hid hw1
  clear hw1
  go_wp2_with fail
  refine (bytes_c B l (i + 1) (nameLen l i) _ HS1.out (by omega) h2 hn hl).mono ?_
  rintro e w2 ⟨v, rfl, hR, hw2⟩
  obtain ⟨A, c, rfl, hc, hC⟩ := Kd.R_reads hR
  have hstr : (convert 22 9 (.slice A (mid l (i + 1) (nameLen l i)).length c)).run Try.prog w2 = .ok (.string (nameOf l i)) w2 := Kd.C_string Try.underlying22 Try.underlying5 Try.underlying9 hC
  have HW2 := hid (step2 HS.out HW1.out hw2)
  have hsz : (nameOf l i).size ≤ 140737488351232 := by
    show (strOfNums _).size ≤ _
    rw [strOfNums_size, mid_length (by omega) hn h2]; omega
  clear hR hC hw2
  go_wp2_with fail
  refine (named_c (nameOf l i) _ hsz).mono ?_
  rintro e w3 ⟨rfl, hw3⟩
  rw [hN]
  have HW3 := hid (HW2.out.trans (hw3.mono (by have := HW2.out.size; simpa using this)))
  clear hw3
  go_wp2_with (go_at_call 28; (with_reducible refine (must_c _ _).mono ?_); rintro e w' ⟨rfl, rfl⟩)
  go_ret
  exact ⟨rfl, HW3.out⟩
end Go.Proofs.Ytmcfihpbiilbcaa.H
