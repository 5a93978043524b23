/- Name: its ways out by a failure. -/
import Derived.Test.YtmcfihpbiilbcaaScanG
import Derived.Test.YtmcfihpbiilbcaaScanU
namespace Go.Proofs.Ytmcfihpbiilbcaa.H
open Go.RowKit Go.Proofs.YtmcfihpbiilbcaaW.PrintWords Go.Proofs.YtmcfihpbiilbcaaW.PrintLast Go.Proofs.YtmcfihpbiilbcaaW.PrintMore Go.Proofs.Ytmcfihpbiilbcaa.F
set_option linter.unusedVariables false
set_option linter.unusedSimpArgs false
theorem Aft.of_below {w w1 : World} {B : Nat} {j : Int} (h : Below w.heap.size (w.setCell ⟨B, 1, none⟩ (.int .i64 j)) w1) : Aft B w w1 :=
  ⟨h.os, h.tape, h.output, by have := h.size; simpa using this, fun k hk hne => (h.block k hk).trans (Below.heap_setCell w _ _ k hne)⟩
theorem Aft.then_ {w w1 w2 : World} {B : Nat} (h : Aft B w w1) (k : Aft B w1 w2) : Aft B w w2 :=
  ⟨k.os.trans h.os, k.tape.trans h.tape, k.output.trans h.output, Nat.le_trans h.size k.size, fun i hi hne => (k.block i (Nat.lt_of_lt_of_le hi h.size) hne).trans (h.block i hi hne)⟩
theorem Aft.drawn {w w1 : World} {B : Nat} (h : Drawn0 w w1) : Aft B w w1 := by
  obtain ⟨⟨n, rfl⟩⟩ := h
  exact ⟨rfl, rfl, rfl, Nat.le_refl _, fun _ _ _ => rfl⟩
theorem name_cut1 (B : Nat) (l : List Int) (i : Int) (w : World) (h : Sc w B l i) (h0 : 0 ≤ i) (h1 : i = l.length) (hl : l.length ≤ 140737488351232) :
    Calls Try.prog 42 #[.pointer (some ⟨B, 0, none⟩)] w fun e w' => e = .panicked (fail_ 2) ∧ Aft B w w' := by
  have HS := hid h
  clear h
  go_enter Try.func42, Try.ntmps42
  go_wp2_with fail
  refine (number_no B l i 1 _ HS.out h0 (by omega) hl (by omega)).mono ?_
  rintro e w1 ⟨rfl, hd⟩
  exact ⟨rfl, rfl, Aft.drawn hd⟩
theorem name_cut2 (B : Nat) (l : List Int) (i : Int) (w : World) (h : Sc w B l i) (h0 : 0 ≤ i) (h1 : i + 1 ≤ l.length) (h2 : (l.length : Int) < i + 1 + nameLen l i) (hl : l.length ≤ 140737488351232) (hb : Bytes l) :
    Calls Try.prog 42 #[.pointer (some ⟨B, 0, none⟩)] w fun e w' => e = .panicked (fail_ 2) ∧ Aft B w w' := by
  have HS := hid h
  clear h
  go_enter Try.func42, Try.ntmps42
  go_wp2_with fail
  refine (number_c B l i 1 _ HS.out h0 h1 (by omega) hl hb).mono ?_
  rintro e w1 ⟨rfl, hw1⟩
  rw [show wordOf (mid l i 1) = nameLen l i from rfl]
  have HS1 := hid (HS.out.after hw1)
  have HW1 := hid (Aft.of_below hw1)
  clear hw1
  go_wp2_with fail
  refine (bytes_no B l (i + 1) (nameLen l i) _ HS1.out (by omega) h1 hl (by omega)).mono ?_
  rintro e w2 ⟨rfl, hd⟩
  exact ⟨rfl, rfl, HW1.out.then_ (Aft.drawn hd)⟩
set_option maxRecDepth 100000 in
theorem name_form (B : Nat) (l : List Int) (i : Int) (w : World) (h : Sc w B l i) (h0 : 0 ≤ i) (h1 : i + 1 ≤ l.length) (h2 : i + 1 + nameLen l i ≤ l.length) (hn : 0 ≤ nameLen l i) (hl : l.length ≤ 140737488351232) (hb : Bytes l) (hN : namedB (nameOf l i) = false) :
    Calls Try.prog 42 #[.pointer (some ⟨B, 0, none⟩)] w fun e w' => e = .panicked (fail_ 4) ∧ Aft B w w' := by
  have HS := hid h
  clear h
  go_enter Try.func42, Try.ntmps42
  go_wp2_with fail
  refine (number_c B l i 1 _ HS.out h0 h1 (by omega) hl hb).mono ?_
  rintro e w1 ⟨rfl, hw1⟩
  rw [show wordOf (mid l i 1) = nameLen l i from rfl]
  have HS1 := hid (HS.out.after hw1)
  have HW1 := hid hw1
  clear hw1
  go_wp2_with fail
  refine (bytes_c B l (i + 1) (nameLen l i) _ HS1.out (by omega) h2 hn hl).mono ?_
  rintro e w2 ⟨v, rfl, hR, hw2⟩
  obtain ⟨A, c, rfl, hc, hC⟩ := Kd.R_reads hR
  have hstr : (convert 22 9 (.slice A (mid l (i + 1) (nameLen l i)).length c)).run Try.prog w2 = .ok (.string (nameOf l i)) w2 := Kd.C_string Try.underlying22 Try.underlying5 Try.underlying9 hC
  have HW2 := hid (step2 HS.out HW1.out hw2)
  have hsz : (nameOf l i).size ≤ 140737488351232 := by
    show (strOfNums _).size ≤ _
    rw [strOfNums_size, mid_length (by omega) hn h2]; omega
  clear hR hC hw2
  go_wp2_with fail
  refine (named_c (nameOf l i) _ hsz).mono ?_
  rintro e w3 ⟨rfl, hw3⟩
  rw [hN]
  have HW3 := hid (HW2.out.trans (hw3.mono (by have := HW2.out.size; simpa using this)))
  clear hw3
  go_wp2_with (go_at_call 28; (with_reducible refine (must_no _ _).mono ?_); rintro e w' ⟨rfl, rfl⟩)
  exact ⟨rfl, rfl, Aft.of_below HW3.out⟩
end Go.Proofs.Ytmcfihpbiilbcaa.H
