/- The scanner's methods: Number, Count; the text of bytes. -/
import Derived.Test.YtmcfihpbiilbcaaScanD
import Derived.Laws.BytesArg
namespace Go.Proofs.Ytmcfihpbiilbcaa.H
open Go.RowKit Go.Proofs.YtmcfihpbiilbcaaW.PrintWords Go.Proofs.YtmcfihpbiilbcaaW.PrintLast Go.Proofs.YtmcfihpbiilbcaaW.PrintMore Go.Proofs.Ytmcfihpbiilbcaa.F
set_option linter.unusedVariables false
set_option linter.unusedSimpArgs false
theorem Bytes.mid {l : List Int} (h : Bytes l) (i n : Int) : Bytes (mid l i n) := fun x hx => h x (List.mem_of_mem_take (List.mem_of_mem_drop hx))
theorem get_c (A : Option Addr) (c : Nat) (l : List Int) (w : World) (hr : CB w A l) (hc : l.length ≤ c) (hl : Bytes l) :
    Calls Try.prog 87 #[.slice A l.length c] w fun e w' => e = .returned (.int .u32 (wordOf l)) ∧ Below w.heap.size w w' := bits_Get.calls 5 A c l _ w hr hc (bitsGet_eq l hl)
theorem number_c (B : Nat) (l : List Int) (i n : Int) (w : World) (h : Sc w B l i) (h0 : 0 ≤ i) (h1 : i + n ≤ l.length) (hn : 0 ≤ n) (hl : l.length ≤ 140737488351232) (hb : Bytes l) :
    Calls Try.prog 41 #[.pointer (some ⟨B, 0, none⟩), .int .i64 n] w fun e w' => e = .returned (.int .i64 (wordOf (mid l i n))) ∧ Below w.heap.size (w.setCell ⟨B, 1, none⟩ (.int .i64 (i + n))) w' := by
  have hr := wordOf_range (hb.mid i n)
  have g0 : IntKind.i64.wrap (wordOf (mid l i n)) = wordOf (mid l i n) := IntWalk.i64_in _ (by omega)
  have HS := hid h
  clear h hr
  go_enter Try.func41, Try.ntmps41
  go_wp2_with fail
  refine (bytes_c B l i n _ HS.out h0 h1 hn hl).mono ?_
  rintro e w1 ⟨v, rfl, hR, hw⟩
  obtain ⟨A, c, rfl, hc, hC⟩ := Kd.R_reads hR
  have HW := hid hw
  have HC := hid hC
  clear hw hR hC
  go_wp2_with fail
  refine (get_c A c (mid l i n) _ HC.out hc (hb.mid i n)).mono ?_
  rintro e w2 ⟨rfl, hw2⟩
  have hz := HW.out.size
  have hz2 := hw2.mono (B' := w.heap.size) (by simpa using hz)
  have HW2 := hid (HW.out.trans hz2)
  clear hw2 hz hz2
  go_wp2
  go_ret
  exact ⟨rfl, HW2.out⟩
theorem number_no (B : Nat) (l : List Int) (i n : Int) (w : World) (h : Sc w B l i) (h0 : 0 ≤ i) (h1 : i ≤ l.length) (hl : l.length ≤ 140737488351232) (hn : (l.length : Int) - i < n) :
    Calls Try.prog 41 #[.pointer (some ⟨B, 0, none⟩), .int .i64 n] w fun e w' => e = .panicked (fail_ 2) ∧ Drawn0 w w' := by
  have HS := hid h
  clear h
  go_enter Try.func41, Try.ntmps41
  go_wp2_with fail
  refine (bytes_no B l i n _ HS.out h0 h1 hl hn).mono ?_
  rintro e w1 ⟨rfl, hd⟩
  exact ⟨rfl, rfl, hd⟩
end Go.Proofs.Ytmcfihpbiilbcaa.H
