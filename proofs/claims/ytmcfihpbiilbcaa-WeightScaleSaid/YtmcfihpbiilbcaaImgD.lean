/- image.Read's reader. -/
import Derived.Test.YtmcfihpbiilbcaaImgC
import Derived.Lib.Bytes
namespace Go.Proofs.Ytmcfihpbiilbcaa.H
open Go.RowKit Go.Proofs.YtmcfihpbiilbcaaW.PrintWords Go.Proofs.YtmcfihpbiilbcaaW.PrintLast Go.Proofs.YtmcfihpbiilbcaaW.PrintMore Go.Proofs.Ytmcfihpbiilbcaa.E
set_option linter.unusedVariables false
set_option linter.unusedSimpArgs false
theorem strEq (L K : List Int) (hL : Bytes L) (hK : Bytes K) : ((strOfNums L).toList == (strOfNums K).toList) = decide (L = K) := by
  rw [Bool.eq_iff_iff]
  simp only [beq_iff_eq, decide_eq_true_eq]
  constructor
  · intro h
    rw [Lib.strOfNums_toList, Lib.strOfNums_toList] at h
    have e : ∀ M : List Int, Bytes M → (M.map fun n => UInt8.ofNat n.toNat).map (fun b => (b.toNat : Int)) = M := by
      intro M hM
      rw [List.map_map]
      conv => rhs; rw [← List.map_id M]
      apply List.map_congr_left
      intro x hx
      have := hM x hx
      simp
      omega
    have h1 := congrArg (fun l : List UInt8 => l.map (fun b => (b.toNat : Int))) h
    have h2 := e L hL
    have h3 := e K hK
    exact h2.symm.trans (h1.trans h3)
  · intro h; rw [h]
theorem icount_c (B : Nat) (l : List Int) (i n : Int) (w : World) (h : Sc w B l i) (h0 : 0 ≤ i) (h1 : i + 4 ≤ l.length) (hl : l.length ≤ 140737488351232) (hb : Bytes l) (hn : N4 l i ≤ n) :
    Calls Try.prog 91 #[.pointer (some ⟨B, 0, none⟩), .int .i64 n] w fun e w' => e = .returned (.int .i64 (N4 l i)) ∧ Below w.heap.size (w.setCell ⟨B, 1, none⟩ (.int .i64 (i + 4))) w' := by
  have HS := hid h
  clear h
  go_enter Try.func91, Try.ntmps91
  go_wp2_with fail
  refine (number_c B l i 4 _ HS.out h0 h1 (by omega) hl hb).mono ?_
  rintro e w1 ⟨rfl, hw1⟩
  have HW1 := hid hw1
  have hn2 : decide (wordOf (mid l i 4) ≤ n) = true := decide_eq_true hn
  clear hw1
  go_wp2_with fail
  refine (must_c _ _).mono ?_
  rintro e w2 ⟨rfl, rfl⟩
  go_wp2
  go_ret
  exact ⟨rfl, HW1.out⟩
theorem icount_form (B : Nat) (l : List Int) (i n : Int) (w : World) (h : Sc w B l i) (h0 : 0 ≤ i) (h1 : i + 4 ≤ l.length) (hl : l.length ≤ 140737488351232) (hb : Bytes l) (hn : n < N4 l i) :
    Calls Try.prog 91 #[.pointer (some ⟨B, 0, none⟩), .int .i64 n] w fun e w' => e = .panicked (fail_ 4) ∧ Aft B w w' := by
  have HS := hid h
  clear h
  go_enter Try.func91, Try.ntmps91
  go_wp2_with fail
  refine (number_c B l i 4 _ HS.out h0 h1 (by omega) hl hb).mono ?_
  rintro e w1 ⟨rfl, hw1⟩
  have HW1 := hid (Aft.of_below hw1)
  have hn2 : decide (wordOf (mid l i 4) ≤ n) = false := decide_eq_false (by unfold N4 at hn; omega)
  clear hw1
  go_wp2_with fail
  refine (must_no _ _).mono ?_
  rintro e w2 ⟨rfl, rfl⟩
  exact ⟨rfl, rfl, HW1.out⟩
theorem icount_cut (B : Nat) (l : List Int) (i n : Int) (w : World) (h : Sc w B l i) (h0 : 0 ≤ i) (h1 : i ≤ l.length) (h2 : (l.length : Int) < i + 4) (hl : l.length ≤ 140737488351232) :
    Calls Try.prog 91 #[.pointer (some ⟨B, 0, none⟩), .int .i64 n] w fun e w' => e = .panicked (fail_ 2) ∧ Aft B w w' := by
  have HS := hid h
  clear h
  go_enter Try.func91, Try.ntmps91
  go_wp2_with fail
  refine (number_no B l i 4 _ HS.out h0 h1 hl (by omega)).mono ?_
  rintro e w1 ⟨rfl, hd⟩
  exact ⟨rfl, rfl, Aft.drawn hd⟩
abbrev RU (w : World) (base : Nat) (v : Value) (l : List Int) : Prop := Kd.R (Kd.int .u32) 36 w base (fun _ => True) v l
/-- The image that was read lies in the variable N. -/
def ImgAt (w2 : World) (N n0 : Nat) (l : List Int) : Prop := ∃ vc vd, w2.heap[N]? = some (.cells #[vc, .int .i64 (rdE l), vd, .int .i64 (rdW l), .int .i64 (rdM l)] 60 (0, 0)) ∧ RU w2 n0 vc (rdC l (rdN l).toNat) ∧ RB w2 n0 vd (rdD l)
def ImgPost (w : World) (N n0 : Nat) (l : List Int) (w2 : World) (x : Int) : Prop := x = readE l ∧ Below n0 w w2 ∧ w2.heap[w.heap.size]? = some (.cells #[.int .i64 0] 25 (0, 0)) ∧ (x = 0 → ImgAt w2 N n0 l)
theorem readE_cut1 (l : List Int) (h : (l.length : Int) < 4) : readE l = 2 := by unfold readE; rw [if_pos h]
theorem readE_magic (l : List Int) (h : ¬ (l.length : Int) < 4) (hm : magicB l = false) : readE l = 4 := by unfold readE; rw [if_neg h, if_pos hm]
theorem readE_cut2 (l : List Int) (hm : magicB l = true) (h4 : ¬ (l.length : Int) < 4) (h : (l.length : Int) < 8) : readE l = 2 := by unfold readE; rw [if_neg h4, hm, if_neg (by decide), if_pos h]
theorem readE_many (l : List Int) (hm : magicB l = true) (h : ¬ (l.length : Int) < 8) (hn : 65536 < rdN l) : readE l = 4 := by unfold readE; rw [if_neg (by omega), hm, if_neg (by decide), if_neg h, if_pos hn]
theorem readE_words (l : List Int) (hm : magicB l = true) (h : ¬ (l.length : Int) < 8) (hn : ¬ 65536 < rdN l) (h2 : (l.length : Int) < rdI l + 4) : readE l = 2 := by
  unfold readE
  rw [if_neg (by omega), hm, if_neg (by decide), if_neg h, if_neg hn]
  by_cases h3 : (l.length : Int) < rdI l
  · rw [if_pos h3]
  · rw [if_neg h3, if_pos h2]
theorem readE_entry (l : List Int) (hm : magicB l = true) (h : ¬ (l.length : Int) < 8) (hn : ¬ 65536 < rdN l) (h0 : 0 ≤ rdN l) (h2 : ¬ (l.length : Int) < rdI l + 4) (he : ¬ (rdE l = 0 ∨ 0 < rdE l ∧ rdE l < rdN l)) : readE l = 4 := by
  have hI : rdI l = 8 + 4 * rdN l := rfl
  unfold readE
  rw [if_neg (by omega), hm, if_neg (by decide), if_neg h, if_neg hn, if_neg (by omega), if_neg h2, if_pos he]
theorem readE_rest (l : List Int) (hm : magicB l = true) (h : ¬ (l.length : Int) < 8) (hn : ¬ 65536 < rdN l) (h0 : 0 ≤ rdN l) (h2 : ¬ (l.length : Int) < rdI l + 4) (he : rdE l = 0 ∨ 0 < rdE l ∧ rdE l < rdN l) : readE l =
    if (l.length : Int) < rdI l + 8 then 2 else if 65536 < rdZ l then 4 else
    if (l.length : Int) < rdI l + 8 + rdZ l then 2 else
    if (l.length : Int) < rdI l + 8 + rdZ l + 4 then 2 else if rdZ l < rdW l then 4 else
    if (l.length : Int) < rdI l + 8 + rdZ l + 8 then 2 else if 65536 < rdM l then 4 else
    if rdI l + 8 + rdZ l + 8 < (l.length : Int) then 2 else 0 := by
  have hI : rdI l = 8 + 4 * rdN l := rfl
  conv => lhs; unfold readE
  rw [if_neg (by omega), hm, if_neg (by decide), if_neg h, if_neg hn, if_neg (by omega), if_neg h2, if_neg (fun q => q he)]
end Go.Proofs.Ytmcfihpbiilbcaa.H
