/- Plain laws of layer 5: what is saved is loaded, and nothing else turns. -/
import Derived.Test.YtkolcgnembaghaaStoreM
namespace Go.Proofs.Ytkolcgnembaghaa.H
open Go.RowKit Go.Proofs.YtkolcgnembaghaaW.PrintWords Go.Proofs.YtkolcgnembaghaaW.PrintLast Go.Proofs.YtkolcgnembaghaaW.PrintMore Go.Proofs.Ytkolcgnembaghaa.F
set_option linter.unusedVariables false
set_option linter.unusedSimpArgs false

theorem putAt_get (l : List Int) (i : Nat) (bs : List Int) (h : i + bs.length ≤ l.length) (k : Nat) : (putAt l i bs)[k]? = if i ≤ k ∧ k < i + bs.length then bs[k - i]? else l[k]? := by
  unfold putAt
  have h1 : (l.take i).length = i := by rw [List.length_take]; omega
  have h2 : (l.take i ++ bs).length = i + bs.length := by rw [List.length_append, h1]
  by_cases c1 : k < i
  · rw [if_neg (by omega), List.getElem?_append_left (by omega), List.getElem?_append_left (by omega), List.getElem?_take_of_lt c1]
  · by_cases c2 : k < i + bs.length
    · rw [if_pos (by omega), List.getElem?_append_left (by omega), List.getElem?_append_right (by omega), h1]
    · rw [if_neg (by omega), List.getElem?_append_right (by omega), h2, List.getElem?_drop]
      congr 1; omega

theorem seg_get (l : List Int) (at_ : Int) (wide : Bool) (h0 : 65536 ≤ at_) (k : Nat) : (segS l at_ wide)[k]? = if k < (szS wide).toNat then l[(at_ - 65536).toNat + k]? else none := by
  unfold segS
  have hs := szS_range wide
  rw [List.getElem?_drop]
  by_cases c : k < (szS wide).toNat
  · rw [if_pos c, List.getElem?_take_of_lt (by omega)]
  · rw [if_neg c, List.getElem?_eq_none (by rw [List.length_take]; omega)]

theorem okS_len {l : List Int} {at_ : Int} {wide : Bool} (h : okS l.length at_ wide = true) (w : Int) : (at_ - 65536).toNat + (bsS w wide).length ≤ l.length := by
  obtain ⟨h1, h2, h3⟩ := okS_true h
  have hs := szS_range wide
  rw [bsS_length]; omega

theorem seg_same (l : List Int) (at_ w : Int) (wide : Bool) (h : okS l.length at_ wide = true) : segS (putAt l (at_ - 65536).toNat (bsS w wide)) at_ wide = bsS w wide := by
  have ho := okS_len h w
  obtain ⟨h1, h2, h3⟩ := okS_true h
  have hb := bsS_length w wide
  apply List.ext_getElem?
  intro k
  rw [seg_get _ _ _ h1]
  by_cases c : k < (szS wide).toNat
  · rw [if_pos c, putAt_get _ _ _ ho, if_pos (by omega)]
    congr 1; omega
  · rw [if_neg c, List.getElem?_eq_none (by omega)]

theorem seg_apart (l : List Int) (a b w : Int) (ha : 65536 ≤ a) (h : okS l.length b true = true) (hd : a + 4 ≤ b ∨ b + 4 ≤ a) : segS (putAt l (b - 65536).toNat (bsS w true)) a true = segS l a true := by
  have ho := okS_len h w
  obtain ⟨h1, h2, h3⟩ := okS_true h
  have hb : (bsS w true).length = 4 := rfl
  apply List.ext_getElem?
  intro k
  rw [seg_get _ _ _ ha, seg_get _ _ _ ha]
  by_cases c : k < (szS true).toNat
  · have c' : k < 4 := c
    rw [if_pos c, if_pos c, putAt_get _ _ _ ho, if_neg (by omega)]
  · rw [if_neg c, if_neg c]

theorem word_bs (w : Int) (wide : Bool) (h0 : 0 ≤ w) (h1 : w ≤ 4294967295) : wordOf (bsS w wide) = if wide then w else w % 256 := by
  cases wide
  · simp [bsS, wordOf]
  · simp [bsS, wordOf]; omega

theorem load_same (l : List Int) (at_ w : Int) (wide : Bool) (h : okS l.length at_ wide = true) (h0 : 0 ≤ w) (h1 : w ≤ 4294967295) : loadS (putAt l (at_ - 65536).toNat (bsS w wide)) at_ wide = (if wide then w else w % 256, true) := by
  unfold loadS
  rw [putAt_length (okS_len h w), h, if_pos rfl, seg_same l at_ w wide h, word_bs w wide h0 h1]

/-- Two saves, both loaded. -/
theorem load_two (l : List Int) (a b x y : Int) (ha : okS l.length a true = true) (hb : okS l.length b true = true) (x0 : 0 ≤ x) (x1 : x ≤ 4294967295) (y0 : 0 ≤ y) (y1 : y ≤ 4294967295) :
    loadS (putAt (putAt l (a - 65536).toNat (bsS x true)) (b - 65536).toNat (bsS y true)) a true = (if a = b then y else x, true) ∧ loadS (putAt (putAt l (a - 65536).toNat (bsS x true)) (b - 65536).toNat (bsS y true)) b true = (y, true) := by
  have e1 : (putAt l (a - 65536).toNat (bsS x true)).length = l.length := putAt_length (okS_len ha x)
  have hb' : okS (putAt l (a - 65536).toNat (bsS x true)).length b true = true := by rw [e1]; exact hb
  have e2 := load_same _ b y true hb' y0 y1
  refine ⟨?_, e2⟩
  by_cases e : a = b
  · subst e; rw [if_pos rfl]; exact e2
  · rw [if_neg e]
    obtain ⟨a1, a2, a3⟩ := okS_true ha
    obtain ⟨b1, b2, b3⟩ := okS_true hb
    have a3' : (a - 65536) % 4 = 0 := a3
    have b3' : (b - 65536) % 4 = 0 := b3
    have hw := seg_apart (putAt l (a - 65536).toNat (bsS x true)) a b y a1 hb' (by omega)
    unfold loadS
    rw [putAt_length (okS_len hb' y), e1, ha, if_pos rfl, hw, seg_same l a x true ha, word_bs x true x0 x1]
    rfl

/-- No other byte changes. -/
theorem put_other (l : List Int) (at_ w : Int) (wide : Bool) (h : okS l.length at_ wide = true) (k : Nat) (hk : (k : Int) < at_ - 65536 ∨ at_ - 65536 + szS wide ≤ k) : (putAt l (at_ - 65536).toNat (bsS w wide)).getD k 0 = l.getD k 0 := by
  obtain ⟨h1, h2, h3⟩ := okS_true h
  have hs := szS_range wide
  rw [List.getD_eq_getElem?_getD, List.getD_eq_getElem?_getD, putAt_get _ _ _ (okS_len h w), if_neg (by rw [bsS_length]; omega)]
end Go.Proofs.Ytkolcgnembaghaa.H
